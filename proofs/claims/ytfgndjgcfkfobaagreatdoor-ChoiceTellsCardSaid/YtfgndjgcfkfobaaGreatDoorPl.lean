/- What the plain functions answer. -/
import Derived.Test.YtfgndjgcfkfobaaGreatDoorBase1
import Derived.Test.YtfgndjgcfkfobaaGreatDoorSh
import Derived.KernelRfl
set_option linter.unusedSimpArgs false
set_option linter.unusedVariables false
section
/- What is used to reason about the plain functions. -/
namespace Pl
open Go Go.Av

theorem w64_id {n : Int} (h1 : -9223372036854775808 ≤ n) (h2 : n < 9223372036854775808) : w64 n = n := i64_wrap h1 h2
theorem idx_at {α : Type} {l : List α} {k : Nat} (h : k < l.length) : Sh.idx l (k : Int) = some l[k] := by
  simp [Sh.idx, h]
theorem idx_of {α : Type} {l : List α} {i : Int} (h0 : 0 ≤ i) (h : i < l.length) : Sh.idx l i = some (l[i.toNat]'(by omega)) := by
  unfold Sh.idx
  rw [if_pos h0]
  exact List.getElem?_eq_getElem (by omega)
theorem app_ok {α : Type} {b : Nat} {l m : List α} (h : (l.length + m.length) * b ≤ 140737488355328) : Sh.app b l m = some (l ++ m) := by
  simp [Sh.app, h]
theorem mk_ok {α : Type} {b m : Nat} {z : α} (h : b * m ≤ 140737488355328) (h2 : m ≤ 4611686018427387904) : Sh.mk b (m : Int) (m : Int) z = some (List.replicate m z) := by
  have : ((b : Int) * (m : Int)) ≤ 140737488355328 := by
    rw [← Int.natCast_mul]; omega
  unfold Sh.mk
  rw [if_pos ⟨by omega, by omega, this, by omega⟩]
  simp
theorem sub_ok {α : Type} {l : List α} {m k : Nat} (h1 : m ≤ k) (h2 : k ≤ l.length) : Sh.sub l (m : Int) (k : Int) = some ((l.drop m).take (k - m)) := by
  unfold Sh.sub
  rw [if_pos ⟨by omega, by omega, by omega⟩]
  simp
theorem set_at {α : Type} (l : List α) (k : Nat) (x : α) : Sh.set l (k : Int) x = l.set k x := by simp [Sh.set]
theorem cpy_ok {α : Type} {l m : List α} (h : m.length = l.length) : Sh.cpy l m = some m := by simp [Sh.cpy, h]

theorem count {σ α : Type} {b : σ × Int → Option ((σ × Int) ⊕ α)} (S : Nat → σ) (m : Nat) (r : α) (hm : m < Sh.FUEL) (h : ∀ k, k < m → b (S k, (k : Int)) = some (.inl (S (k + 1), ((k + 1 : Nat) : Int)))) (hr : b (S m, (m : Int)) = some (.inr r)) {s : σ} (hs : s = S 0) :
    Sh.loop b (s, 0) = some r := by
  subst hs
  exact Sh.loop_run (fun k => (S k, (k : Int))) m r hm h hr
theorem next_some {σ α : Type} (s : σ) : Sh.next (α := α) s = some (.inl s) := rfl
theorem exit_some {σ α : Type} (x : α) : Sh.exit (σ := σ) (some x) = some (.inr x) := rfl
theorem fuel_gt {n : Nat} (h : n < 9223372036854775808) : n < Sh.FUEL := h
theorem w64_succ {k : Nat} (h : k < 9223372036854775807) : w64 ((k : Int) + 1) = ((k + 1 : Nat) : Int) := by
  rw [w64_id (by omega) (by omega)]; omega
theorem len_eq {α : Type} (l : List α) : Sh.len l = (l.length : Int) := rfl
theorem dec_lt {k n : Nat} : decide ((k : Int) < (n : Int)) = decide (k < n) := by
  congr 1; exact propext (by omega)
end Pl
namespace Pl
open Go Go.Av
theorem scan {α : Type} {b : Int → Option (Int ⊕ α)} (s m : Nat) (p : Nat → Bool) (A B : α) (hsm : s ≤ m) (hm : m < Sh.FUEL) (h : ∀ k, s ≤ k → k < m → b (k : Int) = if p k then some (.inl ((k + 1 : Nat) : Int)) else some (.inr B)) (hr : b (m : Int) = some (.inr A)) :
    Sh.loop b (s : Int) = some (if ∀ k, k < m → s ≤ k → p k = true then A else B) := by
  by_cases hall : ∀ k, k < m → s ≤ k → p k = true
  · rw [if_pos hall]
    refine Sh.loop_run (fun k => ((s + k : Nat) : Int)) (m - s) A (by omega) (fun k hk => ?_) ?_
    · rw [h (s + k) (by omega) (by omega), if_pos (hall _ (by omega) (by omega))]; rfl
    · rw [show s + (m - s) = m by omega]; exact hr
  · rw [if_neg hall]
    have hex : ∃ k, s ≤ k ∧ k < m ∧ p k = false := by
      apply Classical.byContradiction
      intro hn
      exact hall (fun k h2 h1 => by
        cases hp : p k with
        | true => rfl
        | false => exact absurd ⟨k, h1, h2, hp⟩ hn)
    obtain ⟨k, hk, hmin⟩ := exists_least _ hex
    refine Sh.loop_run (fun q => ((s + q : Nat) : Int)) (k - s) B (by omega) (fun q hq => ?_) ?_
    · have : p (s + q) = true := by
        cases hp : p (s + q) with
        | true => rfl
        | false => have := hmin (s + q) ⟨by omega, by omega, hp⟩; omega
      rw [h (s + q) (by omega) (by omega), if_pos this]; rfl
    · rw [show s + (k - s) = k by omega, h k hk.1 hk.2.1, if_neg (by rw [hk.2.2]; simp)]
theorem scan0 {α : Type} {b : Int → Option (Int ⊕ α)} (m : Nat) (p : Nat → Bool) (A B : α) (hm : m < Sh.FUEL) (h : ∀ k, k < m → b (k : Int) = if p k then some (.inl ((k + 1 : Nat) : Int)) else some (.inr B)) (hr : b (m : Int) = some (.inr A)) :
    Sh.loop b 0 = some (if ∀ k, k < m → p k = true then A else B) := by
  have := scan 0 m p A B (by omega) hm (fun k _ hk => h k hk) hr
  simpa using this
theorem scan_true {b : Int → Option (Int ⊕ Bool)} (m : Nat) (p : Nat → Bool) (hm : m < Sh.FUEL) (h : ∀ k, k < m → b (k : Int) = if p k then some (.inl ((k + 1 : Nat) : Int)) else some (.inr false)) (hr : b (m : Int) = some (.inr true)) :
    Sh.loop b 0 = some (decide (∀ k, k < m → p k = true)) := by
  rw [scan0 m p true false hm h hr]
  by_cases hq : ∀ k, k < m → p k = true
  · rw [if_pos hq, decide_eq_true hq]
  · rw [if_neg hq, decide_eq_false hq]
end Pl
namespace Pl
open Go Go.Av
theorem run_exit {σ α : Type} {b : σ → Option (σ ⊕ α)} (S : Nat → σ) (m : Nat) (X : Option α) (hm : m < Sh.FUEL) (h : ∀ k, k < m → b (S k) = some (.inl (S (k + 1)))) (hr : b (S m) = Sh.exit X) {s : σ} (hs : s = S 0) : Sh.loop b s = X := by
  subst hs
  unfold Sh.loop
  rw [show Sh.FUEL = m + ((Sh.FUEL - m - 1) + 1) by omega, Sh.iter_go S m h]
  simp only [Sh.iter, hr]
  cases X <;> rfl
theorem count_exit {σ α : Type} {b : σ × Int → Option ((σ × Int) ⊕ α)} (S : Nat → σ) (m : Nat) (X : Option α) (hm : m < Sh.FUEL) (h : ∀ k, k < m → b (S k, (k : Int)) = some (.inl (S (k + 1), ((k + 1 : Nat) : Int)))) (hr : b (S m, (m : Int)) = Sh.exit X) {s : σ} (hs : s = S 0) :
    Sh.loop b (s, 0) = X := run_exit (fun k => (S k, (k : Int))) m X hm h hr (by rw [hs]; rfl)
end Pl
end

section
/- Loops over lists. -/
namespace Pl
open Go Go.Av

def foldE {σ α β : Type} (step : Nat → σ → α → σ ⊕ β) (X : σ → Option β) : Nat → List α → σ → Option β
  | _, [], s => X s
  | k, x :: l, s => match step k s x with
    | .inl s' => foldE step X (k + 1) l s'
    | .inr r => some r

theorem loop_step {σ β : Type} {b : σ → Option (σ ⊕ β)} {n : Nat} {s s' : σ} (h : b s = some (.inl s')) : Sh.iter b (n + 1) s = Sh.iter b n s' := by simp [Sh.iter, h]
theorem loop_stop {σ β : Type} {b : σ → Option (σ ⊕ β)} {n : Nat} {s : σ} {r : β} (h : b s = some (.inr r)) : Sh.iter b (n + 1) s = some r := by simp [Sh.iter, h]
theorem loop_exit {σ β : Type} {b : σ → Option (σ ⊕ β)} {n : Nat} {s : σ} {X : Option β} (h : b s = Sh.exit X) : Sh.iter b (n + 1) s = X := by cases X <;> simp [Sh.iter, h, Sh.exit]

theorem iter_fold {σ τ α β : Type} {b : τ → Option (τ ⊕ β)} (S : σ → Nat → τ) (step : Nat → σ → α → σ ⊕ β) (X : σ → Option β) (l0 : List α)
    (h : ∀ (k : Nat) (s : σ) (hk : k < l0.length), b (S s k) = match step k s l0[k] with | .inl s' => some (.inl (S s' (k + 1))) | .inr r => some (.inr r))
    (he : ∀ s, b (S s l0.length) = Sh.exit (X s)) : ∀ (l : List α) (k n : Nat) (s : σ), l0.drop k = l → k ≤ l0.length → l.length < n → Sh.iter b n (S s k) = foldE step X k l s := by
  intro l
  induction l with
  | nil =>
    intro k n s hl hk hn
    have hk2 : k = l0.length := by
      have : (l0.drop k).length = 0 := by rw [hl]; rfl
      simp at this; omega
    subst hk2
    obtain ⟨n, rfl⟩ : ∃ m, n = m + 1 := ⟨n - 1, by simp at hn; omega⟩
    exact loop_exit (he s)
  | cons x l ih =>
    intro k n s hl hk hn
    have hlen : (l0.drop k).length = l.length + 1 := by rw [hl]; rfl
    have hk2 : k < l0.length := by simp at hlen; omega
    obtain ⟨n, rfl⟩ : ∃ m, n = m + 1 := ⟨n - 1, by simp at hn; omega⟩
    have hx : l0[k] = x ∧ l0.drop (k + 1) = l := by
      rw [List.drop_eq_getElem_cons hk2] at hl
      simp only [List.cons.injEq] at hl
      exact hl
    have hb := h k s hk2
    rw [hx.1] at hb
    simp only [foldE]
    cases hs : step k s x with
    | inl s' =>
      rw [hs] at hb
      rw [loop_step hb]
      exact ih (k + 1) n s' hx.2 hk2 (by simp at hn; omega)
    | inr r =>
      rw [hs] at hb
      exact loop_stop hb

theorem loop_fold {σ τ α β : Type} {b : τ → Option (τ ⊕ β)} (S : σ → Nat → τ) (step : Nat → σ → α → σ ⊕ β) (X : σ → Option β) (l : List α) (hm : l.length < Sh.FUEL)
    (h : ∀ (k : Nat) (s : σ) (hk : k < l.length), b (S s k) = match step k s l[k] with | .inl s' => some (.inl (S s' (k + 1))) | .inr r => some (.inr r))
    (he : ∀ s, b (S s l.length) = Sh.exit (X s)) (s : σ) {t : τ} (ht : t = S s 0) : Sh.loop b t = foldE step X 0 l s := by
  subst ht
  exact iter_fold S step X l h he l 0 Sh.FUEL s rfl (Nat.zero_le _) hm

theorem find_loop {α β : Type} {b : Int → Option (Int ⊕ β)} (l : List α) (p : α → Bool) (A : Nat → β) (X : Option β) (hm : l.length < Sh.FUEL)
    (h : ∀ (k : Nat) (hk : k < l.length), b (k : Int) = if p l[k] then some (.inr (A k)) else some (.inl ((k + 1 : Nat) : Int)))
    (he : b (l.length : Int) = Sh.exit X) : Sh.loop b 0 = (l.findIdx? p).elim X (fun k => some (A k)) := by
  rw [loop_fold (σ := Unit) (α := α) (fun _ k => (k : Int)) (fun k _ x => if p x then .inr (A k) else .inl ()) (fun _ => X) l hm (fun k s hk => ?_) (fun _ => he) () (t := (0 : Int)) rfl]
  · have key : ∀ (l : List α) (k : Nat), foldE (fun k (_ : Unit) x => if p x then Sum.inr (A k) else Sum.inl ()) (fun _ => X) k l () = (l.findIdx? p).elim X (fun i => some (A (k + i))) := by
      intro l
      induction l with
      | nil => intro k; simp [foldE]
      | cons x l ih =>
        intro k
        simp only [foldE, List.findIdx?_cons]
        cases hp : p x with
        | true => simp
        | false =>
          simp only [Bool.false_eq_true, if_false]
          rw [ih (k + 1)]
          cases l.findIdx? p with
          | none => rfl
          | some i => simp only [Option.map_some, Option.elim_some]; congr 2; omega
    rw [key l 0]
    simp
  · rw [h k hk]
    cases p l[k] <;> rfl

theorem any_loop {α β : Type} {b : Int → Option (Int ⊕ β)} (l : List α) (p : α → Bool) (A : β) (X : Option β) (hm : l.length < Sh.FUEL)
    (h : ∀ (k : Nat) (hk : k < l.length), b (k : Int) = if p l[k] then some (.inr A) else some (.inl ((k + 1 : Nat) : Int)))
    (he : b (l.length : Int) = Sh.exit X) : Sh.loop b 0 = if l.any p then some A else X := by
  rw [find_loop l p (fun _ => A) X hm h he]
  cases hf : l.findIdx? p with
  | none =>
    have : l.any p = false := by
      rw [List.findIdx?_eq_none_iff] at hf
      rw [List.any_eq_false]
      intro x hx
      simpa using hf x hx
    rw [this]; rfl
  | some i =>
    have : l.any p = true := by
      rw [List.any_eq_true]
      rw [List.findIdx?_eq_some_iff_getElem] at hf
      obtain ⟨hi, hp, _⟩ := hf
      exact ⟨l[i], List.getElem_mem hi, hp⟩
    rw [this]; rfl

def pos {α : Type} (l : List α) (p : α → Bool) : Int := (l.findIdx? p).elim (-1) (fun k => (k : Int))
theorem pos_some {α : Type} (l : List α) (p : α → Bool) : (l.findIdx? p).elim (some (-1 : Int)) (fun k => some (k : Int)) = some (pos l p) := by unfold pos; cases l.findIdx? p <;> rfl
theorem contains_of_find {α : Type} (l : List α) (p : α → Bool) : decide ((0 : Int) ≤ pos l p) = l.any p := by
  unfold pos
  cases hf : l.findIdx? p with
  | none =>
    have : l.any p = false := by
      rw [List.findIdx?_eq_none_iff] at hf
      rw [List.any_eq_false]
      intro x hx
      simpa using hf x hx
    rw [this]; rfl
  | some i =>
    have : l.any p = true := by
      rw [List.any_eq_true]
      rw [List.findIdx?_eq_some_iff_getElem] at hf
      obtain ⟨hi, hp, _⟩ := hf
      exact ⟨l[i], List.getElem_mem hi, hp⟩
    rw [this]; simp
end Pl
end

section
/- Whether a history may be. -/
namespace Pl
open Go Go.Av

theorem pIdx {l : List Int} (hl : l.length < 9223372036854775808) (v : Int) : G.slices_Index_int_int l v = some (pos l (fun x => decide (v = x))) := by
  unfold G.slices_Index_int_int
  rw [find_loop l (fun x => decide (v = x)) (fun k => (k : Int)) (some (-1)) (fuel_gt hl) (fun k hk => ?_) ?_, pos_some]
  · simp [G.slices_Index_int_int_b1, G.slices_Index_int_int_j1]
  · simp only [G.slices_Index_int_int_b1, dec_lt, hk, decide_true, if_true, idx_at hk, Option.bind_some, w64_succ (show k < 9223372036854775807 by omega)]
    rfl
theorem pHas {l : List Int} (hl : l.length < 9223372036854775808) (v : Int) : G.slices_Contains_int_int l v = some (l.any (fun x => decide (v = x))) := by
  unfold G.slices_Contains_int_int
  rw [pIdx hl, Option.bind_some, contains_of_find]

def rising : Int → List Int → Bool
  | _, [] => true
  | last, x :: l => decide (last < x) && decide (x < 16) && rising x l
def hasW (t : G.api_Txn) (k : Int) : Bool := t.Writes.any (fun x => decide (k = x))
def there (h : G.api_Hist) (n : Int) (x : G.api_Take) : Bool :=
  decide (x.From = -1) || (decide (0 ≤ x.From) && decide (x.From < (h.Txns.length : Int)) && decide (x.From ≠ n) && match h.Txns[x.From.toNat]? with | some t => hasW t x.Key | none => false)
def takes (h : G.api_Hist) (n : Int) : Int → List G.api_Take → Bool
  | _, [] => true
  | last, x :: l => decide (last < x.Key) && decide (x.Key < 16) && there h n x && takes h n x.Key l
def okT (h : G.api_Hist) (n : Int) (t : G.api_Txn) : Bool := rising (-1) t.Writes && takes h n (-1) t.Reads && decide (0 ≤ t.Session) && decide (t.Session < 8)
def okAll (h : G.api_Hist) : Nat → List G.api_Txn → Bool
  | _, [] => true
  | n, t :: l => okT h n t && okAll h (n + 1) l
def right (h : G.api_Hist) : Bool := decide (h.Txns.length ≤ 32) && okAll h 0 h.Txns

structure Fits (h : G.api_Hist) : Prop where
  txns : h.Txns.length < 9223372036854775807
  writes : ∀ t ∈ h.Txns, t.Writes.length < 9223372036854775807
  reads : ∀ t ∈ h.Txns, t.Reads.length < 9223372036854775807

theorem y1 (c y : Bool) : G.hist_Right__r c y = some (if y then (c, true) else (false, false)) := by cases y <;> rfl

theorem pThere {h : G.api_Hist} (hf : Fits h) (n : Int) (x : G.api_Take) {α : Type} (K : Bool → Option α) :
    (if decide (x.From = (-1)) then K true else if decide ((0 : Int) ≤ x.From) then if decide (x.From < (Sh.len h.Txns)) then if decide (x.From ≠ n) then (Sh.idx h.Txns x.From).bind fun x840 => (G.slices_Contains_int_int x840.Writes x.Key).bind fun r842 => K r842 else K false else K false else K false) = K (there h n x) := by
  unfold there
  by_cases h1 : x.From = -1
  · simp [h1]
  · by_cases h2 : 0 ≤ x.From
    · by_cases h3 : x.From < (h.Txns.length : Int)
      · by_cases h4 : x.From = n
        · subst h4; simp [h1, h2, h3]
        · have h5 : h.Txns[x.From.toNat]? = some (h.Txns[x.From.toNat]'(by omega)) := List.getElem?_eq_getElem (by omega)
          rw [idx_of h2 h3, h5]
          have := hf.writes _ (List.getElem_mem (show x.From.toNat < h.Txns.length by omega))
          have h6 := pHas (l := (h.Txns[x.From.toNat]'(by omega)).Writes) (by omega) x.Key
          simp [h1, h2, h3, h4, h6, hasW]
      · simp [h1, h2, h3]
    · simp [h1, h2]

theorem pReads {h : G.api_Hist} (hf : Fits h) (n : Int) (t : G.api_Txn) (ht : t ∈ h.Txns) (c : Bool) : G.hist_faults_1__hist_Right__r_j2 h n t c = if takes h n (-1) t.Reads then G.hist_faults_1__hist_Right__r_j3 n t c else some (.inr (false, false)) := by
  unfold G.hist_faults_1__hist_Right__r_j2
  have hl := hf.reads t ht
  rw [loop_fold (σ := Bool × Int) (fun s k => (s.1, s.2, (k : Int))) (fun _ s x => if decide (s.2 < x.Key) && decide (x.Key < 16) && there h n x then .inl (s.1, x.Key) else .inr (.inr (false, false))) (fun s => G.hist_faults_1__hist_Right__r_j3 n t s.1) t.Reads (fuel_gt (by omega)) (fun k s hk => ?_) (fun s => ?_) (c, -1) (t := (c, (-1 : Int), (0 : Int))) rfl]
  · have key : ∀ (l : List G.api_Take) (k : Nat) (last : Int), foldE (fun _ (s : Bool × Int) (x : G.api_Take) => if decide (s.2 < x.Key) && decide (x.Key < 16) && there h n x then Sum.inl (s.1, x.Key) else Sum.inr (.inr (false, false))) (fun s => G.hist_faults_1__hist_Right__r_j3 n t s.1) k l (c, last) = if takes h n last l then G.hist_faults_1__hist_Right__r_j3 n t c else some (.inr (false, false)) := by
      intro l
      induction l with
      | nil => intro k last; simp [foldE, takes]
      | cons x l ih =>
        intro k last
        simp only [foldE]
        rw [show takes h n last (x :: l) = (decide (last < x.Key) && decide (x.Key < 16) && there h n x && takes h n x.Key l) from rfl]
        by_cases hq : (decide (last < x.Key) && decide (x.Key < 16) && there h n x) = true
        · rw [if_pos hq, hq, Bool.true_and]; exact ih (k + 1) x.Key
        · rw [if_neg hq, Bool.eq_false_iff.2 hq]; simp
    exact key t.Reads 0 (-1)
  · obtain ⟨c, last⟩ := s
    simp only [G.hist_faults_1__hist_Right__r_b2, dec_lt, hk, decide_true, if_true, idx_at hk, Option.bind_some]
    rw [pThere hf n t.Reads[k] (fun b => G.hist_faults_1__hist_Right__r_j4 c last k t.Reads[k] b)]
    simp only [G.hist_faults_1__hist_Right__r_j4, y1, G.hist_faults_1__hist_Right__r_j5, w64_succ (show k < 9223372036854775807 by omega), Option.bind_some]
    by_cases h1 : last < t.Reads[k].Key
    · by_cases h2 : t.Reads[k].Key < 16
      · cases h3 : there h n t.Reads[k] <;> simp [h1, h2, Sh.exit, Sh.next]
      · simp [h1, h2, Sh.exit]
    · simp [h1, Sh.exit]
  · simp [G.hist_faults_1__hist_Right__r_b2]

theorem pWrites {h : G.api_Hist} (hf : Fits h) (n : Nat) (hn : n < 9223372036854775807) (t : G.api_Txn) (ht : t ∈ h.Txns) (c : Bool) :
    Sh.loop (fun (p : Bool × Int × Int) => G.hist_faults_1__hist_Right__r_b3 h n t p.1 p.2.1 p.2.2) (c, (-1), 0) = if okT h n t then some (.inl (c, ((n + 1 : Nat) : Int))) else some (.inr (false, false)) := by
  have hl := hf.writes t ht
  rw [loop_fold (σ := Bool × Int) (fun s k => (s.1, s.2, (k : Int))) (fun _ s x => if decide (s.2 < x) && decide (x < 16) then .inl (s.1, x) else .inr (.inr (false, false))) (fun s => G.hist_faults_1__hist_Right__r_j2 h n t s.1) t.Writes (fuel_gt (by omega)) (fun k s hk => ?_) (fun s => ?_) (c, -1) (t := (c, (-1 : Int), (0 : Int))) rfl]
  · have key : ∀ (l : List Int) (k : Nat) (last : Int), foldE (fun _ (s : Bool × Int) (x : Int) => if decide (s.2 < x) && decide (x < 16) then Sum.inl (s.1, x) else Sum.inr (.inr (false, false))) (fun s => G.hist_faults_1__hist_Right__r_j2 h n t s.1) k l (c, last) = if rising last l then G.hist_faults_1__hist_Right__r_j2 h n t c else some (.inr (false, false)) := by
      intro l
      induction l with
      | nil => intro k last; simp [foldE, rising]
      | cons x l ih =>
        intro k last
        simp only [foldE]
        rw [show rising last (x :: l) = (decide (last < x) && decide (x < 16) && rising x l) from rfl]
        by_cases hq : (decide (last < x) && decide (x < 16)) = true
        · rw [if_pos hq, hq, Bool.true_and]; exact ih (k + 1) x
        · rw [if_neg hq, Bool.eq_false_iff.2 hq]; simp
    rw [key t.Writes 0 (-1), pReads hf n t ht]
    unfold okT
    cases h1 : rising (-1) t.Writes
    · simp
    · cases h2 : takes h n (-1) t.Reads
      · simp
      · simp only [G.hist_faults_1__hist_Right__r_j3, y1, G.hist_faults_1__hist_Right__r_j1, w64_succ hn, Option.bind_some]
        by_cases h3 : 0 ≤ t.Session
        · by_cases h4 : t.Session < 8 <;> simp [h3, h4, Sh.exit, Sh.next]
        · simp [h3, Sh.exit]
  · obtain ⟨c, last⟩ := s
    simp only [G.hist_faults_1__hist_Right__r_b3, dec_lt, hk, decide_true, if_true, idx_at hk, Option.bind_some, y1, G.hist_faults_1__hist_Right__r_j6, w64_succ (show k < 9223372036854775807 by omega)]
    by_cases h1 : last < t.Writes[k]
    · by_cases h2 : t.Writes[k] < 16 <;> simp [h1, h2, Sh.exit, Sh.next]
    · simp [h1, Sh.exit]
  · simp [G.hist_faults_1__hist_Right__r_b3]

theorem pRight {h : G.api_Hist} (hf : Fits h) : G.hist_Right h = some (right h) := by
  have hl := hf.txns
  have hloop : ∀ c, Sh.loop (fun (p : Bool × Int) => G.hist_faults_1__hist_Right__r_b1 h p.1 p.2) (c, 0) = if okAll h 0 h.Txns then some (c, true) else some (false, false) := by
    intro c
    rw [loop_fold (σ := Bool) (fun s k => (s, (k : Int))) (fun k s x => if okT h k x then .inl s else .inr (false, false)) (fun s => some (s, true)) h.Txns (fuel_gt (by omega)) (fun k s hk => ?_) (fun s => ?_) c (t := (c, (0 : Int))) rfl]
    · have key : ∀ (l : List G.api_Txn) (k : Nat), foldE (fun k (s : Bool) (x : G.api_Txn) => if okT h (k : Nat) x then Sum.inl s else Sum.inr (false, false)) (fun s => some (s, true)) k l c = if okAll h k l then some (c, true) else some (false, false) := by
        intro l
        induction l with
        | nil => intro k; simp [foldE, okAll]
        | cons x l ih =>
          intro k
          simp only [foldE]
          rw [show okAll h k (x :: l) = (okT h (k : Nat) x && okAll h (k + 1) l) from rfl]
          by_cases hq : okT h (k : Nat) x = true
          · rw [if_pos hq, hq, Bool.true_and]; exact ih (k + 1)
          · rw [if_neg hq, Bool.eq_false_iff.2 hq]; simp
      exact key h.Txns 0
    · simp only [G.hist_faults_1__hist_Right__r_b1, dec_lt, hk, decide_true, if_true, idx_at hk, Option.bind_some]
      rw [pWrites hf k (by omega) _ (List.getElem_mem hk)]
      cases okT h k h.Txns[k] <;> rfl
    · simp [G.hist_faults_1__hist_Right__r_b1]
  unfold G.hist_Right G.hist_faults G.hist_faults_1__hist_Right__r right
  simp only [Option.bind_some, y1, len_eq]
  by_cases h1 : h.Txns.length ≤ 32
  · have h2 : ((h.Txns.length : Int) ≤ 32) := by omega
    simp only [h1, h2, decide_true, if_true, hloop, Bool.true_and]
    cases okAll h 0 h.Txns <;> simp
  · have h2 : ¬ ((h.Txns.length : Int) ≤ 32) := by omega
    simp [h1, h2]

theorem rWrites {t : G.api_Txn} (hl : t.Writes.length < 9223372036854775807) (k : Int) : G.inquestref08_Writes t k = some (hasW t k) := by
  unfold G.inquestref08_Writes hasW
  rw [any_loop t.Writes (fun x => decide (k = x)) true (some false) (fuel_gt (by omega)) (fun i hi => ?_) ?_]
  · cases t.Writes.any (fun x => decide (k = x)) <;> rfl
  · simp [G.inquestref08_Writes_b1, G.inquestref08_Writes_j1]
  · simp only [G.inquestref08_Writes_b1, dec_lt, hi, decide_true, if_true, idx_at hi, Option.bind_some, w64_succ (show i < 9223372036854775807 by omega), Sh.exit, Sh.next, Option.map_some]
    by_cases h1 : t.Writes[i] = k
    · simp [h1]
    · have : ¬ k = t.Writes[i] := fun h => h1 h.symm
      simp [h1, this]
end Pl
end

section
/- Edges, one by one: what the program and the reference answer. -/


namespace Pl
open Go Go.Av

def tx (h : G.api_Hist) (x : Int) : G.api_Txn := (h.Txns[x.toNat]?).getD default
def inr (h : G.api_Hist) (x : Int) : Bool := decide (0 ≤ x) && decide (x < (h.Txns.length : Int))
theorem inr_iff {h : G.api_Hist} {x : Int} : inr h x = true ↔ 0 ≤ x ∧ x < (h.Txns.length : Int) := by simp [inr]
theorem idx_tx {h : G.api_Hist} {x : Int} (hx : inr h x = true) : Sh.idx h.Txns x = some (tx h x) := by
  rw [inr_iff] at hx
  rw [idx_of hx.1 hx.2]
  simp [tx, List.getElem?_eq_getElem (show x.toNat < h.Txns.length by omega)]
theorem tx_mem {h : G.api_Hist} {x : Int} (hx : inr h x = true) : tx h x ∈ h.Txns := by
  rw [inr_iff] at hx
  simp only [tx, List.getElem?_eq_getElem (show x.toNat < h.Txns.length by omega), Option.getD_some]
  exact List.getElem_mem _

def isW (h : G.api_Hist) (x y : Int) (c : G.api_Choice) : Bool := decide (c.A = x) && decide (c.B = y) && decide (x ≠ y) && hasW (tx h x) c.Key && hasW (tx h y) c.Key
def dirS (h : G.api_Hist) (l : List G.api_Choice) (x y : Int) : Bool :=
  (decide (x < y) && decide ((tx h x).Session = (tx h y).Session)) || (tx h y).Reads.any (fun r => decide (r.From = x)) || l.any (isW h x y)
def isO (h : G.api_Hist) (l : List G.api_Choice) (y : Int) (r : G.api_Take) : Bool :=
  hasW (tx h y) r.Key && (decide (r.From < 0) || (decide (r.From ≠ y) && l.any (fun c => decide (G.api_Choice.mk r.Key r.From y = c))))
def antS (h : G.api_Hist) (l : List G.api_Choice) (x y : Int) : Bool := decide (x ≠ y) && (tx h x).Reads.any (isO h l y)
def two (h : G.api_Hist) (x y : Int) : Bool := right h && inr h x && inr h y
def direct (h : G.api_Hist) (l : List G.api_Choice) (x y : Int) : Bool := two h x y && dirS h l x y
def anti (h : G.api_Hist) (l : List G.api_Choice) (x y : Int) : Bool := two h x y && antS h l x y
def edge (h : G.api_Hist) (lev : Int) (l : List G.api_Choice) (x y : Int) : Bool :=
  if lev = 0 then direct h l x y || anti h l x y
  else if lev = 1 then (List.range h.Txns.length).any (fun m => direct h l x m && (decide ((m : Int) = y) || anti h l m y))
  else false
theorem right_reads {h : G.api_Hist} (hr : right h = true) {t : G.api_Txn} (ht : t ∈ h.Txns) : ∃ n : Int, takes h n (-1) t.Reads = true := by
  simp only [right, Bool.and_eq_true] at hr
  have key : ∀ (l : List G.api_Txn) (n : Nat), okAll h n l = true → ∀ t ∈ l, ∃ n : Int, okT h n t = true := by
    intro l
    induction l with
    | nil => intro n _ t ht; cases ht
    | cons x l ih =>
      intro n hn t ht
      rw [show okAll h n (x :: l) = (okT h (n : Nat) x && okAll h (n + 1) l) from rfl, Bool.and_eq_true] at hn
      rcases List.mem_cons.1 ht with rfl | ht
      · exact ⟨_, hn.1⟩
      · exact ih _ hn.2 t ht
  obtain ⟨n, hn⟩ := key _ 0 hr.2 t ht
  simp only [okT, Bool.and_eq_true] at hn
  exact ⟨n, hn.1.1.2⟩
theorem takes_there {h : G.api_Hist} {n : Int} : ∀ {l : List G.api_Take} {last : Int}, takes h n last l = true → ∀ r ∈ l, there h n r = true
  | [], _, _, r, hr => by cases hr
  | x :: l, last, ht, r, hr => by
    rw [show takes h n last (x :: l) = (decide (last < x.Key) && decide (x.Key < 16) && there h n x && takes h n x.Key l) from rfl] at ht
    simp only [Bool.and_eq_true] at ht
    rcases List.mem_cons.1 hr with rfl | hr
    · exact ht.1.2
    · exact takes_there ht.2 r hr
end Pl
end

section
/- Rings of edges, and what the reference answers of edges. -/
namespace Pl
open Go Go.Av

theorem rIn {l : List G.api_Choice} (hl : l.length < 9223372036854775807) (v : G.api_Choice) : G.inquestref18_In l v = some (l.any (fun c => decide (v = c))) := by
  unfold G.inquestref18_In
  rw [any_loop l (fun c => decide (v = c)) true (some false) (fuel_gt (by omega)) (fun i hi => ?_) ?_]
  · cases l.any (fun c => decide (v = c)) <;> rfl
  · simp [G.inquestref18_In_b1, G.inquestref18_In_j1]
  · simp only [G.inquestref18_In_b1, dec_lt, hi, decide_true, if_true, idx_at hi, Option.bind_some, w64_succ (show i < 9223372036854775807 by omega), Sh.exit, Sh.next, Option.map_some]
    by_cases h1 : l[i] = v
    · simp [h1]
    · have : ¬ v = l[i] := fun h => h1 h.symm
      simp [h1, this]
theorem rOne {h : G.api_Hist} (hf : Fits h) (c : G.api_Choice) : G.inquestref18_One h c = some (decide (c.A ≠ c.B) && inr h c.A && inr h c.B && hasW (tx h c.A) c.Key && hasW (tx h c.B) c.Key) := by
  unfold G.inquestref18_One
  by_cases h0 : c.A = c.B
  · simp [h0, G.inquestref18_One_j1]
  by_cases hA : inr h c.A = true
  · obtain ⟨a1, a2⟩ := inr_iff.1 hA
    by_cases hB : inr h c.B = true
    · obtain ⟨b1, b2⟩ := inr_iff.1 hB
      rw [if_neg (by simpa using h0), if_neg (by simp; omega), if_neg (by simp [Sh.len]; omega), if_neg (by simp; omega)]
      unfold G.inquestref18_One_j1
      rw [if_neg (by simp [Sh.len]; omega), idx_tx hA, idx_tx hB]
      simp only [Option.bind_some, rWrites (hf.writes _ (tx_mem hA)), rWrites (hf.writes _ (tx_mem hB))]
      rw [hA, hB]
      cases hasW (tx h c.A) c.Key <;> simp [h0]
    · have : ¬ (0 ≤ c.B ∧ c.B < (h.Txns.length : Int)) := fun h1 => hB (inr_iff.2 h1)
      rw [if_neg (by simpa using h0), if_neg (by simp; omega), if_neg (by simp [Sh.len]; omega)]
      simp only [Bool.not_eq_true] at hB
      by_cases b1 : c.B < 0
      · rw [if_pos (by simpa using b1)]
        simp [G.inquestref18_One_j1, hB]
      · rw [if_neg (by simpa using b1)]
        unfold G.inquestref18_One_j1
        rw [if_pos (by simp [Sh.len]; omega)]
        simp [hB]
  · have : ¬ (0 ≤ c.A ∧ c.A < (h.Txns.length : Int)) := fun h1 => hA (inr_iff.2 h1)
    simp only [Bool.not_eq_true] at hA
    rw [if_neg (by simpa using h0)]
    by_cases a1 : c.A < 0
    · rw [if_pos (by simpa using a1)]
      simp [G.inquestref18_One_j1, hA]
    · rw [if_neg (by simpa using a1), if_pos (by simp [Sh.len]; omega)]
      simp [G.inquestref18_One_j1, hA]
end Pl
end

section
/- The reference's word on histories: whether one may be, and whether it is small. -/
namespace Pl
open Go Go.Av

def climbs {α : Type} (key : α → Int) (ok : α → Bool) : Int → List α → Bool
  | _, [] => true
  | last, x :: l => decide (last < key x) && decide (key x < 16) && ok x && climbs key ok (key x) l
theorem rising_eq : ∀ (l : List Int) (last : Int), rising last l = climbs id (fun _ => true) last l
  | [], _ => rfl
  | x :: l, last => by
    rw [show rising last (x :: l) = (decide (last < x) && decide (x < 16) && rising x l) from rfl, rising_eq l x]
    simp [climbs]
theorem takes_eq (h : G.api_Hist) (n : Int) : ∀ (l : List G.api_Take) (last : Int), takes h n last l = climbs (·.Key) (there h n) last l
  | [], _ => rfl
  | x :: l, last => by
    rw [show takes h n last (x :: l) = (decide (last < x.Key) && decide (x.Key < 16) && there h n x && takes h n x.Key l) from rfl, takes_eq h n l x.Key]
    rfl
theorem climbs_iff {α : Type} {key : α → Int} {ok : α → Bool} : ∀ {l : List α} {last : Int}, climbs key ok last l = true ↔
    ∀ k (hk : k < l.length), key l[k] < 16 ∧ ok l[k] = true ∧ (if h0 : k = 0 then last < key l[k] else key (l[k - 1]'(by omega)) < key l[k])
  | [], last => by simp [climbs]
  | x :: l, last => by
    simp only [climbs, Bool.and_eq_true, decide_eq_true_eq, climbs_iff (l := l)]
    constructor
    · rintro ⟨⟨⟨h1, h2⟩, h3⟩, h4⟩ k hk
      cases k with
      | zero => exact ⟨h2, h3, by simpa using h1⟩
      | succ k =>
        have := h4 k (by simpa using hk)
        refine ⟨by simpa using this.1, by simpa using this.2.1, ?_⟩
        have h5 := this.2.2
        rw [dif_neg (by omega)]
        cases k with
        | zero => simpa using h5
        | succ k => simpa using h5
    · intro h
      have h0 := h 0 (by simp)
      refine ⟨⟨⟨by simpa using h0.2.2, by simpa using h0.1⟩, by simpa using h0.2.1⟩, fun k hk => ?_⟩
      have := h (k + 1) (by simpa using hk)
      refine ⟨by simpa using this.1, by simpa using this.2.1, ?_⟩
      have h5 := this.2.2
      rw [dif_neg (by omega)] at h5
      cases k with
      | zero => simpa using h5
      | succ k => simpa using h5
def step {α : Type} (key : α → Int) (ok : α → Bool) (l : List α) (k : Nat) : Bool :=
  match l[k]? with
  | none => true
  | some x => decide (0 ≤ key x) && decide (key x < 16) && ok x && (decide (k = 0) || match l[k - 1]? with | none => true | some y => decide (key y < key x))
theorem climbs_step {α : Type} (key : α → Int) (ok : α → Bool) (l : List α) : decide (∀ k, k < l.length → step key ok l k = true) = climbs key ok (-1) l := by
  rw [Bool.eq_iff_iff, decide_eq_true_eq, climbs_iff]
  constructor
  · intro h k hk
    have h1 := h k hk
    simp only [step, List.getElem?_eq_getElem hk, Bool.and_eq_true, decide_eq_true_eq, Bool.or_eq_true] at h1
    refine ⟨h1.1.1.2, h1.1.2, ?_⟩
    split
    · have := h1.1.1.1; omega
    · have h2 := h1.2.resolve_left (by assumption)
      rw [List.getElem?_eq_getElem (show k - 1 < l.length by omega)] at h2
      simpa using h2
  · intro h
    have pos : ∀ k (hk : k < l.length), 0 ≤ key l[k] := by
      intro k
      induction k with
      | zero =>
        intro hk
        have := (h 0 hk).2.2
        rw [dif_pos rfl] at this; omega
      | succ k ih =>
        intro hk
        have h1 := ih (by omega)
        have := (h (k + 1) hk).2.2
        rw [dif_neg (by omega)] at this
        simp only [Nat.add_sub_cancel] at this
        omega
    intro k hk
    obtain ⟨h1, h2, h3⟩ := h k hk
    simp only [step, List.getElem?_eq_getElem hk, Bool.and_eq_true, decide_eq_true_eq, Bool.or_eq_true]
    refine ⟨⟨⟨pos k hk, h1⟩, h2⟩, ?_⟩
    by_cases h0 : k = 0
    · exact .inl h0
    · rw [dif_neg h0] at h3
      rw [List.getElem?_eq_getElem (show k - 1 < l.length by omega)]
      exact .inr (by simpa using h3)
theorem step_at {α : Type} (key : α → Int) (ok : α → Bool) (l : List α) (k : Nat) (hk : k < l.length) :
    step key ok l k = (decide (0 ≤ key l[k]) && decide (key l[k] < 16) && ok l[k] && (if h0 : k = 0 then true else decide (key (l[k - 1]'(by omega)) < key l[k]))) := by
  unfold step
  rw [List.getElem?_eq_getElem hk]
  by_cases h0 : k = 0
  · subst h0; simp
  · rw [List.getElem?_eq_getElem (show k - 1 < l.length by omega)]
    simp [h0]

theorem w64_pred {k : Nat} (h0 : 0 < k) (h : k < 9223372036854775807) : w64 ((k : Int) - 1) = ((k - 1 : Nat) : Int) := by
  rw [w64_id (by omega) (by omega)]; omega
theorem rThere {h : G.api_Hist} (hf : Fits h) (n : Nat) (x : G.api_Take) : there h n x = (!(decide (x.From < -1) || decide ((h.Txns.length : Int) ≤ x.From) || decide (x.From = n)) && (decide (x.From < 0) || match h.Txns[x.From.toNat]? with | some t => hasW t x.Key | none => false)) := by
  unfold there
  by_cases a : x.From = -1
  · have h1 : ¬ ((-1 : Int) = n) := by omega
    have h2 : ¬ ((h.Txns.length : Int) ≤ -1) := by omega
    simp [a, h1, h2]
  · by_cases b : 0 ≤ x.From
    · have h1 : ¬ x.From < -1 := by omega
      have h2 : ¬ x.From < 0 := by omega
      by_cases c : x.From < (h.Txns.length : Int)
      · have h3 : ¬ ((h.Txns.length : Int) ≤ x.From) := by omega
        by_cases d : x.From = n <;> simp [a, b, c, d, h1, h2, h3]
      · have h3 : ((h.Txns.length : Int) ≤ x.From) := by omega
        simp [a, b, c, h3]
    · have h1 : x.From < -1 := by omega
      simp [a, b, h1]
theorem rOneT {h : G.api_Hist} (hf : Fits h) {n : Nat} (hn : n < h.Txns.length) : G.inquestref08_one h n = some (okT h n h.Txns[n]) := by
  have hw := hf.writes _ (List.getElem_mem hn)
  have hr := hf.reads _ (List.getElem_mem hn)
  have hreads : G.inquestref08_one_j2 h n h.Txns[n] = some (takes h n (-1) (h.Txns[n]).Reads) := by
    unfold G.inquestref08_one_j2
    rw [takes_eq, ← climbs_step]
    refine scan_true (h.Txns[n]).Reads.length (step (·.Key) (there h n) (h.Txns[n]).Reads) (fuel_gt (by omega)) (fun k hk => ?_) ?_
    · have h5 : ∀ b : Bool, (b = false → ((h.Txns[n]).Reads[k]).From < (h.Txns.length : Int)) → G.inquestref08_one_j5 h k ((h.Txns[n]).Reads[k]) b = if !b && (decide (((h.Txns[n]).Reads[k]).From < 0) || match h.Txns[((h.Txns[n]).Reads[k]).From.toNat]? with | some t => hasW t ((h.Txns[n]).Reads[k]).Key | none => false) then some (.inl ((k + 1 : Nat) : Int)) else some (.inr false) := fun b hb => by
        unfold G.inquestref08_one_j5
        cases b with
        | true => simp [Sh.exit]
        | false =>
          have hlt := hb rfl
          by_cases a : ((h.Txns[n]).Reads[k]).From < 0
          · simp [a, G.inquestref08_one_j4, w64_succ (show k < 9223372036854775807 by omega), Sh.next]
          · have hi : ((h.Txns[n]).Reads[k]).From.toNat < h.Txns.length := by omega
            rw [idx_of (by omega) hlt, List.getElem?_eq_getElem hi]
            simp only [a, decide_false, Bool.false_eq_true, if_false, Option.bind_some, rWrites (hf.writes _ (List.getElem_mem hi)), G.inquestref08_one_j4, w64_succ (show k < 9223372036854775807 by omega), Sh.exit, Sh.next, Option.map_some, Bool.not_false, Bool.true_and, Bool.false_or]
            cases hasW h.Txns[((h.Txns[n]).Reads[k]).From.toNat] ((h.Txns[n]).Reads[k]).Key <;> simp
      simp only [G.inquestref08_one_b1, dec_lt, hk, decide_true, if_true, idx_at hk, Option.bind_some, step_at _ _ _ k hk, rThere hf]
      by_cases a0 : ((h.Txns[n]).Reads[k]).Key < 0
      · rw [if_pos (by simpa using a0), h5 _ (by simp)]
        have : ¬ 0 ≤ ((h.Txns[n]).Reads[k]).Key := by omega
        simp [this]
      rw [if_neg (by simpa using a0)]
      by_cases a1 : 15 < ((h.Txns[n]).Reads[k]).Key
      · rw [if_pos (by simpa using a1), h5 _ (by simp)]
        have : ¬ ((h.Txns[n]).Reads[k]).Key < 16 := by omega
        simp [this]
      rw [if_neg (by simpa using a1)]
      have b0 : 0 ≤ ((h.Txns[n]).Reads[k]).Key := by omega
      have b1 : ((h.Txns[n]).Reads[k]).Key < 16 := by omega
      have tail : (if decide (((h.Txns[n]).Reads[k]).From < (-1)) then G.inquestref08_one_j5 h k ((h.Txns[n]).Reads[k]) true else if decide ((Sh.len h.Txns) ≤ ((h.Txns[n]).Reads[k]).From) then G.inquestref08_one_j5 h k ((h.Txns[n]).Reads[k]) true else G.inquestref08_one_j5 h k ((h.Txns[n]).Reads[k]) (decide (((h.Txns[n]).Reads[k]).From = n)))
          = if there h n ((h.Txns[n]).Reads[k]) then some (.inl ((k + 1 : Nat) : Int)) else some (.inr false) := by
        rw [rThere hf]
        by_cases c : ((h.Txns[n]).Reads[k]).From < -1
        · rw [if_pos (by simpa using c), h5 _ (by simp)]
          simp [c]
        rw [if_neg (by simpa using c)]
        by_cases d : (h.Txns.length : Int) ≤ ((h.Txns[n]).Reads[k]).From
        · rw [if_pos (by simpa using d), h5 _ (by simp)]
          simp [d]
        rw [if_neg (by simpa using d), h5 _ (fun _ => by omega)]
        simp [c, d]
      rw [tail, rThere hf]
      cases k with
      | zero => simp [b0, b1]
      | succ k =>
        have hk2 : k < (h.Txns[n]).Reads.length := by omega
        rw [if_pos (by simp), w64_pred (by omega) (by omega), idx_at (show k + 1 - 1 < _ by omega)]
        simp only [Nat.add_sub_cancel, Option.bind_some]
        by_cases e : ((h.Txns[n]).Reads[k + 1]).Key ≤ ((h.Txns[n]).Reads[k]).Key
        · rw [if_pos (by simpa using e), h5 _ (by simp)]
          have : ¬ ((h.Txns[n]).Reads[k]).Key < ((h.Txns[n]).Reads[k + 1]).Key := by omega
          simp [this]
        · rw [if_neg (by simpa using e)]
          have : ((h.Txns[n]).Reads[k]).Key < ((h.Txns[n]).Reads[k + 1]).Key := by omega
          simp [this, b0, b1]
    · simp [G.inquestref08_one_b1, G.inquestref08_one_j3, Sh.exit]
  have hwrites : Sh.loop (fun (p : Int) => G.inquestref08_one_b2 h n h.Txns[n] p) 0 = some (rising (-1) (h.Txns[n]).Writes && takes h n (-1) (h.Txns[n]).Reads) := by
    have h6 : ∀ (k : Nat) (b : Bool), k < 9223372036854775807 → G.inquestref08_one_j6 k b = if b then some (.inr false) else some (.inl ((k + 1 : Nat) : Int)) := fun k b hk => by
      unfold G.inquestref08_one_j6
      rw [w64_succ hk]
      cases b <;> rfl
    have := scan0 (b := fun (p : Int) => G.inquestref08_one_b2 h n h.Txns[n] p) (h.Txns[n]).Writes.length (step id (fun _ => true) (h.Txns[n]).Writes) (takes h n (-1) (h.Txns[n]).Reads) false (fuel_gt (by omega)) (fun k hk => ?_) ?_
    · rw [this, rising_eq, ← climbs_step]
      by_cases hq : ∀ k, k < (h.Txns[n]).Writes.length → step id (fun _ => true) (h.Txns[n]).Writes k = true
      · rw [if_pos hq, decide_eq_true hq, Bool.true_and]
      · rw [if_neg hq, decide_eq_false hq, Bool.false_and]
    · simp only [G.inquestref08_one_b2, dec_lt, hk, decide_true, if_true, idx_at hk, Option.bind_some, step_at _ _ _ k hk, h6 k _ (by omega), id]
      by_cases a0 : (h.Txns[n]).Writes[k] < 0
      · have : ¬ 0 ≤ (h.Txns[n]).Writes[k] := by omega
        simp [a0, this]
      rw [if_neg (by simpa using a0)]
      by_cases a1 : 15 < (h.Txns[n]).Writes[k]
      · have : ¬ (h.Txns[n]).Writes[k] < 16 := by omega
        simp [a1, this]
      rw [if_neg (by simpa using a1)]
      have b0 : 0 ≤ (h.Txns[n]).Writes[k] := by omega
      have b1 : (h.Txns[n]).Writes[k] < 16 := by omega
      cases k with
      | zero => simp [b0, b1]
      | succ k =>
        have hk2 : k < (h.Txns[n]).Writes.length := by omega
        rw [if_pos (by simp), w64_pred (by omega) (by omega), idx_at (show k + 1 - 1 < _ by omega)]
        simp only [Nat.add_sub_cancel, Option.bind_some]
        by_cases e : (h.Txns[n]).Writes[k + 1] ≤ (h.Txns[n]).Writes[k]
        · have : ¬ (h.Txns[n]).Writes[k] < (h.Txns[n]).Writes[k + 1] := by omega
          simp [e, this]
        · have : (h.Txns[n]).Writes[k] < (h.Txns[n]).Writes[k + 1] := by omega
          simp [e, this, b0, b1]
    · simp only [G.inquestref08_one_b2, dec_lt, Nat.lt_irrefl, decide_false, Bool.false_eq_true, if_false, hreads]
      rfl
  unfold G.inquestref08_one G.inquestref08_one_j1
  rw [idx_at hn]
  simp only [Option.bind_some, hwrites]
  unfold okT
  by_cases a : (h.Txns[n]).Session < 0
  · have : ¬ 0 ≤ (h.Txns[n]).Session := by omega
    simp [a, this]
  · have a2 : 0 ≤ (h.Txns[n]).Session := by omega
    by_cases b : 7 < (h.Txns[n]).Session
    · have : ¬ (h.Txns[n]).Session < 8 := by omega
      simp [a, b, this]
    · have b2 : (h.Txns[n]).Session < 8 := by omega
      simp [a, b, a2, b2]
theorem okAll_iff (h : G.api_Hist) : ∀ (l : List G.api_Txn) (n : Nat), okAll h n l = decide (∀ k (hk : k < l.length), okT h ((n + k : Nat) : Int) l[k] = true)
  | [], n => by simp [okAll]
  | t :: l, n => by
    rw [show okAll h n (t :: l) = (okT h (n : Nat) t && okAll h (n + 1) l) from rfl, okAll_iff h l (n + 1), Bool.eq_iff_iff, Bool.and_eq_true, decide_eq_true_eq, decide_eq_true_eq]
    constructor
    · rintro ⟨h1, h2⟩ k hk
      cases k with
      | zero => simpa using h1
      | succ k =>
        have := h2 k (by simpa using hk)
        rw [show n + 1 + k = n + (k + 1) by omega] at this
        simpa using this
    · intro h1
      refine ⟨h1 0 (by simp), fun k hk => ?_⟩
      have := h1 (k + 1) (by simpa using hk)
      rw [show n + 1 + k = n + (k + 1) by omega]
      simpa using this
theorem rRight {h : G.api_Hist} (hf : Fits h) : G.inquestref08_Right h = some (right h) := by
  unfold G.inquestref08_Right right
  by_cases h1 : h.Txns.length ≤ 32
  · have h2 : ¬ (32 : Int) < (h.Txns.length : Int) := by omega
    simp only [Sh.len, h2, decide_false, Bool.false_eq_true, if_false, h1, decide_true, Bool.true_and]
    rw [okAll_iff]
    have := scan_true (b := fun (p : Int) => G.inquestref08_Right_b1 h p) h.Txns.length (fun k => match h.Txns[k]? with | some t => okT h k t | none => true) (fuel_gt (by omega)) (fun k hk => ?_) ?_
    · rw [this]
      congr 2
      refine propext ⟨fun h3 k hk => ?_, fun h3 k hk => ?_⟩
      · have := h3 k hk
        simp only [List.getElem?_eq_getElem hk] at this
        simpa using this
      · simp only [List.getElem?_eq_getElem hk]
        simpa using h3 k hk
    · simp only [G.inquestref08_Right_b1, dec_lt, hk, decide_true, if_true, rOneT hf hk, Option.bind_some, List.getElem?_eq_getElem hk, w64_succ (show k < 9223372036854775807 by omega)]
      cases okT h k h.Txns[k] <;> simp [Sh.exit, Sh.next]
    · simp [G.inquestref08_Right_b1, G.inquestref08_Right_j1, Sh.exit]
  · have h2 : (32 : Int) < (h.Txns.length : Int) := by omega
    simp [Sh.len, h2, h1]

theorem dec_len_gt {α : Type} (l : List α) : decide ((20 : Int) < Sh.len l) = !decide (l.length ≤ 20) := by
  by_cases h : l.length ≤ 20 <;> simp [h, Sh.len] <;> omega
def few (h : G.api_Hist) (m : Int) : Bool := decide ((h.Txns.length : Int) ≤ m) && h.Txns.all (fun t => decide (t.Writes.length ≤ 20) && decide (t.Reads.length ≤ 20))
theorem rFew {h : G.api_Hist} {m : Int} (hm : m < 9223372036854775807) : G.inquestref08_Few h m = some (few h m) := by
  unfold G.inquestref08_Few few
  by_cases h1 : (h.Txns.length : Int) ≤ m
  · have h2 : ¬ m < (h.Txns.length : Int) := by omega
    simp only [Sh.len, h2, decide_false, Bool.false_eq_true, if_false, h1, decide_true, Bool.true_and]
    rw [any_loop h.Txns (fun t => !(decide (t.Writes.length ≤ 20) && decide (t.Reads.length ≤ 20))) false (some true) (fuel_gt (by omega)) (fun k hk => ?_) ?_]
    · rw [List.any_eq_not_all_not]
      simp only [Bool.not_not]
      cases h.Txns.all (fun t => decide (t.Writes.length ≤ 20) && decide (t.Reads.length ≤ 20)) <;> rfl
    · simp [G.inquestref08_Few_b1, G.inquestref08_Few_j1]
    · simp only [G.inquestref08_Few_b1, dec_lt, hk, decide_true, if_true, idx_at hk, Option.bind_some, dec_len_gt, G.inquestref08_Few_j2, w64_succ (show k < 9223372036854775807 by omega), Sh.exit, Sh.next, Option.map_some]
      by_cases a : (h.Txns[k]).Writes.length ≤ 20 <;> by_cases b : (h.Txns[k]).Reads.length ≤ 20 <;> simp [a, b]
  · have h2 : m < (h.Txns.length : Int) := by omega
    simp [Sh.len, h2, h1]
theorem few_fits {h : G.api_Hist} {m : Int} (hm : m < 9223372036854775807) (hf : few h m = true) : Fits h := by
  simp only [few, Bool.and_eq_true, decide_eq_true_eq, List.all_eq_true] at hf
  exact ⟨by omega, fun t ht => by have := (hf.2 t ht).1; omega, fun t ht => by have := (hf.2 t ht).2; omega⟩
end Pl
end

section
/- Law 19, first half: edges as the reference sees them; what one more choice adds. -/

namespace Pl
open Go Go.Av

def one (h : G.api_Hist) (c : G.api_Choice) : Bool := decide (c.A ≠ c.B) && inr h c.A && inr h c.B && hasW (tx h c.A) c.Key && hasW (tx h c.B) c.Key
theorem pOne1 {h : G.api_Hist} (hf : Fits h) (x k : Int) : G.choice_Right_1__1 x k h = some (inr h x && hasW (tx h x) k) := by
  unfold G.choice_Right_1__1
  by_cases hx : inr h x = true
  · obtain ⟨a, b⟩ := inr_iff.1 hx
    have := hf.writes _ (tx_mem hx)
    rw [if_pos (by simpa using a), if_pos (by simpa [Sh.len] using b), idx_tx hx, Option.bind_some, pHas (by omega), Option.bind_some, hx]
    rfl
  · have h1 : inr h x = false := by simpa using hx
    rw [h1]
    unfold inr at h1
    by_cases a : 0 ≤ x <;> by_cases b : x < (h.Txns.length : Int) <;> simp [a, b, Sh.len] at h1 ⊢
theorem pOne2 {h : G.api_Hist} (hf : Fits h) (c : G.api_Choice) : G.choice_Right_2__1 c h = some (!one h c) := by
  unfold G.choice_Right_2__1 one
  rw [pOne1 hf, pOne1 hf]
  simp only [Option.bind_some]
  by_cases a : c.A = c.B
  · simp [a]
  · simp only [a, decide_false, Bool.false_eq_true, if_false, ne_eq, not_false_eq_true, decide_true, Bool.true_and]
    cases inr h c.A <;> cases hasW (tx h c.A) c.Key <;> cases inr h c.B <;> cases hasW (tx h c.B) c.Key <;> rfl
theorem pChoice {h : G.api_Hist} (hf : Fits h) {l : List G.api_Choice} (hl : l.length ≤ 20000) : G.choice_Right h l = some (right h && l.all (one h)) := by
  unfold G.choice_Right G.choice_Right_j1
  rw [pRight hf]
  simp only [Option.bind_some]
  have hd : decide ((20000 : Int) < Sh.len l) = false := by simp [Sh.len]; omega
  rw [hd]
  have : G.slices_ContainsFunc_api_Choice_api_Choice__choice_Right_2 l h = some (!(l.all (one h))) := by
    unfold G.slices_ContainsFunc_api_Choice_api_Choice__choice_Right_2 G.slices_IndexFunc_api_Choice_api_Choice__choice_Right_2
    rw [find_loop l (fun c => !one h c) (fun k => (k : Int)) (some (-1)) (fuel_gt (by omega)) (fun k hk => ?_) ?_, pos_some, Option.bind_some, contains_of_find]
    · rw [List.any_eq_not_all_not]; simp
    · simp [G.slices_IndexFunc_api_Choice_api_Choice__choice_Right_2_b1, G.slices_IndexFunc_api_Choice_api_Choice__choice_Right_2_j1]
    · simp only [G.slices_IndexFunc_api_Choice_api_Choice__choice_Right_2_b1, dec_lt, hk, decide_true, if_true, idx_at hk, Option.bind_some, pOne2 hf, w64_succ (show k < 9223372036854775807 by omega)]
      rfl
  rw [this]
  cases right h <;> simp

theorem from_ok {h : G.api_Hist} (hr : right h = true) {t : G.api_Txn} (ht : t ∈ h.Txns) {r : G.api_Take} (hm : r ∈ t.Reads) (h0 : ¬ r.From < 0) : inr h r.From = true ∧ hasW (tx h r.From) r.Key = true := by
  obtain ⟨n, hn⟩ := right_reads hr ht
  have := takes_there hn r hm
  simp only [there, Bool.or_eq_true, Bool.and_eq_true, decide_eq_true_eq] at this
  rcases this with h1 | h1
  · omega
  · obtain ⟨⟨⟨a, b⟩, _⟩, d⟩ := h1
    refine ⟨inr_iff.2 ⟨a, b⟩, ?_⟩
    unfold tx
    have hi : r.From.toNat < h.Txns.length := by omega
    rw [List.getElem?_eq_getElem hi] at d ⊢
    exact d
end Pl
end

section
/- Facts: what follows from what; the program's answer and the reference's. -/


namespace Pl
open Go Go.Av

def back (c : G.api_Choice) : G.api_Choice := ⟨c.Key, c.B, c.A⟩
def may (h : G.api_Hist) (lev : Int) : Bool := right h && (decide (lev = 0) || decide (lev = 1))
theorem pHasT {l : List G.api_Take} (hl : l.length < 9223372036854775807) (v : G.api_Take) : G.slices_Contains_api_Take_api_Take l v = some (l.any (fun c => decide (v = c))) := by
  unfold G.slices_Contains_api_Take_api_Take G.slices_Index_api_Take_api_Take
  rw [find_loop l (fun c => decide (v = c)) (fun k => (k : Int)) (some (-1)) (fuel_gt (by omega)) (fun k hk => ?_) ?_, pos_some, Option.bind_some, contains_of_find]
  · simp [G.slices_Index_api_Take_api_Take_b1, G.slices_Index_api_Take_api_Take_j1]
  · simp only [G.slices_Index_api_Take_api_Take_b1, dec_lt, hk, decide_true, if_true, idx_at hk, Option.bind_some, w64_succ (show k < 9223372036854775807 by omega)]
    rfl
def fromR (h : G.api_Hist) (t key : Int) : Option Int :=
  if right h && inr h t then ((tx h t).Reads.findIdx? (fun r => decide (r.Key = key))).map (fun k => ((tx h t).Reads.getD k default).From) else none
theorem rFrom {h : G.api_Hist} (hf : Fits h) (t key : Int) : G.inquestref09_From h t key = some (match fromR h t key with | some v => (v, true) | none => (0, false)) := by
  unfold G.inquestref09_From fromR
  rw [rRight hf]
  simp only [Option.bind_some]
  cases hr : right h with
  | false => simp [G.inquestref09_From_j1]
  | true =>
    by_cases hx : inr h t = true
    · obtain ⟨a, b⟩ := inr_iff.1 hx
      have h1 : ¬ t < 0 := by omega
      have h2 : ¬ (h.Txns.length : Int) ≤ t := by omega
      have h3 := hf.reads _ (tx_mem hx)
      simp only [Bool.not_true, Bool.false_eq_true, if_false, h1, decide_false, Sh.len, h2, G.inquestref09_From_j1, idx_tx hx, Option.bind_some, hx, Bool.and_self, if_true]
      rw [find_loop (tx h t).Reads (fun r => decide (r.Key = key)) (fun k => (((tx h t).Reads.getD k default).From, true)) (some (0, false)) (fuel_gt (by omega)) (fun k hk => ?_) ?_]
      · cases (tx h t).Reads.findIdx? (fun r => decide (r.Key = key)) <;> rfl
      · simp [G.inquestref09_From_b1, G.inquestref09_From_j2]
      · have h4 : (tx h t).Reads.getD k default = (tx h t).Reads[k] := by simp [List.getD, List.getElem?_eq_getElem hk]
        simp only [G.inquestref09_From_b1, dec_lt, hk, decide_true, if_true, idx_at hk, Option.bind_some, w64_succ (show k < 9223372036854775807 by omega), Sh.exit, Sh.next, Option.map_some, h4]
    · have h1 : inr h t = false := by simpa using hx
      have h2 : ¬ (0 ≤ t ∧ t < (h.Txns.length : Int)) := fun h2 => hx (inr_iff.2 h2)
      rw [h1]
      by_cases c : t < 0
      · simp [c, G.inquestref09_From_j1]
      · have d : (h.Txns.length : Int) ≤ t := by omega
        simp [c, d, G.inquestref09_From_j1, Sh.len]
theorem takes_gt {h : G.api_Hist} {n : Int} : ∀ {l : List G.api_Take} {last : Int}, takes h n last l = true → ∀ r ∈ l, last < r.Key
  | [], _, _, r, hr => by cases hr
  | x :: l, last, ht, r, hr => by
    rw [show takes h n last (x :: l) = (decide (last < x.Key) && decide (x.Key < 16) && there h n x && takes h n x.Key l) from rfl] at ht
    simp only [Bool.and_eq_true, decide_eq_true_eq] at ht
    rcases List.mem_cons.1 hr with rfl | hr
    · exact ht.1.1.1
    · have := takes_gt ht.2 r hr; have := ht.1.1.1; omega
theorem takes_one {h : G.api_Hist} {n : Int} : ∀ {l : List G.api_Take} {last : Int}, takes h n last l = true → ∀ r ∈ l, ∀ s ∈ l, r.Key = s.Key → r = s
  | [], _, _, r, hr, _, _, _ => by cases hr
  | x :: l, last, ht, r, hr, s, hs, he => by
    rw [show takes h n last (x :: l) = (decide (last < x.Key) && decide (x.Key < 16) && there h n x && takes h n x.Key l) from rfl] at ht
    simp only [Bool.and_eq_true, decide_eq_true_eq] at ht
    rcases List.mem_cons.1 hr with h1 | h1
    · rcases List.mem_cons.1 hs with h2 | h2
      · rw [h1, h2]
      · have := takes_gt ht.2 s h2; rw [h1] at he; omega
    · rcases List.mem_cons.1 hs with h2 | h2
      · have := takes_gt ht.2 r h1; rw [h2] at he; omega
      · exact takes_one ht.2 r h1 s h2 he
theorem fromR_iff {h : G.api_Hist} (hr : right h = true) {t key v : Int} (hx : inr h t = true) : fromR h t key = some v ↔ (tx h t).Reads.any (fun r => decide (G.api_Take.mk key v = r)) = true := by
  obtain ⟨n, hn⟩ := right_reads hr (tx_mem hx)
  unfold fromR
  rw [hr, hx]
  simp only [Bool.and_self, if_true, List.any_eq_true, decide_eq_true_eq]
  constructor
  · intro h1
    cases hfi : (tx h t).Reads.findIdx? (fun r => decide (r.Key = key)) with
    | none => rw [hfi] at h1; cases h1
    | some k =>
      rw [hfi] at h1
      rw [List.findIdx?_eq_some_iff_getElem] at hfi
      obtain ⟨hk, hp, _⟩ := hfi
      simp only [Option.map_some, Option.some.injEq, List.getD, List.getElem?_eq_getElem hk, Option.getD_some] at h1
      refine ⟨_, List.getElem_mem hk, ?_⟩
      simp only [decide_eq_true_eq] at hp
      cases hc : (tx h t).Reads[k] with
      | mk K F => rw [hc] at hp h1; simp at hp h1; rw [hp, h1]
  · rintro ⟨r, hm, rfl⟩
    cases hfi : (tx h t).Reads.findIdx? (fun r => decide (r.Key = key)) with
    | none =>
      rw [List.findIdx?_eq_none_iff] at hfi
      have := hfi _ hm
      simp at this
    | some k =>
      rw [List.findIdx?_eq_some_iff_getElem] at hfi
      obtain ⟨hk, hp, _⟩ := hfi
      simp only [decide_eq_true_eq] at hp
      have := takes_one hn _ (List.getElem_mem hk) _ hm hp
      simp [List.getD, List.getElem?_eq_getElem hk, this]
end Pl
end

section
/- Sets of numbers as bits: the program's functions, and the reference's, say the same. -/
namespace Pl
open Go Go.Av

@[simp] theorem bits_bit (i : Int) : G.bits_bit i = some (Bv.bit i) := by
  unfold G.bits_bit G.bits_bit_j1 Bv.bit
  by_cases h : i < 0
  · simp [h]; omega
  · by_cases h2 : 64 ≤ i
    · simp [h, h2]; omega
    · simp [h, h2, Sh.shl, show 0 ≤ i by omega, show i < 64 by omega]
@[simp] theorem bits_With (s : BitVec 64) (i : Int) : G.bits_With s i = some (s ||| Bv.bit i) := by simp [G.bits_With]
theorem has_bit (s : BitVec 64) (i : Int) : decide ((s &&& Bv.bit i) ≠ 0#64) = Bv.has s i := by
  unfold Bv.bit Bv.has
  by_cases h : 0 ≤ i ∧ i < 64
  · rw [if_pos h]
    simp only [h.1, h.2, decide_true, Bool.true_and]
    obtain ⟨k, rfl⟩ : ∃ k : Nat, i = k := ⟨i.toNat, by omega⟩
    have hk : k < 64 := by omega
    simp only [Int.toNat_natCast]
    cases hb : s.getLsbD k with
    | true =>
      rw [decide_eq_true_eq]
      intro h0
      have := congrArg (fun x : BitVec 64 => x.getLsbD k) h0
      simp only [BitVec.getLsbD_and, BitVec.getLsbD_shiftLeft, hk, hb, BitVec.getLsbD_zero] at this
      simp [BitVec.getLsbD_one] at this
    | false =>
      rw [decide_eq_false_iff_not]
      refine not_not_intro ?_
      apply Bv.ext
      intro j hj
      simp only [BitVec.getLsbD_and, BitVec.getLsbD_shiftLeft, hj, decide_true, Bool.true_and, BitVec.getLsbD_zero]
      by_cases hjk : j = k
      · subst hjk; simp [hb]
      · by_cases hlt : j < k
        · simp [hlt]
        · simp [hlt, BitVec.getLsbD_one]; omega
  · rw [if_neg h]
    simp only [BitVec.and_zero, ne_eq, not_true_eq_false, decide_false]
    by_cases h0 : 0 ≤ i
    · have : ¬ i < 64 := fun h1 => h ⟨h0, h1⟩
      simp [this]
    · simp [h0]
@[simp] theorem bits_Has (s : BitVec 64) (i : Int) : G.bits_Has s i = some (Bv.has s i) := by
  simp only [G.bits_Has, bits_bit, Option.bind_some, has_bit]
@[simp] theorem bits_Sub (a b : BitVec 64) : G.bits_Sub a b = some (decide (a &&& ~~~b = 0#64)) := rfl

def join (l : List (BitVec 64)) : BitVec 64 := l.foldl (· ||| ·) 0#64
theorem join_take (l : List (BitVec 64)) (k : Nat) (h : k < l.length) : join (l.take (k+1)) = join (l.take k) ||| l[k] := by
  unfold join
  rw [List.take_succ_eq_append_getElem h, List.foldl_append]; rfl
theorem bits_Join (l : List (BitVec 64)) (hl : l.length < 9223372036854775808) : G.bits_Join l = some (join l) := by
  unfold G.bits_Join
  refine count (fun k => join (l.take k)) l.length _ hl (fun k hk => ?_) ?_ rfl
  · simp only [G.bits_Join_b1, len_eq, dec_lt, hk, decide_true, if_true, idx_at hk, Option.bind_some, Sh.next, join_take l k hk, w64_succ (show k < 9223372036854775807 by omega)]
  · simp [G.bits_Join_b1, len_eq, G.bits_Join_j1, Sh.exit]
theorem join_two (a b : BitVec 64) : G.bits_Join [a, b] = some (a ||| b) := by
  rw [bits_Join _ (by simp)]; simp [join]

theorem shr_nat (a : BitVec 64) (n : Nat) : Sh.shr a (n : Int) = some (a >>> n) := by simp [Sh.shr]
theorem ctz_zero : Bv.ctz 0#64 = 64 := by decide
theorem tab_at (s : BitVec 64) (h2 : Bv.ctz s < 64) : Sh.idx Sh.tab8 ((((1#64 <<< Bv.ctz s) * Bv.dB) >>> 58).toNat : Int) = some ((Bv.ctz s : Nat) : Int) := by
  have h4 := Bv.tab_ok ⟨Bv.ctz s, h2⟩
  simp only [Sh.idx, Sh.tab8, List.getElem?_map]
  rw [if_pos (by omega), Int.toNat_natCast, h4]
  rfl
@[simp] theorem tz (s : BitVec 64) : G.bits_TrailingZeros64 s = some (Bv.ctz s : Int) := by
  unfold G.bits_TrailingZeros64
  by_cases h : s = 0#64
  · subst h
    rw [if_pos (decide_eq_true rfl), ctz_zero]; rfl
  · obtain ⟨_, h2, h3⟩ := Bv.list_cons s h
    rw [if_neg (by simpa using h), h3]
    have h5 : Sh.shr ((1#64 <<< Bv.ctz s) * 285870213051353865#64) ((58 : Nat) : Int) = some (((1#64 <<< Bv.ctz s) * 285870213051353865#64) >>> 58) := shr_nat _ _
    have e2 : (((58#64).toNat : Nat) : Int) = ((58 : Nat) : Int) := rfl
    rw [e2, h5]
    have h6 := tab_at s h2
    unfold Bv.dB at h6
    rw [Option.bind_some, h6, Option.bind_some]
    rw [w64_id (by omega) (by omega)]

def ilist (s : BitVec 64) : List Int := (Bv.list s).map fun (k : Nat) => (k : Int)
theorem list_iter : ∀ (n : Nat) (s : BitVec 64) (acc : List Int), (Bv.list s).length < n → acc.length + (Bv.list s).length ≤ 64 →
    Sh.iter (fun (p : (BitVec 64) × (List Int)) => G.bits_List_b1 p.1 p.2) n (s, acc) = some (acc ++ ilist s) := by
  intro n
  induction n with
  | zero => intro s acc h; omega
  | succ n ih =>
    intro s acc h1 h2
    by_cases h : s = 0#64
    · subst h
      simp [Sh.iter, G.bits_List_b1, G.bits_List_j1, Sh.exit, ilist, Bv.list_zero]
    · obtain ⟨e, _, _⟩ := Bv.list_cons s h
      have hl : (Bv.list s).length = (Bv.list (s &&& (s - 1#64))).length + 1 := by rw [e]; simp
      have ha : Sh.app 8 acc [((Bv.ctz s : Nat) : Int)] = some (acc ++ [((Bv.ctz s : Nat) : Int)]) := app_ok (by simp; omega)
      have hb : G.bits_List_b1 s acc = some (.inl (s &&& (s - 1#64), acc ++ [((Bv.ctz s : Nat) : Int)])) := by
        simp only [G.bits_List_b1, h, ne_eq, not_false_eq_true, decide_true, if_true, tz, Option.bind_some, ha, Sh.next]
      simp only [Sh.iter, hb]
      rw [ih _ _ (by omega) (by simp; omega)]
      simp only [ilist, Option.some.injEq]
      rw [e]; simp
@[simp] theorem bits_List (s : BitVec 64) : G.bits_List s = some (ilist s) := by
  have := Bv.list_length_le s
  have h := list_iter Sh.FUEL s [] (Nat.lt_of_le_of_lt this (fuel_gt (by omega))) (by simpa using this)
  simpa [G.bits_List, Sh.loop] using h
@[simp] theorem r10_In (i : Int) : G.inquestref10_In i = some (decide (0 ≤ i ∧ i ≤ 63)) := by
  unfold G.inquestref10_In
  by_cases h : 0 ≤ i <;> simp [h]
theorem r10_Power (i : Nat) (h : i ≤ 63) : G.inquestref10_Power (i : Int) = some (1#64 <<< i) := by
  unfold G.inquestref10_Power
  refine count (fun k => 1#64 <<< k) i _ (fuel_gt (by omega)) (fun k hk => ?_) ?_ (by simp)
  · simp only [G.inquestref10_Power_b1, dec_lt, hk, decide_true, if_true, Sh.next, w64_succ (show k < 9223372036854775807 by omega)]
    congr 3
    apply BitVec.eq_of_toNat_eq
    simp only [BitVec.toNat_add, BitVec.toNat_shiftLeft, Nat.shiftLeft_eq, BitVec.toNat_ofNat]
    rw [Nat.pow_succ]; omega
  · simp [G.inquestref10_Power_b1, G.inquestref10_Power_j1, Sh.exit]
theorem div_mod_bit (s : BitVec 64) (k : Nat) (hk : k < 64) : decide (s / (1#64 <<< k) % 2#64 = 1#64) = s.getLsbD k := by
  have h1 : (1#64 <<< k).toNat = 2 ^ k := by
    have : 2 ^ k < 2 ^ 64 := Nat.pow_lt_pow_right (by omega) hk
    simp [Nat.shiftLeft_eq, Nat.mod_eq_of_lt this]
  have h2 : (s / (1#64 <<< k) % 2#64).toNat = s.toNat / 2 ^ k % 2 := by
    simp only [BitVec.toNat_umod, BitVec.toNat_udiv, h1, BitVec.toNat_ofNat]
  have h3 : s.getLsbD k = decide (s.toNat / 2 ^ k % 2 = 1) := by
    simp only [BitVec.getLsbD, Nat.testBit_eq_decide_div_mod_eq]
  rw [h3]
  congr 1
  apply propext
  rw [← h2]
  constructor
  · intro h; rw [h]; rfl
  · intro h; apply BitVec.eq_of_toNat_eq; rw [h]; rfl
@[simp] theorem r10_Has (s : BitVec 64) (i : Int) : G.inquestref10_Has s i = some (Bv.has s i) := by
  unfold G.inquestref10_Has Bv.has
  simp only [r10_In, Option.bind_some]
  by_cases h : 0 ≤ i ∧ i ≤ 63
  · obtain ⟨k, rfl⟩ : ∃ k : Nat, i = k := ⟨i.toNat, by omega⟩
    have hk : k < 64 := by omega
    have hne : (1#64 <<< k) ≠ 0#64 := by
      intro h0
      have := congrArg (fun x : BitVec 64 => x.getLsbD k) h0
      simp [hk] at this
    have e1 : Sh.udiv s (1#64 <<< k) = some (s / (1#64 <<< k)) := by simp only [Sh.udiv, hne, ne_eq, not_false_eq_true, if_true]
    simp only [h, decide_true, Bool.not_true, Bool.false_eq_true, if_false, r10_Power k (by omega), Option.bind_some, e1, Sh.umod]
    have e2 : (2#64 : BitVec 64) ≠ 0#64 := by decide
    simp only [e2, ne_eq, not_false_eq_true, if_true, Option.bind_some, div_mod_bit s k hk]
    have : ((k : Int) < 64) := by omega
    simp [this]
  · rw [decide_eq_false h]
    by_cases h0 : 0 ≤ i
    · have : ¬ i < 64 := by omega
      simp [h0, this]
    · simp [h0]
theorem has_nat (s : BitVec 64) {k : Nat} (hk : k < 64) : Bv.has s (k : Int) = s.getLsbD k := by
  unfold Bv.has
  have h1 : (0 : Int) ≤ (k : Int) := by omega
  have h2 : (k : Int) < 64 := by omega
  simp [h2]
theorem add_bit (s : BitVec 64) (k : Nat) (hk : k < 64) (hb : s.getLsbD k = false) : s + 1#64 <<< k = s ||| 1#64 <<< k := by
  rw [BitVec.add_eq_or_of_and_eq_zero]
  apply Bv.ext
  intro j hj
  simp only [BitVec.getLsbD_and, BitVec.getLsbD_shiftLeft, hj, decide_true, Bool.true_and, BitVec.getLsbD_zero]
  by_cases hjk : j = k
  · subst hjk; simp [hb]
  · by_cases hlt : j < k
    · simp [hlt]
    · simp [hlt, BitVec.getLsbD_one]; omega
theorem or_bit (s : BitVec 64) (k : Nat) (hk : k < 64) (hb : s.getLsbD k = true) : s ||| 1#64 <<< k = s := by
  apply Bv.ext
  intro j hj
  simp only [BitVec.getLsbD_or, BitVec.getLsbD_shiftLeft, hj, decide_true, Bool.true_and]
  by_cases hjk : j = k
  · subst hjk; simp [hb]
  · by_cases hlt : j < k
    · simp [hlt]
    · simp [hlt, BitVec.getLsbD_one]; omega
@[simp] theorem r10_With (s : BitVec 64) (i : Int) : G.inquestref10_With s i = some (s ||| Bv.bit i) := by
  unfold G.inquestref10_With G.inquestref10_With_j1
  simp only [r10_Has, r10_In, Option.bind_some]
  by_cases h : 0 ≤ i ∧ i ≤ 63
  · obtain ⟨k, rfl⟩ : ∃ k : Nat, i = k := ⟨i.toNat, by omega⟩
    have hk : k < 64 := by omega
    have hbit : Bv.bit (k : Int) = 1#64 <<< k := by unfold Bv.bit; rw [if_pos ⟨by omega, by omega⟩]; simp
    have hh : Bv.has s (k : Int) = s.getLsbD k := has_nat s hk
    rw [hh, hbit]
    cases hb : s.getLsbD k with
    | true => simp [or_bit s k hk hb]
    | false => simp [h, r10_Power k (by omega), add_bit s k hk hb]
  · have hbit : Bv.bit i = 0#64 := by unfold Bv.bit; rw [if_neg (by omega)]
    have hh : Bv.has s i = false := by
      unfold Bv.has
      by_cases h0 : 0 ≤ i
      · have : ¬ i < 64 := by omega
        simp [this]
      · simp [h0]
    simp [hh, hbit, h]
theorem sub_iff (a b : BitVec 64) : a &&& ~~~b = 0#64 ↔ ∀ i, a.getLsbD i = true → b.getLsbD i = true := by
  constructor
  · intro h i hi
    have hi64 : i < 64 := by
      rcases Nat.lt_or_ge i 64 with h | h
      · exact h
      · simp [BitVec.getLsbD_of_ge a i h] at hi
    have := congrArg (fun x : BitVec 64 => x.getLsbD i) h
    simp only [BitVec.getLsbD_and, BitVec.getLsbD_not, hi64, decide_true, Bool.true_and, BitVec.getLsbD_zero, hi] at this
    simpa using this
  · intro h
    apply Bv.ext
    intro i hi
    simp only [BitVec.getLsbD_and, BitVec.getLsbD_not, hi, decide_true, Bool.true_and, BitVec.getLsbD_zero]
    cases ha : a.getLsbD i with
    | true => simp [h i ha]
    | false => rfl
end Pl
namespace Pl
open Go Go.Av
end Pl
end

section
/- Graphs as rows of bits: the program's functions and the reference's, over the edges. -/
namespace Pl
open Go Go.Av

def row : Nat → (Nat → Bool) → BitVec 64
  | 0, _ => 0#64
  | n + 1, p => if p n then row n p ||| (1#64 <<< n) else row n p
theorem shift_get (k i : Nat) (hk : k < 64) : (1#64 <<< k).getLsbD i = decide (i = k) := by
  by_cases hi : i < 64
  · simp only [BitVec.getLsbD_shiftLeft, hi, decide_true, Bool.true_and]
    by_cases hik : i = k
    · subst hik; simp
    · by_cases hlt : i < k
      · simp [hlt, hik]
      · simp [hlt, hik, BitVec.getLsbD_one]; omega
  · have : ¬ i = k := by omega
    simp [BitVec.getLsbD_of_ge _ i (show 64 ≤ i by omega), this]
theorem row_get {n : Nat} (hn : n ≤ 64) (p : Nat → Bool) (i : Nat) : (row n p).getLsbD i = (decide (i < n) && p i) := by
  induction n with
  | zero => simp [row]
  | succ n ih =>
    have ih := ih (by omega)
    unfold row
    by_cases hp : p n = true
    · rw [if_pos hp, BitVec.getLsbD_or, ih, shift_get n i (by omega)]
      by_cases h : i = n
      · subst h; simp [hp]
      · by_cases h2 : i < n
        · simp [h, h2, show i < n + 1 by omega]
        · simp [h, h2, show ¬ i < n + 1 by omega]
    · rw [if_neg hp, ih]
      by_cases h : i = n
      · subst h; simp [hp]
      · by_cases h2 : i < n
        · simp [h2, show i < n + 1 by omega]
        · simp [h2, show ¬ i < n + 1 by omega]
def rows (n : Nat) (f : Nat → Nat → Bool) : List (BitVec 64) := (List.range n).map fun x => row n (f x)
@[simp] theorem rows_len (n : Nat) (f : Nat → Nat → Bool) : (rows n f).length = n := by simp [rows]
theorem rows_at {n : Nat} {f : Nat → Nat → Bool} {x : Nat} (h : x < (rows n f).length) : (rows n f)[x] = row n (f x) := by simp [rows]
theorem rows_idx {n : Nat} {f : Nat → Nat → Bool} {x : Nat} (h : x < n) : Sh.idx (rows n f) (x : Int) = some (row n (f x)) := by
  rw [idx_at (by simpa using h), rows_at]
abbrev gr (n : Nat) (f : Nat → Nat → Bool) : G.graph_Graph := ⟨(n : Int), rows n f⟩
abbrev rg (n : Nat) (f : Nat → Nat → Bool) : G.inquestref12_G := ⟨(n : Int), rows n f⟩

theorem row_ext {n : Nat} (hn : n ≤ 64) {p q : Nat → Bool} : row n p = row n q ↔ ∀ i, i < n → p i = q i := by
  constructor
  · intro h i hi
    have := congrArg (fun x : BitVec 64 => x.getLsbD i) h
    simpa [row_get hn, hi] using this
  · intro h
    apply Bv.ext
    intro i _
    rw [row_get hn, row_get hn]
    by_cases hi : i < n
    · simp [hi, h i hi]
    · simp [hi]
theorem rows_ext {n : Nat} (hn : n ≤ 64) {f h : Nat → Nat → Bool} : rows n f = rows n h ↔ ∀ x y, x < n → y < n → f x y = h x y := by
  constructor
  · intro e x y hx hy
    have h1 : (rows n f)[x]? = (rows n h)[x]? := by rw [e]
    rw [List.getElem?_eq_getElem (by simpa using hx), List.getElem?_eq_getElem (by simpa using hx), rows_at, rows_at] at h1
    exact (row_ext hn).1 (Option.some.inj h1) y hy
  · intro e
    unfold rows
    apply List.map_congr_left
    intro x hx
    exact (row_ext hn).2 (fun y hy => e x y (by simpa using hx) hy)
def rightB (N : Int) (R : List (BitVec 64)) : Bool := decide (0 ≤ N ∧ N ≤ 64 ∧ (R.length : Int) = N ∧ ∀ r ∈ R, ∀ i : Nat, i < 64 → N ≤ (i : Int) → r.getLsbD i = false)
theorem right_rows {n : Nat} (hn : n ≤ 64) (f : Nat → Nat → Bool) : rightB (n : Int) (rows n f) = true := by
  refine decide_eq_true ⟨by omega, by omega, by simp, fun r hr i _ hi => ?_⟩
  simp only [rows, List.mem_map] at hr
  obtain ⟨x, _, rfl⟩ := hr
  rw [row_get hn]
  have : ¬ i < n := by omega
  simp [this]
theorem nodes_get (n : Nat) (hn : n ≤ 64) (i : Nat) (hi : i < 64) : ((1#64 <<< n) - 1#64).getLsbD i = decide (i < n) := by
  rcases Nat.lt_or_ge n 64 with h | h
  · have e : ((1#64 <<< n) - 1#64).toNat = 2 ^ n - 1 := by
      have h1 : 2 ^ n < 2 ^ 64 := Nat.pow_lt_pow_right (by omega) h
      have h2 : 0 < 2 ^ n := Nat.pow_pos (by omega)
      rw [BitVec.toNat_sub]
      simp only [BitVec.toNat_shiftLeft, BitVec.toNat_ofNat, Nat.shiftLeft_eq]
      omega
    simp only [BitVec.getLsbD, e, Nat.testBit_two_pow_sub_one]
  · have : n = 64 := by omega
    subst this
    have e : (1#64 <<< 64) - 1#64 = BitVec.allOnes 64 := by decide
    rw [e, BitVec.getLsbD_allOnes]
theorem join_get (l : List (BitVec 64)) (i : Nat) : (join l).getLsbD i = l.any (·.getLsbD i) := by
  have key : ∀ (l : List (BitVec 64)) (a : BitVec 64), (l.foldl (· ||| ·) a).getLsbD i = (a.getLsbD i || l.any (·.getLsbD i)) := by
    intro l
    induction l with
    | nil => intro a; simp
    | cons x l ih => intro a; simp [ih, Bool.or_assoc]
  simp [join, key]
theorem graph_Right (g : G.graph_Graph) (hl : g.Rows.length < 9223372036854775808) : G.graph_Right g = some (rightB g.N g.Rows) := by
  unfold G.graph_Right G.graph_nodes rightB
  by_cases h1 : 0 ≤ g.N
  · by_cases h2 : g.N ≤ 64
    · by_cases h3 : (g.Rows.length : Int) = g.N
      · have hs : Sh.shl 1#64 g.N = some (1#64 <<< g.N.toNat) := by simp [Sh.shl, h1]
        simp only [h1, h2, h3, decide_true, if_true, bits_Join _ hl, hs, Option.bind_some, bits_Sub, true_and, Option.some.injEq]
        congr 1
        apply propext
        rw [sub_iff]
        constructor
        · intro h r hr i hi hN
          cases hb : r.getLsbD i with
          | false => rfl
          | true =>
            have := h i (by rw [join_get, List.any_eq_true]; exact ⟨r, hr, hb⟩)
            rw [nodes_get _ (by omega) i hi] at this
            have := of_decide_eq_true this
            omega
        · intro h i hi
          have hi64 : i < 64 := by
            rcases Nat.lt_or_ge i 64 with h' | h'
            · exact h'
            · rw [BitVec.getLsbD_of_ge _ i h'] at hi; cases hi
          rw [nodes_get _ (by omega) i hi64]
          apply decide_eq_true
          rw [join_get, List.any_eq_true] at hi
          obtain ⟨r, hr, hb⟩ := hi
          rcases Nat.lt_or_ge i g.N.toNat with h' | h'
          · exact h'
          · rw [h r hr i hi64 (by omega)] at hb; cases hb
      · simp [h1, h2, h3]
    · simp [h1, h2]
  · simp [h1]
@[simp] theorem Right_gr {n : Nat} (hn : n ≤ 64) (f : Nat → Nat → Bool) : G.graph_Right (gr n f) = some true := by
  rw [graph_Right _ (by simp; omega)]
  exact congrArg some (right_rows hn f)
theorem graph_New (n : Nat) (hn : n ≤ 64) : G.graph_New (n : Int) = some (⟨(n : Int), List.replicate n 0#64⟩, 0) := by
  unfold G.graph_New G.graph_New_j1
  have h1 : ¬ (n : Int) < 0 := by omega
  have h2 : ¬ (64 : Int) < (n : Int) := by omega
  simp only [h1, h2, decide_false, Bool.false_eq_true, if_false, mk_ok (show 8 * n ≤ 140737488355328 by omega) (show n ≤ 4611686018427387904 by omega), Option.bind_some]
theorem zero_rows (n : Nat) : List.replicate n 0#64 = rows n (fun _ _ => false) := by
  unfold rows
  apply List.ext_getElem (by simp)
  intro x h1 h2
  simp only [List.getElem_replicate, List.getElem_map]
  have : ∀ m, row m (fun _ => false) = 0#64 := fun m => by
    induction m with
    | zero => rfl
    | succ m ih => simp [row, ih]
  rw [this]
theorem row_has {n : Nat} (hn : n ≤ 64) (p : Nat → Bool) {k : Nat} (hk : k < n) : Bv.has (row n p) (k : Int) = p k := by
  rw [has_nat _ (by omega), row_get hn]; simp [hk]
theorem row_has_out {n : Nat} (hn : n ≤ 64) (p : Nat → Bool) {b : Int} (hb : b < 0 ∨ (n : Int) ≤ b) : Bv.has (row n p) b = false := by
  unfold Bv.has
  rcases hb with hb | hb
  · have : ¬ 0 ≤ b := by omega
    simp [this]
  · rw [row_get hn]
    have : ¬ b.toNat < n := by omega
    simp [this]
def hasB (n : Nat) (f : Nat → Nat → Bool) (a b : Int) : Bool := decide (0 ≤ a ∧ a < n ∧ 0 ≤ b ∧ b < n) && f a.toNat b.toNat
theorem graph_Has {n : Nat} (hn : n ≤ 64) (f : Nat → Nat → Bool) (a b : Int) : G.graph_Has (gr n f) a b = some (hasB n f a b) := by
  unfold G.graph_Has hasB
  simp only [Right_gr hn, Option.bind_some, if_true]
  by_cases h1 : 0 ≤ a
  · by_cases h2 : a < n
    · obtain ⟨k, rfl⟩ : ∃ k : Nat, a = k := ⟨a.toNat, by omega⟩
      have hk : k < n := by omega
      simp only [h1, h2, decide_true, if_true, rows_idx hk, Option.bind_some, bits_Has]
      by_cases h3 : 0 ≤ b ∧ b < n
      · obtain ⟨j, rfl⟩ : ∃ j : Nat, b = j := ⟨b.toNat, by omega⟩
        rw [row_has hn _ (by omega)]
        simp [h3]
      · rw [row_has_out hn _ (by omega)]
        have : ¬ (True ∧ True ∧ 0 ≤ b ∧ b < n) := fun h => h3 h.2.2
        rw [decide_eq_false this]; rfl
    · simp [h1, h2]
  · simp [h1]
theorem row_with {n : Nat} (hn : n ≤ 64) (p : Nat → Bool) {k : Nat} (hk : k < n) : row n p ||| Bv.bit (k : Int) = row n (fun i => p i || decide (i = k)) := by
  apply Bv.ext
  intro i hi
  rw [row_get hn, BitVec.getLsbD_or, row_get hn]
  have hb : Bv.bit (k : Int) = 1#64 <<< k := by unfold Bv.bit; rw [if_pos ⟨by omega, by omega⟩]; simp
  rw [hb]
  simp only [BitVec.getLsbD_shiftLeft, hi, decide_true, Bool.true_and]
  by_cases hik : i = k
  · subst hik; simp [hk]
  · by_cases hlt : i < k
    · simp [hlt, hik]
    · simp [hlt, hik, BitVec.getLsbD_one]; omega
theorem rows_set {n : Nat} (f : Nat → Nat → Bool) {x : Nat} (_hx : x < n) (p : Nat → Bool) : (rows n f).set x (row n p) = rows n (fun a => if a = x then p else f a) := by
  apply List.ext_getElem (by simp)
  intro a h1 h2
  rw [List.getElem_set, rows_at, rows_at]
  by_cases ha : x = a
  · subst ha; simp
  · simp [ha, Ne.symm ha]
def addF (f : Nat → Nat → Bool) (a b : Nat) : Nat → Nat → Bool := fun x y => f x y || decide (x = a ∧ y = b)
theorem graph_Add {n : Nat} (hn : n ≤ 64) (f : Nat → Nat → Bool) {a b : Nat} (ha : a < n) (hb : b < n) : G.graph_Add (gr n f) (a : Int) (b : Int) = some (gr n (addF f a b), 0) := by
  unfold G.graph_Add G.graph_Add_j1
  have h1 : ¬ (a : Int) < 0 := by omega
  have h2 : ¬ (n : Int) ≤ (a : Int) := by omega
  have h3 : ¬ (b : Int) < 0 := by omega
  have h4 : ¬ (n : Int) ≤ (b : Int) := by omega
  simp only [Right_gr hn, Option.bind_some, Bool.not_true, Bool.false_eq_true, if_false, h1, h2, h3, h4, decide_false, graph_New n hn, cpy_ok (show (rows n f).length = (List.replicate n 0#64).length by simp), rows_idx ha, bits_With, row_with hn _ hb, set_at, rows_set f ha]
  have e : rows n (fun x => if x = a then (fun i => f a i || decide (i = b)) else f x) = rows n (addF f a b) := by
    rw [rows_ext hn]
    intro x y _ _
    unfold addF
    by_cases hx : x = a
    · subst hx; simp
    · simp [hx]
  rw [e]
def mixF (f h : Nat → Nat → Bool) (k : Nat) : Nat → Nat → Bool := fun x y => if x < k then h x y else f x y
theorem mix_zero {n : Nat} (f h : Nat → Nat → Bool) : rows n (mixF f h 0) = rows n f := by
  unfold rows mixF; simp
theorem mix_all {n : Nat} (hn : n ≤ 64) (f h : Nat → Nat → Bool) : rows n (mixF f h n) = rows n h := by
  rw [rows_ext hn]; intro x y hx _; simp [mixF, hx]
theorem mix_set {n : Nat} (hn : n ≤ 64) (f h : Nat → Nat → Bool) {k : Nat} (hk : k < n) : (rows n (mixF f h k)).set k (row n (h k)) = rows n (mixF f h (k + 1)) := by
  rw [rows_set _ hk, rows_ext hn]
  intro x y _ _
  unfold mixF
  by_cases hx : x = k
  · subst hx; simp
  · by_cases hlt : x < k
    · simp [hx, hlt, show x < k + 1 by omega]
    · simp [hx, hlt, show ¬ x < k + 1 by omega]
theorem row_or {n : Nat} (hn : n ≤ 64) (p q : Nat → Bool) : row n p ||| row n q = row n (fun i => p i || q i) := by
  apply Bv.ext
  intro i _
  rw [BitVec.getLsbD_or, row_get hn, row_get hn, row_get hn]
  by_cases hi : i < n <;> simp [hi]

def orF (f h : Nat → Nat → Bool) : Nat → Nat → Bool := fun x y => f x y || h x y
theorem like_gr {n m : Nat} (hn : n ≤ 64) (hm : m ≤ 64) (f h : Nat → Nat → Bool) : G.graph_like (gr n f) (gr m h) = some (decide (n = m)) := by
  unfold G.graph_like
  simp [Right_gr hn, Right_gr hm, Int.ofNat_inj]
theorem graph_Union {n : Nat} (hn : n ≤ 64) (f h : Nat → Nat → Bool) : G.graph_Union (gr n f) (gr n h) = some (gr n (orF f h), 0) := by
  unfold G.graph_Union
  simp only [like_gr hn hn, decide_true, Option.bind_some, Bool.not_true, Bool.false_eq_true, if_false, graph_New n hn]
  refine count (fun k => rows n (mixF (fun _ _ => false) (orF f h) k)) n _ (fuel_gt (by omega)) (fun k hk => ?_) ?_ (by rw [mix_zero, zero_rows])
  · simp only [G.graph_Union_b1, len_eq, List.length_replicate, dec_lt, hk, decide_true, if_true, rows_idx hk, Option.bind_some, join_two, row_or hn, set_at, Sh.next, w64_succ (show k < 9223372036854775807 by omega)]
    have := mix_set hn (fun _ _ => false) (orF f h) hk
    rw [← this]; rfl
  · simp only [G.graph_Union_b1, len_eq, List.length_replicate, Int.lt_irrefl, decide_false, Bool.false_eq_true, if_false, G.graph_Union_j1, exit_some, mix_all hn]
theorem ilist_at {s : BitVec 64} {k : Nat} (h : k < (Bv.list s).length) : Sh.idx (ilist s) (k : Int) = some (((Bv.list s)[k] : Nat) : Int) := by
  have h' : k < (ilist s).length := by simpa [ilist] using h
  rw [idx_at h']; simp [ilist]
theorem list_row {n : Nat} (hn : n ≤ 64) (p : Nat → Bool) {i : Nat} : i ∈ Bv.list (row n p) ↔ i < n ∧ p i = true := by
  rw [Bv.mem_list, row_get hn]; simp
theorem list_mem_lt {n : Nat} (hn : n ≤ 64) (p : Nat → Bool) {k : Nat} (h : k < (Bv.list (row n p)).length) : (Bv.list (row n p))[k] < n := ((list_row hn p).1 (List.getElem_mem h)).1
theorem any_take {l : List Nat} {k : Nat} (h : k < l.length) (q : Nat → Bool) : (l.take (k + 1)).any q = ((l.take k).any q || q l[k]) := by
  rw [List.take_succ_eq_append_getElem h, List.any_append]; simp
def compF (n : Nat) (f h : Nat → Nat → Bool) : Nat → Nat → Bool := fun x y => (List.range n).any fun z => f x z && h z y
theorem comp_row {n : Nat} (hn : n ≤ 64) (f h : Nat → Nat → Bool) (x : Nat) : row n (fun y => (Bv.list (row n (f x))).any fun z => h z y) = row n (compF n f h x) := by
  rw [row_ext hn]
  intro y _
  unfold compF
  rw [Bool.eq_iff_iff, List.any_eq_true, List.any_eq_true]
  constructor
  · rintro ⟨z, h1, h2⟩
    obtain ⟨h3, h4⟩ := (list_row hn _).1 h1
    exact ⟨z, by simpa using h3, by simp [h4, h2]⟩
  · rintro ⟨z, h1, h2⟩
    simp only [Bool.and_eq_true] at h2
    exact ⟨z, (list_row hn _).2 ⟨by simpa using h1, h2.1⟩, h2.2⟩
theorem comp_inner {n : Nat} (hn : n ≤ 64) (h : Nat → Nat → Bool) (F : Nat → Nat → Bool) {x : Nat} (hx : x < n) (p : Nat → Bool) (hF : ∀ y, y < n → F x y = false) :
    Sh.loop (fun (q : (List (BitVec 64)) × Int) => G.graph_Compose_b2 (gr n h) (x : Int) (ilist (row n p)) q.1 q.2) (rows n F, 0) =
      some (.inl ((rows n F).set x (row n (fun y => (Bv.list (row n p)).any fun z => h z y)), ((x + 1 : Nat) : Int))) := by
  refine count (fun k => (rows n F).set x (row n (fun y => ((Bv.list (row n p)).take k).any fun z => h z y))) (Bv.list (row n p)).length _ (fuel_gt (by have := Bv.list_length_le (row n p); omega)) (fun k hk => ?_) ?_ ?_
  · have hz := list_mem_lt hn p hk
    have hl : Sh.len (ilist (row n p)) = ((Bv.list (row n p)).length : Int) := by simp [ilist, Sh.len]
    have hs : ∀ r : BitVec 64, Sh.idx ((rows n F).set x r) (x : Int) = some r := fun r => by
      rw [idx_at (by simpa using hx)]; simp
    simp only [G.graph_Compose_b2, hl, dec_lt, hk, decide_true, if_true, ilist_at hk, Option.bind_some, hs, rows_idx hz, join_two, row_or hn, set_at, List.set_set, Sh.next, w64_succ (show k < 9223372036854775807 by have := Bv.list_length_le (row n p); omega)]
    congr 5
    funext y
    rw [any_take hk]
  · have hl : Sh.len (ilist (row n p)) = ((Bv.list (row n p)).length : Int) := by simp [ilist, Sh.len]
    simp only [G.graph_Compose_b2, hl, Int.lt_irrefl, decide_false, Bool.false_eq_true, if_false, G.graph_Compose_j2, next_some, exit_some, List.take_length, w64_succ (show x < 9223372036854775807 by omega)]
  · rw [rows_set _ hx, rows_ext hn]
    intro a y _ hy
    by_cases ha : a = x
    · subst ha; simp [hF y hy]
    · simp [ha]
theorem graph_Compose {n : Nat} (hn : n ≤ 64) (f h : Nat → Nat → Bool) : G.graph_Compose (gr n f) (gr n h) = some (gr n (compF n f h), 0) := by
  unfold G.graph_Compose
  simp only [like_gr hn hn, decide_true, Option.bind_some, Bool.not_true, Bool.false_eq_true, if_false, graph_New n hn]
  refine count (fun k => rows n (mixF (fun _ _ => false) (compF n f h) k)) n _ (fuel_gt (by omega)) (fun k hk => ?_) ?_ (by rw [mix_zero, zero_rows])
  · simp only [G.graph_Compose_b1, len_eq, List.length_replicate, dec_lt, hk, decide_true, if_true, rows_idx hk, Option.bind_some, bits_List]
    rw [comp_inner hn h (mixF (fun _ _ => false) (compF n f h) k) hk (f k) (fun y _ => by simp [mixF]), comp_row hn, mix_set hn _ _ hk]
  · simp only [G.graph_Compose_b1, len_eq, List.length_replicate, Int.lt_irrefl, decide_false, Bool.false_eq_true, if_false, G.graph_Compose_j1, exit_some, mix_all hn]
end Pl
end

section
/- The reference's graphs. -/
namespace Pl
open Go Go.Av

theorem r12_Has {n : Nat} (hn : n ≤ 64) (f : Nat → Nat → Bool) {a : Nat} (ha : a < n) {b : Nat} (hb : b < n) : G.inquestref12_Has (rg n f) (a : Int) (b : Int) = some (f a b) := by
  unfold G.inquestref12_Has
  simp only [rows_idx ha, Option.bind_some, r10_Has, row_has hn _ hb]
theorem r12_New (n : Nat) (hn : n ≤ 64) : G.inquestref12_New (n : Int) = some ⟨(n : Int), List.replicate n 0#64⟩ := by
  unfold G.inquestref12_New
  refine count (fun k => List.replicate k 0#64) n _ (fuel_gt (by omega)) (fun k hk => ?_) ?_ rfl
  · simp only [G.inquestref12_New_b1, dec_lt, hk, decide_true, if_true]
    rw [app_ok (by simp; omega)]
    simp only [Option.bind_some, Sh.next, w64_succ (show k < 9223372036854775807 by omega)]
    rw [List.replicate_succ']
  · simp only [G.inquestref12_New_b1, Int.lt_irrefl, decide_false, Bool.false_eq_true, if_false, G.inquestref12_New_j1, exit_some]
theorem r12_Same (a b : G.inquestref12_G) (hl : a.Rows.length < 9223372036854775808) : G.inquestref12_Same a b = some (decide (a = b)) := by
  unfold G.inquestref12_Same G.inquestref12_Same_j1
  obtain ⟨N, R⟩ := a
  obtain ⟨M, S⟩ := b
  by_cases h1 : N = M
  · subst h1
    by_cases h2 : R.length = S.length
    · have h2' : (R.length : Int) = (S.length : Int) := by omega
      simp only [ne_eq, not_true_eq_false, decide_false, Bool.false_eq_true, if_false, len_eq, h2']
      have key := scan_true (b := fun (p : Int) => G.inquestref12_Same_b1 ⟨N, R⟩ ⟨N, S⟩ p) R.length (fun k => decide (R[k]? = S[k]?)) hl (fun k hk => ?_) ?_
      · rw [key]
        congr 2
        apply propext
        simp only [decide_eq_true_eq, G.inquestref12_G.mk.injEq, true_and]
        constructor
        · intro h
          apply List.ext_getElem? (fun i => ?_)
          rcases Nat.lt_or_ge i R.length with hi | hi
          · exact h i hi
          · rw [List.getElem?_eq_none hi, List.getElem?_eq_none (by omega)]
        · rintro rfl k _; rfl
      · have hk2 : k < S.length := by omega
        have hl' : R.length < 9223372036854775808 := hl
        simp only [G.inquestref12_Same_b1, len_eq, dec_lt, hk, decide_true, if_true, idx_at hk, idx_at hk2, Option.bind_some, List.getElem?_eq_getElem hk, List.getElem?_eq_getElem hk2, Option.some.injEq, w64_succ (show k < 9223372036854775807 by omega), Sh.next, exit_some]
        by_cases he : R[k] = S[k] <;> simp [he]
      · simp [G.inquestref12_Same_b1, G.inquestref12_Same_j2, Sh.exit]
    · have h2' : ¬ (R.length : Int) = (S.length : Int) := by omega
      have h3 : ¬ R = S := fun h => h2 (by rw [h])
      simp [h2', h3]
  · simp [h1]
theorem same_rg {n : Nat} (hn : n ≤ 64) (f h : Nat → Nat → Bool) : G.inquestref12_Same (rg n f) (rg n h) = some (decide (rows n f = rows n h)) := by
  rw [r12_Same _ _ (by simp; omega)]
  simp [rg]
theorem same_self {n : Nat} (hn : n ≤ 64) (f : Nat → Nat → Bool) : G.inquestref12_Same (rg n f) (rg n f) = some true := by
  rw [same_rg hn]; simp
def layF (h : Nat → Nat → Bool) (x y : Nat) : Nat → Nat → Bool := fun a b => if a < x then h a b else if a = x then decide (b < y) && h a b else false
theorem lay_zero {n : Nat} (hn : n ≤ 64) (h : Nat → Nat → Bool) : rows n (layF h 0 0) = List.replicate n 0#64 := by
  rw [zero_rows, rows_ext hn]
  intro a b _ _
  unfold layF
  by_cases ha : a = 0 <;> simp [ha]
theorem lay_next {n : Nat} (hn : n ≤ 64) (h : Nat → Nat → Bool) (x : Nat) : rows n (layF h x n) = rows n (layF h (x + 1) 0) := by
  rw [rows_ext hn]
  intro a b _ hb
  unfold layF
  by_cases h1 : a < x
  · simp [h1, show a < x + 1 by omega]
  · by_cases h2 : a = x
    · subst h2; simp [hb]
    · simp [h1, h2, show ¬ a < x + 1 by omega]
theorem lay_all {n : Nat} (hn : n ≤ 64) (h : Nat → Nat → Bool) : rows n (layF h n 0) = rows n h := by
  rw [rows_ext hn]
  intro a b ha _
  simp [layF, ha]
theorem lay_no {n : Nat} (hn : n ≤ 64) (h : Nat → Nat → Bool) {x y : Nat} (he : h x y = false) : rows n (layF h x y) = rows n (layF h x (y + 1)) := by
  rw [rows_ext hn]
  intro a b _ _
  unfold layF
  by_cases h1 : a < x
  · simp [h1]
  · by_cases h2 : a = x
    · subst h2
      by_cases h3 : b < y
      · simp [h3, show b < y + 1 by omega]
      · by_cases h4 : b = y
        · subst h4; simp [he]
        · simp [h3, show ¬ b < y + 1 by omega]
    · simp [h1, h2]
theorem lay_row {n : Nat} (h : Nat → Nat → Bool) {x y : Nat} (hx : x < n) : Sh.idx (rows n (layF h x y)) (x : Int) = some (row n (layF h x y x)) := rows_idx hx
theorem lay_yes {n : Nat} (hn : n ≤ 64) (h : Nat → Nat → Bool) {x y : Nat} (hx : x < n) (hy : y < n) (he : h x y = true) :
    Sh.set (rows n (layF h x y)) (x : Int) (row n (layF h x y x) ||| Bv.bit (y : Int)) = rows n (layF h x (y + 1)) := by
  rw [set_at, row_with hn _ hy, rows_set _ hx, rows_ext hn]
  intro a b _ _
  by_cases ha : a = x
  · subst ha
    unfold layF
    by_cases h3 : b < y
    · have : ¬ b = y := by omega
      simp [h3, show b < y + 1 by omega, this]
    · by_cases h4 : b = y
      · subst h4; simp [he]
      · simp [h3, h4, show ¬ b < y + 1 by omega]
  · simp only [ha, if_false]
    unfold layF
    by_cases h1 : a < x <;> simp [h1, ha]
theorem r12_Union {n : Nat} (hn : n ≤ 64) (f h : Nat → Nat → Bool) : G.inquestref12_Union (rg n f) (rg n h) = some (rg n (orF f h)) := by
  unfold G.inquestref12_Union
  simp only [r12_New n hn, Option.bind_some]
  refine count (fun x => rows n (layF (orF f h) x 0)) n _ (fuel_gt (by omega)) (fun x hx => ?_) ?_ (by rw [lay_zero hn])
  · simp only [G.inquestref12_Union_b1, dec_lt, hx, decide_true, if_true]
    refine count (fun y => rows n (layF (orF f h) x y)) n _ (fuel_gt (by omega)) (fun y hy => ?_) ?_ rfl
    · have e : orF f h x y = (f x y || h x y) := rfl
      simp only [G.inquestref12_Union_b2, dec_lt, hy, decide_true, if_true, r12_Has hn f hx hy, r12_Has hn h hx hy, Option.bind_some, G.inquestref12_Union_j3, G.inquestref12_Union_j4, lay_row _ hx, r10_With, Sh.next, w64_succ (show y < 9223372036854775807 by omega)]
      cases h1 : f x y with
      | true => simp only [if_true, lay_yes hn (orF f h) hx hy (by rw [e, h1]; rfl)]
      | false =>
        cases h2 : h x y with
        | true => simp only [Bool.false_eq_true, if_false, if_true, lay_yes hn (orF f h) hx hy (by rw [e, h1, h2]; rfl)]
        | false => simp only [Bool.false_eq_true, if_false, lay_no hn (orF f h) (show orF f h x y = false by rw [e, h1, h2]; rfl)]
    · simp only [G.inquestref12_Union_b2, Int.lt_irrefl, decide_false, Bool.false_eq_true, if_false, G.inquestref12_Union_j2, next_some, exit_some, lay_next hn, w64_succ (show x < 9223372036854775807 by omega)]
  · simp only [G.inquestref12_Union_b1, Int.lt_irrefl, decide_false, Bool.false_eq_true, if_false, G.inquestref12_Union_j1, exit_some, lay_all hn]
end Pl
namespace Pl
open Go Go.Av
def gatF (c : Nat → Nat → Bool) (x : Nat) (p : Nat → Bool) : Nat → Nat → Bool := fun a b => if a < x then c a b else if a = x then p b else false
theorem gat_zero {n : Nat} (hn : n ≤ 64) (c : Nat → Nat → Bool) : rows n (gatF c 0 fun _ => false) = List.replicate n 0#64 := by
  rw [zero_rows, rows_ext hn]
  intro a b _ _
  simp [gatF]
theorem gat_next {n : Nat} (hn : n ≤ 64) (c : Nat → Nat → Bool) (x : Nat) : rows n (gatF c x (c x)) = rows n (gatF c (x + 1) fun _ => false) := by
  rw [rows_ext hn]
  intro a b _ _
  unfold gatF
  by_cases h1 : a < x
  · simp [h1, show a < x + 1 by omega]
  · by_cases h2 : a = x
    · subst h2; simp
    · simp [h1, h2, show ¬ a < x + 1 by omega]
theorem gat_all {n : Nat} (hn : n ≤ 64) (c : Nat → Nat → Bool) : rows n (gatF c n fun _ => false) = rows n c := by
  rw [rows_ext hn]
  intro a b ha _
  simp [gatF, ha]
theorem gat_ext {n : Nat} (hn : n ≤ 64) (c : Nat → Nat → Bool) (x : Nat) {p q : Nat → Bool} (h : ∀ b, b < n → p b = q b) : rows n (gatF c x p) = rows n (gatF c x q) := by
  rw [rows_ext hn]
  intro a b _ hb
  simp [gatF, h b hb]
theorem gat_with {n : Nat} (hn : n ≤ 64) (c : Nat → Nat → Bool) {x y : Nat} (hx : x < n) (hy : y < n) (p : Nat → Bool) :
    Sh.set (rows n (gatF c x p)) (x : Int) (row n (gatF c x p x) ||| Bv.bit (y : Int)) = rows n (gatF c x fun b => p b || decide (b = y)) := by
  rw [set_at, row_with hn _ hy, rows_set _ hx, rows_ext hn]
  intro a b _ _
  by_cases ha : a = x
  · subst ha; simp [gatF]
  · simp [ha, gatF]
theorem r12_Compose {n : Nat} (hn : n ≤ 64) (f h : Nat → Nat → Bool) : G.inquestref12_Compose (rg n f) (rg n h) = some (rg n (compF n f h)) := by
  unfold G.inquestref12_Compose
  simp only [r12_New n hn, Option.bind_some]
  refine count (fun x => rows n (gatF (compF n f h) x fun _ => false)) n _ (fuel_gt (by omega)) (fun x hx => ?_) ?_ (by rw [gat_zero hn])
  · simp only [G.inquestref12_Compose_b1, dec_lt, hx, decide_true, if_true]
    refine count (fun y => rows n (gatF (compF n f h) x fun b => (List.range y).any fun z => f x z && h z b)) n _ (fuel_gt (by omega)) (fun y hy => ?_) ?_ (by simp)
    · simp only [G.inquestref12_Compose_b2, dec_lt, hy, decide_true, if_true, r12_Has hn f hx hy, Option.bind_some]
      have step : rows n (gatF (compF n f h) x fun b => ((List.range y).any fun z => f x z && h z b) || (f x y && h y b)) = rows n (gatF (compF n f h) x fun b => (List.range (y + 1)).any fun z => f x z && h z b) := by
        apply gat_ext hn
        intro b _
        rw [List.range_succ, List.any_append]; simp
      cases hf : f x y with
      | false =>
        rw [hf] at step
        simp only [Bool.false_and, Bool.or_false] at step
        simp only [Bool.not_false, if_true, G.inquestref12_Compose_j3, Sh.next, w64_succ (show y < 9223372036854775807 by omega), step]
      | true =>
        rw [hf] at step
        simp only [Bool.true_and] at step
        simp only [Bool.not_true, Bool.false_eq_true, if_false]
        refine count (fun z => rows n (gatF (compF n f h) x fun b => ((List.range y).any fun z => f x z && h z b) || (decide (b < z) && h y b))) n _ (fuel_gt (by omega)) (fun z hz => ?_) ?_ (gat_ext hn _ x (fun b _ => by simp))
        · have hz' : (z : Int) < (n : Int) := by omega
          simp only [G.inquestref12_Compose_b3, dec_lt, hz, decide_true, if_true, r12_Has hn h hy hz, Option.bind_some, G.inquestref12_Compose_j4, rows_idx hx, r10_With, Sh.next, w64_succ (show z < 9223372036854775807 by omega), gat_with hn _ hx hz]
          cases hh : h y z with
          | true =>
            simp only [if_true]
            congr 3
            apply gat_ext hn
            intro b _
            by_cases h1 : b < z
            · have : ¬ b = z := by omega
              simp [h1, show b < z + 1 by omega, this]
            · by_cases h2 : b = z
              · subst h2; simp [hh]
              · simp [h1, h2, show ¬ b < z + 1 by omega]
          | false =>
            simp only [Bool.false_eq_true, if_false]
            congr 3
            apply gat_ext hn
            intro b _
            by_cases h1 : b < z
            · simp [h1, show b < z + 1 by omega]
            · by_cases h2 : b = z
              · subst h2; simp [hh]
              · simp [h1, show ¬ b < z + 1 by omega]
        · simp only [G.inquestref12_Compose_b3, Int.lt_irrefl, decide_false, Bool.false_eq_true, if_false, G.inquestref12_Compose_j3, next_some, exit_some, w64_succ (show y < 9223372036854775807 by omega)]
          congr 4
          rw [← step]
          apply gat_ext hn
          intro b hb
          simp [hb]
    · simp only [G.inquestref12_Compose_b2, Int.lt_irrefl, decide_false, Bool.false_eq_true, if_false, G.inquestref12_Compose_j2, next_some, exit_some, w64_succ (show x < 9223372036854775807 by omega)]
      rw [← gat_next hn]; rfl
  · simp only [G.inquestref12_Compose_b1, Int.lt_irrefl, decide_false, Bool.false_eq_true, if_false, G.inquestref12_Compose_j1, exit_some, gat_all hn]
end Pl
end

section
/- Where ways lead. -/


namespace Pl
open Go Go.Av

inductive Way (n : Nat) (f : Nat → Nat → Bool) : Nat → Nat → Prop
  | edge {x y : Nat} : x < n → y < n → f x y = true → Way n f x y
  | cons {x y z : Nat} : x < n → y < n → f x y = true → Way n f y z → Way n f x z

theorem Way.trans {n : Nat} {f : Nat → Nat → Bool} {x y z : Nat} (h : Way n f x y) (k : Way n f y z) : Way n f x z := by
  induction h with
  | edge hx hy hf => exact .cons hx hy hf k
  | cons hx hy hf _ ih => exact .cons hx hy hf (ih k)
theorem Way.left {n : Nat} {f : Nat → Nat → Bool} {x y : Nat} (h : Way n f x y) : x < n := by cases h <;> assumption
theorem Way.right {n : Nat} {f : Nat → Nat → Bool} {x y : Nat} (h : Way n f x y) : y < n := by
  induction h with
  | edge _ hy _ => exact hy
  | cons _ _ _ _ ih => exact ih
theorem Way.mono {n : Nat} {f h : Nat → Nat → Bool} (hm : ∀ x y, x < n → y < n → f x y = true → Way n h x y) {x y : Nat} (w : Way n f x y) : Way n h x y := by
  induction w with
  | edge hx hy hf => exact hm _ _ hx hy hf
  | cons hx hy hf _ ih => exact (hm _ _ hx hy hf).trans ih
theorem Way.last {n : Nat} {f : Nat → Nat → Bool} {x z : Nat} (h : Way n f x z) : ∃ y, y < n ∧ f y z = true ∧ (y = x ∨ Way n f x y) := by
  induction h with
  | edge hx hy hf => exact ⟨_, hx, hf, .inl rfl⟩
  | cons hx hy hf _ ih =>
    obtain ⟨y, h1, h2, h3⟩ := ih
    refine ⟨y, h1, h2, .inr ?_⟩
    rcases h3 with rfl | h3
    · exact .edge hx hy hf
    · exact .cons hx hy hf h3

end Pl
end

section
/- The statements on graphs. -/

namespace Pl
open Go Go.Av

end Pl
end

section
/- The statements on where ways lead. -/

namespace Pl
open Go Go.Av

end Pl
end

section
/- The reference's graphs of a history: what must come ahead of what. -/
namespace Pl
open Go Go.Av

theorem inr_nat {h : G.api_Hist} {x : Nat} : inr h (x : Int) = true ↔ x < h.Txns.length := by rw [inr_iff]; omega
theorem idx_nat {h : G.api_Hist} {x : Nat} (hx : x < h.Txns.length) : Sh.idx h.Txns (x : Int) = some (tx h x) := idx_tx (inr_nat.2 hx)
theorem tx_in {h : G.api_Hist} {x : Nat} (hx : x < h.Txns.length) : tx h x ∈ h.Txns := tx_mem (inr_nat.2 hx)
theorem set_edge {n : Nat} (hn : n ≤ 64) (f : Nat → Nat → Bool) {a b : Nat} (ha : a < n) (hb : b < n) : Sh.set (rows n f) (a : Int) (row n (f a) ||| Bv.bit (b : Int)) = rows n (addF f a b) := by
  rw [row_with hn _ hb, set_at, rows_set f ha, rows_ext hn]
  intro x y _ _
  unfold addF
  by_cases hx : x = a
  · subst hx; simp
  · simp [hx]

def soF (h : G.api_Hist) (x y : Nat) : Bool := decide (x < y) && decide ((tx h x).Session = (tx h y).Session)
def wrF (h : G.api_Hist) (x y : Nat) : Bool := (tx h y).Reads.any (fun r => decide (r.From = (x : Int)))
def iniC (h : G.api_Hist) (r : G.api_Take) (y : Nat) : Bool := decide (r.From = -1) && hasW (tx h y) r.Key
def iniF (h : G.api_Hist) (x y : Nat) : Bool := decide (y ≠ x) && (tx h x).Reads.any (fun r => iniC h r y)
def wwF (l : List G.api_Choice) (x y : Nat) : Bool := l.any (fun c => decide (c.A = (x : Int)) && decide (c.B = (y : Int)))
def rwC (h : G.api_Hist) (c : G.api_Choice) (x y : Nat) : Bool := decide (c.B = (y : Int)) && decide (x ≠ y) && decide (fromR h x c.Key = some c.A)
def rwF (h : G.api_Hist) (l : List G.api_Choice) (x y : Nat) : Bool := iniF h x y || l.any (fun c => rwC h c x y)


theorem take_any {α : Type} {l : List α} {k : Nat} (h : k < l.length) (q : α → Bool) : (l.take (k + 1)).any q = ((l.take k).any q || q l[k]) := by
  rw [List.take_add_one, List.getElem?_eq_getElem h, Option.toList_some, List.any_append, List.any_cons, List.any_nil, Bool.or_false]
theorem r17_So {h : G.api_Hist} (hn : h.Txns.length ≤ 64) : G.inquestref17_So h = some (rg h.Txns.length (soF h)) := by
  unfold G.inquestref17_So
  rw [show (Sh.len h.Txns) = ((h.Txns.length : Nat) : Int) from rfl, r12_New _ hn]
  simp only [Option.bind_some]
  refine count_exit (fun k => rows h.Txns.length (gatF (soF h) k fun _ => false)) h.Txns.length _ (fuel_gt (by omega)) (fun a ha => ?_) ?_ (by rw [gat_zero hn])
  · simp only [G.inquestref17_So_b1, dec_lt, ha, decide_true, if_true]
    rw [w64_succ (by omega)]
    refine run_exit (fun j => (rows h.Txns.length (gatF (soF h) a fun y => decide (y < a + 1 + j) && soF h a y), ((a + 1 + j : Nat) : Int))) (h.Txns.length - (a + 1)) _ (fuel_gt (by omega)) (fun j hj => ?_) ?_ ?_
    · have hb : a + 1 + j < h.Txns.length := by omega
      have ne : rows h.Txns.length (gatF (soF h) a fun y => (decide (y < a + 1 + j) && soF h a y) || (decide (y = a + 1 + j) && soF h a (a + 1 + j))) = rows h.Txns.length (gatF (soF h) a fun y => decide (y < a + 1 + (j + 1)) && soF h a y) := by
        apply gat_ext hn
        intro y hy
        by_cases e2 : y = a + 1 + j
        · subst e2; simp
        · have : (y < a + 1 + (j + 1)) ↔ (y < a + 1 + j) := by omega
          simp [e2, this]
      simp only [G.inquestref17_So_b2, dec_lt, hb, decide_true, if_true, idx_nat ha, idx_nat hb, Option.bind_some, rows_idx ha, r10_With, gat_with hn _ ha hb, G.inquestref17_So_j3, w64_succ (show a + 1 + j < 9223372036854775807 by omega), Sh.next]
      have hlt : decide (a < a + 1 + j) = true := by simp; omega
      by_cases hs : (tx h a).Session = (tx h (a + 1 + j : Nat)).Session
      · have hso : soF h a (a + 1 + j) = true := by unfold soF; rw [hlt, hs]; simp
        rw [← ne, hso]
        simp only [hs, decide_true, if_true, Bool.and_true]
        rfl
      · have hso : soF h a (a + 1 + j) = false := by unfold soF; rw [decide_eq_false hs]; simp
        rw [← ne, hso]
        simp only [hs, decide_false, Bool.false_eq_true, if_false, Bool.and_false, Bool.or_false]
        rfl
    · rw [show a + 1 + (h.Txns.length - (a + 1)) = h.Txns.length by omega]
      simp only [G.inquestref17_So_b2, dec_lt, Nat.lt_irrefl, decide_false, Bool.false_eq_true, if_false, G.inquestref17_So_j2, w64_succ (show a < 9223372036854775807 by omega), Sh.next]
      rw [← gat_next hn]
      congr 4
      exact gat_ext hn _ _ fun y hy => by simp [hy]
    · congr 1
      refine gat_ext hn _ _ fun y hy => ?_
      by_cases e2 : y < a + 1
      · have : ¬ a < y := by omega
        simp [soF, this]
      · simp [e2]
  · simp only [G.inquestref17_So_b1, dec_lt, Nat.lt_irrefl, decide_false, Bool.false_eq_true, if_false, G.inquestref17_So_j1]
    rw [gat_all hn]

def gatC (c : Nat → Nat → Bool) (t : Nat) (p : Nat → Bool) : Nat → Nat → Bool := fun a b => if b < t then c a b else if b = t then p a else false
theorem gatC_zero {n : Nat} (hn : n ≤ 64) (c : Nat → Nat → Bool) : rows n (gatC c 0 fun _ => false) = List.replicate n 0#64 := by
  rw [zero_rows, rows_ext hn]
  intro a b _ _
  simp [gatC]
theorem gatC_next {n : Nat} (hn : n ≤ 64) (c : Nat → Nat → Bool) (x : Nat) : rows n (gatC c x fun a => c a x) = rows n (gatC c (x + 1) fun _ => false) := by
  rw [rows_ext hn]
  intro a b _ _
  unfold gatC
  by_cases h1 : b < x
  · simp [h1, show b < x + 1 by omega]
  · by_cases h2 : b = x
    · subst h2; simp
    · simp [h1, h2, show ¬ b < x + 1 by omega]
theorem gatC_all {n : Nat} (hn : n ≤ 64) (c : Nat → Nat → Bool) : rows n (gatC c n fun _ => false) = rows n c := by
  rw [rows_ext hn]
  intro a b _ hb
  simp [gatC, hb]
theorem gatC_ext {n : Nat} (hn : n ≤ 64) (c : Nat → Nat → Bool) (x : Nat) {p q : Nat → Bool} (h : ∀ a, a < n → p a = q a) : rows n (gatC c x p) = rows n (gatC c x q) := by
  rw [rows_ext hn]
  intro a b ha _
  simp [gatC, h a ha]
theorem gatC_with {n : Nat} (hn : n ≤ 64) (c : Nat → Nat → Bool) {x y : Nat} (hx : x < n) (hy : y < n) (p : Nat → Bool) :
    Sh.set (rows n (gatC c y p)) (x : Int) (row n (gatC c y p x) ||| Bv.bit (y : Int)) = rows n (gatC c y fun a => p a || decide (a = x)) := by
  rw [set_at, row_with hn _ hy, rows_set _ hx, rows_ext hn]
  intro a b _ _
  by_cases ha : a = x
  · subst ha
    by_cases hb : b = y
    · subst hb; simp [gatC]
    · simp [gatC, hb]
  · by_cases hb : b = y
    · subst hb; simp [ha, gatC]
    · simp [ha, gatC, hb]

theorem from_in {h : G.api_Hist} (hr : right h = true) {t : Nat} (ht : t < h.Txns.length) {r : G.api_Take} (hm : r ∈ (tx h t).Reads) (h0 : ¬ r.From < 0) : ∃ x : Nat, r.From = (x : Int) ∧ x < h.Txns.length := by
  have := (from_ok hr (tx_in ht) hm h0).1
  obtain ⟨a, b⟩ := inr_iff.1 this
  exact ⟨r.From.toNat, by omega, by omega⟩
theorem r17_Wr {h : G.api_Hist} (hf : Fits h) (hr : right h = true) (hn : h.Txns.length ≤ 64) : G.inquestref17_Wr h = some (rg h.Txns.length (wrF h)) := by
  unfold G.inquestref17_Wr
  rw [show (Sh.len h.Txns) = ((h.Txns.length : Nat) : Int) from rfl, r12_New _ hn]
  simp only [Option.bind_some]
  refine count_exit (fun k => rows h.Txns.length (gatC (wrF h) k fun _ => false)) h.Txns.length _ (fuel_gt (by omega)) (fun t ht => ?_) ?_ (by rw [gatC_zero hn])
  · have hl := hf.reads _ (tx_in ht)
    simp only [G.inquestref17_Wr_b1, dec_lt, ht, decide_true, if_true, idx_nat ht, Option.bind_some]
    refine count_exit (fun i => rows h.Txns.length (gatC (wrF h) t fun x => ((tx h t).Reads.take i).any (fun r => decide (r.From = (x : Int))))) (tx h t).Reads.length _ (fuel_gt (by omega)) (fun i hi => ?_) ?_ (by simp)
    · have hm := List.getElem_mem hi
      have ne : rows h.Txns.length (gatC (wrF h) t fun x => ((tx h t).Reads.take i).any (fun r => decide (r.From = (x : Int))) || decide (((tx h t).Reads[i]).From = (x : Int))) = rows h.Txns.length (gatC (wrF h) t fun x => ((tx h t).Reads.take (i + 1)).any (fun r => decide (r.From = (x : Int)))) :=
        gatC_ext hn _ _ fun x _ => by rw [take_any hi]
      simp only [G.inquestref17_Wr_b2, dec_lt, hi, decide_true, if_true, idx_at hi, Option.bind_some, r10_With, G.inquestref17_Wr_j3, w64_succ (show i < 9223372036854775807 by omega), Sh.next]
      by_cases h0 : ((tx h t).Reads[i]).From < 0
      · have h1 : ¬ 0 ≤ ((tx h t).Reads[i]).From := by omega
        simp only [h1, decide_false, Bool.false_eq_true, if_false]
        rw [← ne]
        congr 3
        refine gatC_ext hn _ _ fun x _ => ?_
        have : ¬ ((tx h t).Reads[i]).From = (x : Int) := by omega
        simp [this]
      · have h1 : 0 ≤ ((tx h t).Reads[i]).From := by omega
        obtain ⟨x, hx, hxn⟩ := from_in hr ht hm h0
        simp only [hx, show (0 : Int) ≤ (x : Int) by omega, decide_true, if_true, rows_idx hxn, Option.bind_some, gatC_with hn _ hxn ht]
        rw [← ne]
        congr 3
        refine gatC_ext hn _ _ fun y _ => ?_
        rw [hx]
        congr 1
        rw [Bool.eq_iff_iff]
        simp only [decide_eq_true_eq]
        omega
    · simp only [G.inquestref17_Wr_b2, dec_lt, Nat.lt_irrefl, decide_false, Bool.false_eq_true, if_false, G.inquestref17_Wr_j2, w64_succ (show t < 9223372036854775807 by omega), Sh.next]
      rw [← gatC_next hn]
      congr 4
      exact gatC_ext hn _ _ fun y hy => by rw [List.take_of_length_le (Nat.le_refl _)]; rfl
  · simp only [G.inquestref17_Wr_b1, dec_lt, Nat.lt_irrefl, decide_false, Bool.false_eq_true, if_false, G.inquestref17_Wr_j1]
    rw [gatC_all hn]

theorem r17_Past {h : G.api_Hist} (hf : Fits h) (hr : right h = true) (hn : h.Txns.length ≤ 64) : G.inquestref17_Past h = some (rg h.Txns.length (orF (soF h) (wrF h))) := by
  unfold G.inquestref17_Past
  rw [r17_So hn, r17_Wr hf hr hn]
  simp only [Option.bind_some, r12_Union hn]

theorem r17_Init {h : G.api_Hist} (hf : Fits h) (hn : h.Txns.length ≤ 64) : G.inquestref17_Init h = some (rg h.Txns.length (iniF h)) := by
  unfold G.inquestref17_Init
  rw [show (Sh.len h.Txns) = ((h.Txns.length : Nat) : Int) from rfl, r12_New _ hn]
  simp only [Option.bind_some]
  refine count_exit (fun k => rows h.Txns.length (gatF (iniF h) k fun _ => false)) h.Txns.length _ (fuel_gt (by omega)) (fun t ht => ?_) ?_ (by rw [gat_zero hn])
  · have hl := hf.reads _ (tx_in ht)
    simp only [G.inquestref17_Init_b1, dec_lt, ht, decide_true, if_true, idx_nat ht, Option.bind_some]
    refine count_exit (fun i => rows h.Txns.length (gatF (iniF h) t fun y => decide (y ≠ t) && ((tx h t).Reads.take i).any (fun r => iniC h r y))) (tx h t).Reads.length _ (fuel_gt (by omega)) (fun i hi => ?_) ?_ (by simp)
    · simp only [G.inquestref17_Init_b2, dec_lt, hi, decide_true, if_true]
      refine count_exit (fun w => rows h.Txns.length (gatF (iniF h) t fun y => (decide (y ≠ t) && ((tx h t).Reads.take i).any (fun r => iniC h r y)) || (decide (y < w) && (decide (y ≠ t) && iniC h ((tx h t).Reads[i]) y)))) h.Txns.length _ (fuel_gt (by omega)) (fun w hw => ?_) ?_ (by simp)
      · have ne : rows h.Txns.length (gatF (iniF h) t fun y => ((decide (y ≠ t) && ((tx h t).Reads.take i).any (fun r => iniC h r y)) || (decide (y < w) && (decide (y ≠ t) && iniC h ((tx h t).Reads[i]) y))) || (decide (y = w) && (decide (w ≠ t) && iniC h ((tx h t).Reads[i]) w))) = rows h.Txns.length (gatF (iniF h) t fun y => (decide (y ≠ t) && ((tx h t).Reads.take i).any (fun r => iniC h r y)) || (decide (y < w + 1) && (decide (y ≠ t) && iniC h ((tx h t).Reads[i]) y))) :=
          gat_ext hn _ _ fun y _ => by
            by_cases e2 : y = w
            · subst e2; simp
            · have : (y < w + 1) ↔ (y < w) := by omega
              simp [e2, this]
        have hj : ∀ b : Bool, G.inquestref17_Init_j5 t (rows h.Txns.length (gatF (iniF h) t fun y => (decide (y ≠ t) && ((tx h t).Reads.take i).any (fun r => iniC h r y)) || (decide (y < w) && (decide (y ≠ t) && iniC h ((tx h t).Reads[i]) y)))) w b = some (.inl (rows h.Txns.length (gatF (iniF h) t fun y => ((decide (y ≠ t) && ((tx h t).Reads.take i).any (fun r => iniC h r y)) || (decide (y < w) && (decide (y ≠ t) && iniC h ((tx h t).Reads[i]) y))) || (decide (y = w) && b)), ((w + 1 : Nat) : Int))) := fun b => by
          unfold G.inquestref17_Init_j5
          simp only [rows_idx ht, Option.bind_some, r10_With, gat_with hn _ ht hw, G.inquestref17_Init_j4, w64_succ (show w < 9223372036854775807 by omega), Sh.next]
          cases b
          · simp
          · simp
        simp only [G.inquestref17_Init_b3, dec_lt, hw, decide_true, if_true, idx_nat hw, idx_at hi, Option.bind_some, rWrites (hf.writes _ (tx_in hw)), hj]
        rw [← ne]
        unfold iniC
        have e3 : decide ((w : Int) ≠ (t : Int)) = decide (w ≠ t) := by congr 1; exact propext (by omega)
        rw [e3]
        cases hasW (tx h w) ((tx h t).Reads[i]).Key
        · simp
        · by_cases e4 : ((tx h t).Reads[i]).From = -1
          · simp [e4]
          · simp [e4]
      · simp only [G.inquestref17_Init_b3, dec_lt, Nat.lt_irrefl, decide_false, Bool.false_eq_true, if_false, G.inquestref17_Init_j3, w64_succ (show i < 9223372036854775807 by omega), Sh.next]
        congr 4
        refine gat_ext hn _ _ fun y hy => ?_
        rw [take_any hi]
        simp only [hy, decide_true, Bool.true_and]
        cases decide (y ≠ t) <;> simp
    · simp only [G.inquestref17_Init_b2, dec_lt, Nat.lt_irrefl, decide_false, Bool.false_eq_true, if_false, G.inquestref17_Init_j2, w64_succ (show t < 9223372036854775807 by omega), Sh.next]
      rw [← gat_next hn]
      congr 4
      exact gat_ext hn _ _ fun y hy => by rw [List.take_of_length_le (Nat.le_refl _)]; rfl
  · simp only [G.inquestref17_Init_b1, dec_lt, Nat.lt_irrefl, decide_false, Bool.false_eq_true, if_false, G.inquestref17_Init_j1]
    rw [gat_all hn]

theorem one_nat {h : G.api_Hist} {c : G.api_Choice} (h1 : one h c = true) : ∃ a b : Nat, c.A = (a : Int) ∧ c.B = (b : Int) ∧ a < h.Txns.length ∧ b < h.Txns.length ∧ a ≠ b ∧ hasW (tx h a) c.Key = true ∧ hasW (tx h b) c.Key = true := by
  simp only [one, Bool.and_eq_true, decide_eq_true_eq] at h1
  obtain ⟨⟨⟨⟨d, e⟩, f⟩, g⟩, k⟩ := h1
  have e' := inr_iff.1 e
  have f' := inr_iff.1 f
  have ea : c.A = ((c.A.toNat : Nat) : Int) := by omega
  have eb : c.B = ((c.B.toNat : Nat) : Int) := by omega
  refine ⟨c.A.toNat, c.B.toNat, ea, eb, by omega, by omega, by omega, ?_, ?_⟩
  · rw [← ea]; exact g
  · rw [← eb]; exact k
theorem r18_Ww {h : G.api_Hist} (hn : h.Txns.length ≤ 64) {l : List G.api_Choice} (hl : l.length < 9223372036854775807) (hone : ∀ c ∈ l, one h c = true) : G.inquestref18_Ww h l = some (rg h.Txns.length (wwF l)) := by
  unfold G.inquestref18_Ww
  rw [show (Sh.len h.Txns) = ((h.Txns.length : Nat) : Int) from rfl, r12_New _ hn]
  simp only [Option.bind_some]
  refine count_exit (fun i => rows h.Txns.length (wwF (l.take i))) l.length _ (fuel_gt (by omega)) (fun i hi => ?_) ?_ ?_
  · obtain ⟨a, b, ea, eb, ha, hb, _⟩ := one_nat (hone _ (List.getElem_mem hi))
    simp only [G.inquestref18_Ww_b1, dec_lt, hi, decide_true, if_true, idx_at hi, Option.bind_some, ea, eb, rows_idx ha, r10_With, set_edge hn _ ha hb, w64_succ (show i < 9223372036854775807 by omega), Sh.next]
    congr 3
    rw [rows_ext hn]
    intro x y _ _
    unfold addF wwF
    rw [take_any hi, ea, eb]
    congr 1
    rw [Bool.eq_iff_iff]
    simp only [decide_eq_true_eq, Bool.and_eq_true]
    omega
  · simp only [G.inquestref18_Ww_b1, dec_lt, Nat.lt_irrefl, decide_false, Bool.false_eq_true, if_false, G.inquestref18_Ww_j1, List.take_length]
  · rw [zero_rows]
    congr 1
def readers (h : G.api_Hist) (key frm : Int) : List Nat := (List.range h.Txns.length).filter fun t : Nat => decide (fromR h t key = some frm)
theorem r09_Readers {h : G.api_Hist} (hf : Fits h) (hn : h.Txns.length ≤ 64) (key frm : Int) : G.inquestref09_Readers h key frm = some ((readers h key frm).map fun t : Nat => (t : Int)) := by
  unfold G.inquestref09_Readers readers
  refine count_exit (fun k => (((List.range k).filter fun t : Nat => decide (fromR h t key = some frm)).map fun t : Nat => (t : Int))) h.Txns.length _ (fuel_gt (by omega)) (fun k hk => ?_) ?_ (by simp)
  · have hj : ∀ b : Bool, G.inquestref09_Readers_j3 (((List.range k).filter fun t : Nat => decide (fromR h t key = some frm)).map fun t : Nat => (t : Int)) k b = some (.inl ((((List.range k).filter fun t : Nat => decide (fromR h t key = some frm)).map fun t : Nat => (t : Int)) ++ (if b then [(k : Int)] else []), ((k + 1 : Nat) : Int))) := fun b => by
      unfold G.inquestref09_Readers_j3
      have hle : ((List.range k).filter fun t : Nat => decide (fromR h t key = some frm)).length ≤ k := by
        have := List.length_filter_le (fun t : Nat => decide (fromR h t key = some frm)) (List.range k); simpa using this
      cases b
      · simp [G.inquestref09_Readers_j2, w64_succ (show k < 9223372036854775807 by omega), Sh.next]
      · simp only [if_true]
        rw [app_ok (by simp; omega)]
        simp [G.inquestref09_Readers_j2, w64_succ (show k < 9223372036854775807 by omega), Sh.next]
    simp only [G.inquestref09_Readers_b1, dec_lt, hk, decide_true, if_true, rFrom hf, Option.bind_some, hj]
    have e : ∀ v : Option Int, (if (match v with | some v => (v, true) | none => ((0 : Int), false)).2 = true then some (Sum.inl (α := List Int × Int) (β := List Int) ((((List.range k).filter fun t : Nat => decide (fromR h t key = some frm)).map fun t : Nat => (t : Int)) ++ (if decide ((match v with | some v => (v, true) | none => ((0 : Int), false)).1 = frm) = true then [(k : Int)] else []), ((k + 1 : Nat) : Int))) else some (Sum.inl ((((List.range k).filter fun t : Nat => decide (fromR h t key = some frm)).map fun t : Nat => (t : Int)) ++ (if false = true then [(k : Int)] else []), ((k + 1 : Nat) : Int)))) = some (.inl ((((List.range k).filter fun t : Nat => decide (fromR h t key = some frm)).map fun t : Nat => (t : Int)) ++ (if decide (v = some frm) then [(k : Int)] else []), ((k + 1 : Nat) : Int))) := fun v => by
      cases v with
      | none => simp
      | some v => by_cases hv : v = frm <;> simp [hv]
    refine (e (fromR h k key)).trans ?_
    rw [List.range_succ, List.filter_append, List.map_append]
    by_cases hk2 : fromR h k key = some frm <;> simp [hk2]
  · simp [G.inquestref09_Readers_b1, G.inquestref09_Readers_j1, Sh.len]
theorem readers_lt {h : G.api_Hist} {key frm : Int} {t : Nat} (ht : t ∈ readers h key frm) : t < h.Txns.length ∧ fromR h t key = some frm := by
  unfold readers at ht
  simpa using ht
theorem readers_len {h : G.api_Hist} {key frm : Int} : (readers h key frm).length ≤ h.Txns.length := by
  have := List.length_filter_le (fun t : Nat => decide (fromR h t key = some frm)) (List.range h.Txns.length); simpa [readers] using this
theorem r18_Rw {h : G.api_Hist} (hf : Fits h) (hn : h.Txns.length ≤ 64) {l : List G.api_Choice} (hl : l.length < 9223372036854775807) (hone : ∀ c ∈ l, one h c = true) : G.inquestref18_Rw h l = some (rg h.Txns.length (rwF h l)) := by
  unfold G.inquestref18_Rw
  rw [r17_Init hf hn]
  simp only [Option.bind_some]
  refine count_exit (fun i => rows h.Txns.length (rwF h (l.take i))) l.length _ (fuel_gt (by omega)) (fun i hi => ?_) ?_ ?_
  · obtain ⟨a, b, ea, eb, ha, hb, _⟩ := one_nat (hone _ (List.getElem_mem hi))
    simp only [G.inquestref18_Rw_b1, dec_lt, hi, decide_true, if_true, idx_at hi, Option.bind_some, r09_Readers hf hn]
    have hlen := readers_len (h := h) (key := (l[i]).Key) (frm := (l[i]).A)
    refine count_exit (fun k => rows h.Txns.length (fun x y => rwF h (l.take i) x y || (decide (y = b) && decide (x ≠ b) && ((readers h (l[i]).Key (l[i]).A).take k).any (fun t => decide (x = t))))) (readers h (l[i]).Key (l[i]).A).length _ (fuel_gt (by omega)) (fun k hk => ?_) ?_ ?_
    · have hk2 : k < ((readers h (l[i]).Key (l[i]).A).map fun t : Nat => (t : Int)).length := by simpa using hk
      have et : ((readers h (l[i]).Key (l[i]).A).map fun t : Nat => (t : Int))[k] = (((readers h (l[i]).Key (l[i]).A)[k] : Nat) : Int) := by simp
      obtain ⟨htn, _⟩ := readers_lt (List.getElem_mem hk)
      generalize hF : (fun x y => rwF h (l.take i) x y || (decide (y = b) && decide (x ≠ b) && ((readers h (l[i]).Key (l[i]).A).take k).any (fun t => decide (x = t)))) = F
      generalize ht : (readers h (l[i]).Key (l[i]).A)[k] = t at htn et
      simp only [G.inquestref18_Rw_b2, dec_lt, hk2, decide_true, if_true, idx_at hk2, idx_at hi, Option.bind_some, et, eb, rows_idx htn, r10_With, set_edge hn _ htn hb, G.inquestref18_Rw_j3, w64_succ (show k < 9223372036854775807 by omega), Sh.next]
      by_cases e : t = b
      · have e' : ¬ ((t : Int) ≠ (b : Int)) := by omega
        simp only [e', decide_false, Bool.false_eq_true, if_false]
        congr 3
        rw [rows_ext hn]
        intro x y _ _
        rw [← hF, take_any hk, ht]
        by_cases hx : x = t
        · subst hx; simp [e]
        · simp [hx]
      · have e' : ¬ ((t : Int) = (b : Int)) := by omega
        simp only [ne_eq, e', not_false_eq_true, decide_true, if_true]
        congr 3
        rw [rows_ext hn]
        intro x y _ _
        unfold addF
        rw [← hF, take_any hk, ht]
        by_cases hx : x = t
        · subst hx; by_cases hy : y = b <;> simp [e, hy]
        · simp [hx]
    · have hm : ((readers h (l[i]).Key (l[i]).A).map fun t : Nat => (t : Int)).length = (readers h (l[i]).Key (l[i]).A).length := by simp
      simp only [G.inquestref18_Rw_b2, len_eq, hm, dec_lt, Nat.lt_irrefl, decide_false, Bool.false_eq_true, if_false, G.inquestref18_Rw_j2, w64_succ (show i < 9223372036854775807 by omega), Sh.next]
      congr 4
      rw [rows_ext hn]
      intro x y hx hy
      rw [List.take_length]
      unfold rwF
      rw [take_any hi, Bool.or_assoc]
      congr 2
      unfold rwC
      rw [eb, Bool.eq_iff_iff]
      simp only [Bool.and_eq_true, decide_eq_true_eq, List.any_eq_true]
      constructor
      · rintro ⟨⟨h1, h2⟩, t, ht, rfl⟩
        exact ⟨⟨by omega, by omega⟩, (readers_lt ht).2⟩
      · rintro ⟨⟨h1, h2⟩, h3⟩
        refine ⟨⟨by omega, by omega⟩, x, ?_, rfl⟩
        unfold readers
        simp [hx, h3]
    · congr 2
      funext x y
      simp
  · simp only [G.inquestref18_Rw_b1, dec_lt, Nat.lt_irrefl, decide_false, Bool.false_eq_true, if_false, G.inquestref18_Rw_j1, List.take_length]
  · congr 2
    funext x y
    simp [rwF]

def dF (h : G.api_Hist) (l : List G.api_Choice) : Nat → Nat → Bool := orF (orF (soF h) (wrF h)) (wwF l)
def fullF (h : G.api_Hist) (lev : Int) (l : List G.api_Choice) : Nat → Nat → Bool :=
  orF (dF h l) (if lev = 1 then compF h.Txns.length (dF h l) (rwF h l) else rwF h l)
theorem r18_Full {h : G.api_Hist} (hf : Fits h) (hr : right h = true) (lev : Int) {l : List G.api_Choice} (hl : l.length < 9223372036854775807) (hone : ∀ c ∈ l, one h c = true) : G.inquestref18_Full h lev l = some (rg h.Txns.length (fullF h lev l)) := by
  have hn : h.Txns.length ≤ 64 := by
    simp only [right, Bool.and_eq_true, decide_eq_true_eq] at hr; omega
  unfold G.inquestref18_Full fullF
  rw [r17_Past hf hr hn, r18_Ww hn hl hone]
  simp only [Option.bind_some, r12_Union hn, r18_Rw hf hn hl hone]
  by_cases h1 : lev = 1
  · simp only [h1, decide_true, if_true, G.inquestref18_Full_j1, r12_Compose hn, Option.bind_some]
    rw [show orF (orF (soF h) (wrF h)) (wwF l) = dF h l from rfl, r12_Union hn]
    rfl
  · simp only [h1, decide_false, Bool.false_eq_true, if_false, G.inquestref18_Full_j1, Option.bind_some]
    rw [show orF (orF (soF h) (wrF h)) (wwF l) = dF h l from rfl, r12_Union hn]
    rfl
end Pl
end

section
/- What follows must be so: whoever chooses all pairs, and lets nothing lead back, chooses it too. -/
namespace Pl
open Go Go.Av

end Pl
end

section
/- All pairs, and all ways to choose them. -/

namespace Pl
open Go Go.Av

def writers (h : G.api_Hist) (key : Int) : List Int := if right h then ((List.range h.Txns.length).filter fun t : Nat => hasW (tx h t) key).map fun t : Nat => (t : Int) else []
theorem r09_Writers {h : G.api_Hist} (hf : Fits h) (hn : h.Txns.length ≤ 64) (key : Int) : G.inquestref09_Writers h key = some (writers h key) := by
  unfold G.inquestref09_Writers writers
  rw [rRight hf]
  simp only [Option.bind_some]
  cases hr : right h with
  | false =>
    refine run_exit (fun _ => ([], false, 0)) 0 _ (by decide) (fun k hk => by omega) ?_ rfl
    simp [G.inquestref09_Writers_b1, G.inquestref09_Writers_j2, G.inquestref09_Writers_j1]
  | true =>
    refine run_exit (fun k => ((((List.range k).filter fun t : Nat => hasW (tx h t) key).map fun t : Nat => (t : Int)), true, (k : Int))) h.Txns.length _ (fuel_gt (by omega)) (fun k hk => ?_) ?_ rfl
    · have hle : ((List.range k).filter fun t : Nat => hasW (tx h t) key).length ≤ k := by
        have := List.length_filter_le (fun t : Nat => hasW (tx h t) key) (List.range k); simpa using this
      simp only [G.inquestref09_Writers_b1, if_true, G.inquestref09_Writers_j2, dec_lt, hk, decide_true, idx_nat hk, Option.bind_some, rWrites (hf.writes _ (tx_in hk))]
      rw [List.range_succ, List.filter_append, List.map_append]
      cases hw : hasW (tx h k) key with
      | false => simp [G.inquestref09_Writers_j3, w64_succ (show k < 9223372036854775807 by omega), Sh.next, hw]
      | true =>
        simp only [if_true]
        rw [app_ok (by simp; omega)]
        simp [G.inquestref09_Writers_j3, w64_succ (show k < 9223372036854775807 by omega), Sh.next, hw]
    · simp [G.inquestref09_Writers_b1, G.inquestref09_Writers_j2, G.inquestref09_Writers_j1, Sh.len]
theorem writers_len {h : G.api_Hist} {key : Int} : (writers h key).length ≤ h.Txns.length := by
  unfold writers
  split
  · have := List.length_filter_le (fun t : Nat => hasW (tx h t) key) (List.range h.Txns.length); simpa using this
  · simp
theorem mem_writers {h : G.api_Hist} (hr : right h = true) {key x : Int} : x ∈ writers h key ↔ inr h x = true ∧ hasW (tx h x) key = true := by
  unfold writers
  rw [if_pos hr]
  simp only [List.mem_map, List.mem_filter, List.mem_range]
  constructor
  · rintro ⟨t, ⟨h1, h2⟩, rfl⟩; exact ⟨inr_nat.2 h1, h2⟩
  · rintro ⟨h1, h2⟩
    obtain ⟨a, b⟩ := inr_iff.1 h1
    refine ⟨x.toNat, ⟨by omega, ?_⟩, by omega⟩
    rw [show ((x.toNat : Nat) : Int) = x by omega]; exact h2
def pairsI (key : Int) (ws : List Int) (i : Nat) : List G.api_Choice := (ws.drop (i + 1)).map fun w => ⟨key, ws.getD i 0, w⟩
def pairsK (key : Int) (ws : List Int) : List G.api_Choice := (List.range ws.length).flatMap (pairsI key ws)
def pairs (h : G.api_Hist) : List G.api_Choice := (List.range 16).flatMap fun k : Nat => pairsK k (writers h k)
theorem flat_len {α : Type} (f : Nat → List α) (b : Nat) (hb : ∀ k, (f k).length ≤ b) : ∀ n, ((List.range n).flatMap f).length ≤ n * b := by
  intro n
  induction n with
  | zero => simp
  | succ n ih =>
    rw [List.range_succ, List.flatMap_append, List.length_append]
    have := hb n
    simp only [List.flatMap_cons, List.flatMap_nil, List.append_nil]
    rw [Nat.add_mul, Nat.one_mul]; omega
theorem pairsI_len (key : Int) (ws : List Int) (i : Nat) : (pairsI key ws i).length ≤ ws.length := by simp [pairsI]
theorem pairsK_len (key : Int) (ws : List Int) : (pairsK key ws).length ≤ ws.length * ws.length := flat_len _ _ (pairsI_len key ws) _
theorem flat_succ {α : Type} (f : Nat → List α) (k : Nat) : (List.range (k + 1)).flatMap f = (List.range k).flatMap f ++ f k := by
  rw [List.range_succ, List.flatMap_append]; simp
theorem r09_Pairs {h : G.api_Hist} (hf : Fits h) (hn : h.Txns.length ≤ 64) : G.inquestref09_Pairs h = some (pairs h) := by
  have hkk : ∀ k : Nat, (pairsK k (writers h k)).length ≤ 4096 := fun k => by
    have h1 := pairsK_len (k : Int) (writers h k)
    have h2 : (writers h (k : Int)).length ≤ 64 := Nat.le_trans writers_len hn
    exact Nat.le_trans h1 (Nat.mul_le_mul h2 h2)
  unfold G.inquestref09_Pairs pairs
  refine count_exit (fun k => (List.range k).flatMap fun k : Nat => pairsK k (writers h k)) 16 _ (by decide) (fun k hk => ?_) ?_ rfl
  · have hk2 : (k : Int) < 16 := by omega
    have hw2 : (writers h (k : Int)).length ≤ 64 := Nat.le_trans writers_len hn
    have hout := flat_len (fun k : Nat => pairsK k (writers h k)) 4096 hkk k
    have ho2 : k * 4096 ≤ 65536 := Nat.mul_le_mul (show k ≤ 16 by omega) (Nat.le_refl 4096)
    simp only [G.inquestref09_Pairs_b1, hk2, decide_true, if_true, r09_Writers hf hn, Option.bind_some]
    rw [flat_succ]
    generalize ((List.range k).flatMap fun k : Nat => pairsK k (writers h k)) = out at hout
    generalize writers h (k : Int) = ws at hw2
    refine count_exit (fun i => out ++ (List.range i).flatMap (pairsI k ws)) ws.length _ (fuel_gt (by omega)) (fun i hi => ?_) ?_ (by simp)
    · have ho3 := flat_len (pairsI (k : Int) ws) 64 (fun i => Nat.le_trans (pairsI_len _ _ _) hw2) i
      have ho4 : i * 64 ≤ 4096 := Nat.mul_le_mul (show i ≤ 64 by omega) (Nat.le_refl 64)
      simp only [G.inquestref09_Pairs_b2, dec_lt, hi, decide_true, if_true]
      rw [w64_succ (by omega), flat_succ, ← List.append_assoc]
      have ho5 : (out ++ (List.range i).flatMap (pairsI (k : Int) ws)).length ≤ 100000 := by simp only [List.length_append]; omega
      generalize out ++ (List.range i).flatMap (pairsI (k : Int) ws) = out2 at ho5
      refine run_exit (fun j => (out2 ++ ((ws.drop (i + 1)).take j).map fun w => ⟨(k : Int), ws.getD i 0, w⟩, ((i + 1 + j : Nat) : Int))) (ws.length - (i + 1)) _ (fuel_gt (by omega)) (fun j hj => ?_) ?_ (by simp)
      · have hb : i + 1 + j < ws.length := by omega
        have hd : ws.getD i 0 = ws[i] := by simp [List.getD, List.getElem?_eq_getElem hi]
        have hj2 : j < (ws.drop (i + 1)).length := by simp; omega
        simp only [G.inquestref09_Pairs_b3, dec_lt, hb, decide_true, if_true, idx_at hi, idx_at hb, Option.bind_some]
        rw [app_ok (by simp; omega)]
        simp only [Option.bind_some, w64_succ (show i + 1 + j < 9223372036854775807 by omega), Sh.next]
        rw [List.take_add_one, List.getElem?_eq_getElem hj2, Option.toList_some, List.map_append, List.append_assoc, List.getElem_drop, hd]
        rfl
      · rw [show i + 1 + (ws.length - (i + 1)) = ws.length by omega]
        simp only [G.inquestref09_Pairs_b3, dec_lt, Nat.lt_irrefl, decide_false, Bool.false_eq_true, if_false, G.inquestref09_Pairs_j3, w64_succ (show i < 9223372036854775807 by omega), Sh.next]
        rw [List.take_of_length_le (by simp)]
        rfl
    · simp only [G.inquestref09_Pairs_b2, dec_lt, Nat.lt_irrefl, decide_false, Bool.false_eq_true, if_false, G.inquestref09_Pairs_j2, w64_succ (show k < 9223372036854775807 by omega), Sh.next]
      rfl
  · simp [G.inquestref09_Pairs_b1, G.inquestref09_Pairs_j1]

theorem hasW_lt {h : G.api_Hist} (hr : right h = true) {t : G.api_Txn} (ht : t ∈ h.Txns) {k : Int} (hw : hasW t k = true) : 0 ≤ k ∧ k < 16 := by
  have key : ∀ (l : List G.api_Txn) (n : Nat), okAll h n l = true → ∀ t ∈ l, rising (-1) t.Writes = true := by
    intro l
    induction l with
    | nil => intro n _ t ht; cases ht
    | cons x l ih =>
      intro n hn t ht
      rw [show okAll h n (x :: l) = (okT h (n : Nat) x && okAll h (n + 1) l) from rfl, Bool.and_eq_true] at hn
      rcases List.mem_cons.1 ht with rfl | ht
      · have := hn.1
        simp only [okT, Bool.and_eq_true] at this
        exact this.1.1.1
      · exact ih _ hn.2 t ht
  have hri : rising (-1) t.Writes = true := by
    simp only [right, Bool.and_eq_true] at hr
    exact key _ 0 hr.2 t ht
  have bd : ∀ (l : List Int) (last : Int), rising last l = true → ∀ x ∈ l, last < x ∧ x < 16 := by
    intro l
    induction l with
    | nil => intro _ _ x hx; cases hx
    | cons y l ih =>
      intro last hl x hx
      rw [show rising last (y :: l) = (decide (last < y) && decide (y < 16) && rising y l) from rfl] at hl
      simp only [Bool.and_eq_true, decide_eq_true_eq] at hl
      rcases List.mem_cons.1 hx with rfl | hx
      · exact ⟨hl.1.1, hl.1.2⟩
      · have := ih _ hl.2 x hx; omega
  unfold hasW at hw
  simp only [List.any_eq_true, decide_eq_true_eq] at hw
  obtain ⟨x, hx, rfl⟩ := hw
  have := bd _ _ hri _ hx
  omega
inductive Sel : List G.api_Choice → List G.api_Choice → Prop
  | nil : Sel [] []
  | so {x : G.api_Choice} {r s : List G.api_Choice} : Sel r s → Sel (x :: r) (x :: s)
  | not {x : G.api_Choice} {r s : List G.api_Choice} : Sel r s → Sel (x :: r) (back x :: s)
theorem Sel.len {r s : List G.api_Choice} (h : Sel r s) : s.length = r.length := by induction h <;> simp_all
theorem Sel.mem {r s : List G.api_Choice} (h : Sel r s) : ∀ c ∈ r, c ∈ s ∨ back c ∈ s := by
  induction h with
  | nil => intro c hc; cases hc
  | so _ ih =>
    intro c hc
    rcases List.mem_cons.1 hc with rfl | hc
    · exact .inl (List.mem_cons_self ..)
    · exact (ih c hc).imp (List.mem_cons_of_mem _) (List.mem_cons_of_mem _)
  | not _ ih =>
    intro c hc
    rcases List.mem_cons.1 hc with rfl | hc
    · exact .inr (List.mem_cons_self ..)
    · exact (ih c hc).imp (List.mem_cons_of_mem _) (List.mem_cons_of_mem _)
theorem Sel.all {r s : List G.api_Choice} (h : Sel r s) {p : G.api_Choice → Prop} (h1 : ∀ c ∈ r, p c) (h2 : ∀ c, p c → p (back c)) : ∀ c ∈ s, p c := by
  induction h with
  | nil => intro c hc; cases hc
  | so _ ih =>
    intro c hc
    rcases List.mem_cons.1 hc with rfl | hc
    · exact h1 _ (List.mem_cons_self ..)
    · exact ih (fun c hc => h1 c (List.mem_cons_of_mem _ hc)) c hc
  | not _ ih =>
    intro c hc
    rcases List.mem_cons.1 hc with rfl | hc
    · exact h2 _ (h1 _ (List.mem_cons_self ..))
    · exact ih (fun c hc => h1 c (List.mem_cons_of_mem _ hc)) c hc
end Pl
end

section
/- What is left of sorted numbers when what comes twice is left out. -/
namespace Pl
open Go Go.Av

theorem asc_ext : ∀ {a b : List Int}, a.Pairwise (· < ·) → b.Pairwise (· < ·) → (∀ x, x ∈ a ↔ x ∈ b) → a = b
  | [], [], _, _, _ => rfl
  | [], y :: b, _, _, h => absurd ((h y).2 (List.mem_cons_self ..)) (by simp)
  | x :: a, [], _, _, h => absurd ((h x).1 (List.mem_cons_self ..)) (by simp)
  | x :: a, y :: b, ha, hb, h => by
    rw [List.pairwise_cons] at ha hb
    have hxy : x = y := by
      rcases List.mem_cons.1 ((h x).1 (List.mem_cons_self ..)) with e | e
      · exact e
      · rcases List.mem_cons.1 ((h y).2 (List.mem_cons_self ..)) with e2 | e2
        · exact e2.symm
        · have h1 := hb.1 x e
          have h2 := ha.1 y e2
          omega
    subst hxy
    have : a = b := asc_ext ha.2 hb.2 fun z => ⟨fun hz => by
      rcases List.mem_cons.1 ((h z).1 (List.mem_cons_of_mem _ hz)) with e | e
      · subst e; have := ha.1 z hz; omega
      · exact e, fun hz => by
      rcases List.mem_cons.1 ((h z).2 (List.mem_cons_of_mem _ hz)) with e | e
      · subst e; have := hb.1 z hz; omega
      · exact e⟩
    rw [this]

theorem compact_mem (l : List Int) (x : Int) : x ∈ Lib.compact l ↔ x ∈ l := by
  unfold Lib.compact Lib.compactUpTo
  simp only [List.mem_map, List.mem_filter, List.mem_range]
  constructor
  · rintro ⟨j, ⟨hj, _⟩, rfl⟩
    simp [hj]
  · intro hx
    obtain ⟨i, hi, hix⟩ := List.getElem_of_mem hx
    have hex : ∃ i, i < l.length ∧ l.toArray[i]! = x := ⟨i, hi, by simp [hi, hix]⟩
    obtain ⟨k, ⟨hk, hkx⟩, hmin⟩ := exists_least _ hex
    refine ⟨k, ⟨hk, ?_⟩, hkx⟩
    unfold Lib.keeps
    rw [decide_eq_true_eq]
    by_cases h0 : k = 0
    · exact .inl h0
    · refine .inr fun he => ?_
      have := hmin (k - 1) ⟨by omega, by rw [← he]; exact hkx⟩
      omega
theorem compact_sorted (l : List Int) (hs : l.Pairwise (· ≤ ·)) : (Lib.compact l).Pairwise (· < ·) := by
  unfold Lib.compact Lib.compactUpTo
  rw [List.pairwise_map]
  refine List.Pairwise.imp_of_mem (R := fun a b : Nat => a < b) (fun {a b} ha hb hab => ?_) (List.Pairwise.filter _ List.pairwise_lt_range)
  simp only [List.mem_filter, List.mem_range] at ha hb
  have hk := hb.2
  unfold Lib.keeps at hk
  rw [decide_eq_true_eq] at hk
  have hk2 := hk.resolve_left (by omega)
  have e1 : l.toArray[a]! = l[a] := by simp [ha.1]
  have e2 : l.toArray[b]! = l[b] := by simp [hb.1]
  have e3 : l.toArray[b - 1]! = l[b - 1]'(by omega) := by simp [show b - 1 < l.length by omega]
  rw [e2, e3] at hk2
  rw [e1, e2]
  have le : ∀ i j (hi : i < l.length) (hj : j < l.length), i ≤ j → l[i] ≤ l[j] := fun i j hi hj hij => by
    rcases Nat.lt_or_ge i j with h | h
    · exact List.pairwise_iff_getElem.1 hs i j hi hj h
    · have : i = j := by omega
      subst this; exact Int.le_refl _
  have h1 := le a (b - 1) (by omega) (by omega) (by omega)
  have h2 := le (b - 1) b (by omega) hb.1 (by omega)
  omega
theorem sort_compact (l r : List Int) (hr : r.Pairwise (· < ·)) (hm : ∀ x, x ∈ r ↔ x ∈ l) : Lib.compact (l.mergeSort fun x y => decide (x ≤ y)) = r := by
  refine asc_ext (compact_sorted _ ?_) hr fun x => ?_
  · have h := List.pairwise_mergeSort (le := fun x y : Int => decide (x ≤ y)) (fun a b c h1 h2 => by simp at h1 h2 ⊢; omega) (fun a b => by simp; omega) l
    exact h.imp fun {a b} hab => by simpa using hab
  · rw [compact_mem, List.mem_mergeSort, hm]
theorem sort_ok {l : List Int} (h : l.length < 4611686018427387904) : Sh.sort l = some (l.mergeSort fun x y => decide (x ≤ y)) := by rw [← Sh.isort_eq]; exact if_pos h
theorem compact_ok {l : List Int} (h : l.length < 4611686018427387904) : Sh.compact l = some (Lib.compact l) := if_pos h
end Pl
end

section
/- Who writes, and who reads, each key: what the program answers. -/
namespace Pl
open Go Go.Av

theorem right_le {h : G.api_Hist} (hr : right h = true) : h.Txns.length ≤ 32 := by
  simp only [right, Bool.and_eq_true, decide_eq_true_eq] at hr; exact hr.1
theorem right_txn {h : G.api_Hist} (hr : right h = true) {t : G.api_Txn} (ht : t ∈ h.Txns) : ∃ n : Int, okT h n t = true := by
  simp only [right, Bool.and_eq_true] at hr
  have key : ∀ (l : List G.api_Txn) (n : Nat), okAll h n l = true → ∀ t ∈ l, ∃ n : Int, okT h n t = true := by
    intro l
    induction l with
    | nil => intro n _ t ht; cases ht
    | cons x l ih =>
      intro n hn t ht
      rw [show okAll h n (x :: l) = (okT h (n : Nat) x && okAll h (n + 1) l) from rfl, Bool.and_eq_true] at hn
      rcases List.mem_cons.1 ht with rfl | ht
      · exact ⟨_, hn.1⟩
      · exact ih _ hn.2 t ht
  exact key _ 0 hr.2 t ht
theorem rising_len : ∀ {l : List Int} {last : Int}, rising last l = true → last ≤ 15 → (l.length : Int) ≤ 15 - last
  | [], last, _, h => by simp; omega
  | x :: l, last, hr, h => by
    rw [show rising last (x :: l) = (decide (last < x) && decide (x < 16) && rising x l) from rfl] at hr
    simp only [Bool.and_eq_true, decide_eq_true_eq] at hr
    have := rising_len hr.2 (by omega)
    simp only [List.length_cons]; omega
theorem rising_mem : ∀ {l : List Int} {last : Int}, rising last l = true → ∀ x ∈ l, last < x ∧ x < 16
  | [], _, _, x, hx => by cases hx
  | y :: l, last, hr, x, hx => by
    rw [show rising last (y :: l) = (decide (last < y) && decide (y < 16) && rising y l) from rfl] at hr
    simp only [Bool.and_eq_true, decide_eq_true_eq] at hr
    rcases List.mem_cons.1 hx with rfl | hx
    · exact hr.1
    · have := rising_mem hr.2 x hx; omega
theorem takes_len {h : G.api_Hist} {n : Int} : ∀ {l : List G.api_Take} {last : Int}, takes h n last l = true → last ≤ 15 → (l.length : Int) ≤ 15 - last
  | [], last, _, h => by simp; omega
  | x :: l, last, hr, h2 => by
    rw [show takes h n last (x :: l) = (decide (last < x.Key) && decide (x.Key < 16) && there h n x && takes h n x.Key l) from rfl] at hr
    simp only [Bool.and_eq_true, decide_eq_true_eq] at hr
    have := takes_len hr.2 (by omega)
    simp only [List.length_cons]; omega
theorem right_writes {h : G.api_Hist} (hr : right h = true) {t : G.api_Txn} (ht : t ∈ h.Txns) : rising (-1) t.Writes = true ∧ t.Writes.length ≤ 16 := by
  obtain ⟨n, hn⟩ := right_txn hr ht
  simp only [okT, Bool.and_eq_true] at hn
  have := rising_len hn.1.1.1 (by omega)
  exact ⟨hn.1.1.1, by omega⟩
theorem right_takes {h : G.api_Hist} (hr : right h = true) {t : G.api_Txn} (ht : t ∈ h.Txns) : ∃ n : Int, takes h n (-1) t.Reads = true ∧ t.Reads.length ≤ 16 := by
  obtain ⟨n, hn⟩ := right_txn hr ht
  simp only [okT, Bool.and_eq_true] at hn
  have := takes_len hn.1.1.2 (by omega)
  exact ⟨n, hn.1.1.2, by omega⟩

theorem pWriters {h : G.api_Hist} (hf : Fits h) (key : Int) : G.index_Writers h key = some (writers h key) := by
  unfold G.index_Writers writers
  rw [pRight hf]
  simp only [Option.bind_some]
  cases hr : right h with
  | false => rfl
  | true =>
    have hn := right_le hr
    simp only [Bool.not_true, Bool.false_eq_true, if_false, if_true]
    refine count_exit (fun k => ((List.range k).filter fun t : Nat => hasW (tx h t) key).map fun t : Nat => (t : Int)) h.Txns.length _ (fuel_gt (by omega)) (fun k hk => ?_) ?_ rfl
    · have hle : ((List.range k).filter fun t : Nat => hasW (tx h t) key).length ≤ k := by
        have := List.length_filter_le (fun t : Nat => hasW (tx h t) key) (List.range k); simpa using this
      have hw := hf.writes _ (tx_in hk)
      simp only [G.index_Writers_b1, dec_lt, hk, decide_true, if_true, idx_nat hk, Option.bind_some]
      rw [pHas (by omega), List.range_succ, List.filter_append, List.map_append]
      simp only [Option.bind_some]
      have e : (tx h (k : Int)).Writes.any (fun x => decide (key = x)) = hasW (tx h (k : Int)) key := rfl
      rw [e]
      cases hw : hasW (tx h k) key with
      | false => simp [G.index_Writers_j2, w64_succ (show k < 9223372036854775807 by omega), Sh.next, hw]
      | true =>
        simp only [if_true]
        rw [app_ok (by simp; omega)]
        simp [G.index_Writers_j2, w64_succ (show k < 9223372036854775807 by omega), Sh.next, hw]
    · simp [G.index_Writers_b1, G.index_Writers_j1, Sh.len]

def readersI (h : G.api_Hist) (key frm : Int) : List Int := if right h then (readers h key frm).map fun t : Nat => (t : Int) else []
theorem takes_filter {h : G.api_Hist} {n : Int} (key frm : Int) : ∀ {l : List G.api_Take} {last : Int}, takes h n last l = true →
    l.filter (fun r => decide (r.Key = key) && decide (r.From = frm)) = if l.any (fun r => decide (G.api_Take.mk key frm = r)) then [⟨key, frm⟩] else []
  | [], _, _ => by simp
  | x :: l, last, hr => by
    rw [show takes h n last (x :: l) = (decide (last < x.Key) && decide (x.Key < 16) && there h n x && takes h n x.Key l) from rfl] at hr
    simp only [Bool.and_eq_true, decide_eq_true_eq] at hr
    have ih := takes_filter key frm hr.2
    rw [List.filter_cons, List.any_cons]
    by_cases hx : G.api_Take.mk key frm = x
    · subst hx
      have hnone : l.filter (fun r => decide (r.Key = key) && decide (r.From = frm)) = [] := by
        rw [List.filter_eq_nil_iff]
        intro r hrm
        have := takes_gt hr.2 r hrm
        simp only [Bool.and_eq_true, decide_eq_true_eq, not_and]
        intro h1
        exact absurd h1 (by simp at this; omega)
      rw [hnone]; simp
    · have hq : (decide (x.Key = key) && decide (x.From = frm)) = false := by
        rw [Bool.and_eq_false_iff, decide_eq_false_iff_not, decide_eq_false_iff_not]
        apply Classical.byContradiction
        intro hno
        simp only [not_or, Classical.not_not] at hno
        apply hx
        rw [← hno.1, ← hno.2]
      rw [hq, ih, decide_eq_false hx]; simp
theorem pReaders_inner {h : G.api_Hist} (hf : Fits h) (key frm : Int) {t : Nat} (ht : t < h.Txns.length) (c : List Int) (hc : c.length ≤ 1000) (hl : (tx h t).Reads.length ≤ 16) :
    Sh.loop (fun (p : (List Int) × Int) => G.index_reads_1__index_Readers__r_b2 key frm t (tx h t) p.1 p.2) (c, 0) = some (.inl (c ++ ((tx h t).Reads.filter (fun r => decide (r.Key = key) && decide (r.From = frm))).map (fun _ => (t : Int)), ((t + 1 : Nat) : Int))) := by
  refine count_exit (fun i => c ++ (((tx h t).Reads.take i).filter (fun r => decide (r.Key = key) && decide (r.From = frm))).map (fun _ => (t : Int))) (tx h t).Reads.length _ (fuel_gt (by omega)) (fun i hi => ?_) ?_ (by simp)
  · have hle : (((tx h t).Reads.take i).filter (fun r => decide (r.Key = key) && decide (r.From = frm))).length ≤ i := by
      have := List.length_filter_le (fun r : G.api_Take => decide (r.Key = key) && decide (r.From = frm)) ((tx h t).Reads.take i); simp at this; omega
    simp only [G.index_reads_1__index_Readers__r_b2, dec_lt, hi, decide_true, if_true, idx_at hi, Option.bind_some, G.index_Readers__r, G.index_Readers__r_j1, w64_succ (show i < 9223372036854775807 by omega)]
    rw [List.take_add_one, List.getElem?_eq_getElem hi, Option.toList_some, List.filter_append, List.map_append, ← List.append_assoc]
    by_cases h1 : ((tx h t).Reads[i]).Key = key
    · by_cases h2 : ((tx h t).Reads[i]).From = frm
      · simp only [h1, h2, decide_true, if_true]
        rw [app_ok (by simp; omega)]
        simp [h1, h2, Sh.next]
      · simp [h1, h2, Sh.next]
    · simp [h1, Sh.next]
  · simp [G.index_reads_1__index_Readers__r_b2, G.index_reads_1__index_Readers__r_j1, w64_succ (show t < 9223372036854775807 by have := hf.txns; omega), Sh.next]
theorem pReaders {h : G.api_Hist} (hf : Fits h) (key frm : Int) : G.index_Readers h key frm = some (readersI h key frm) := by
  unfold G.index_Readers G.index_reads G.index_reads_1__index_Readers__r readersI
  simp only [Option.bind_some]
  rw [pRight hf]
  simp only [Option.bind_some]
  cases hr : right h with
  | false => rfl
  | true =>
    have hn := right_le hr
    simp only [Bool.not_true, Bool.false_eq_true, if_false, if_true]
    have e : Sh.loop (fun (p : (List Int) × Int) => G.index_reads_1__index_Readers__r_b1 key frm h p.1 p.2) ([], 0) = some ((readers h key frm).map fun t : Nat => (t : Int)) := by
      refine count_exit (fun k => ((List.range k).filter fun t : Nat => decide (fromR h t key = some frm)).map fun t : Nat => (t : Int)) h.Txns.length _ (fuel_gt (by omega)) (fun k hk => ?_) ?_ rfl
      · have hle : ((List.range k).filter fun t : Nat => decide (fromR h t key = some frm)).length ≤ k := by
          have := List.length_filter_le (fun t : Nat => decide (fromR h t key = some frm)) (List.range k); simpa using this
        obtain ⟨n, htk, hlen⟩ := right_takes hr (tx_in hk)
        simp only [G.index_reads_1__index_Readers__r_b1, dec_lt, hk, decide_true, if_true, idx_nat hk, Option.bind_some]
        rw [pReaders_inner hf key frm hk _ (by simp; omega) hlen, takes_filter key frm htk, List.range_succ, List.filter_append, List.map_append]
        congr 4
        have hiff := fromR_iff (t := (k : Int)) (key := key) (v := frm) hr (inr_nat.2 hk)
        cases hq : (tx h (k : Int)).Reads.any (fun r => decide (G.api_Take.mk key frm = r)) with
        | true => rw [hq] at hiff; simp [hiff.2 rfl]
        | false =>
          rw [hq] at hiff
          have : ¬ fromR h (k : Int) key = some frm := fun h1 => by have := hiff.1 h1; cases this
          simp [this]
      · simp only [G.index_reads_1__index_Readers__r_b1, dec_lt, Nat.lt_irrefl, decide_false, Bool.false_eq_true, if_false]; rfl
    rw [e]; rfl

def keysN (h : G.api_Hist) : List Nat := (List.range 16).filter fun k : Nat => h.Txns.any fun t => hasW t k
def keys (h : G.api_Hist) : List Int := if right h then (keysN h).map fun k : Nat => (k : Int) else []
theorem flatMap_take_len {α β : Type} (f : α → List β) (b : Nat) : ∀ (l : List α), (∀ x ∈ l, (f x).length ≤ b) → (l.flatMap f).length ≤ l.length * b
  | [], _ => by simp
  | x :: l, h => by
    have h1 := h x (List.mem_cons_self ..)
    have h2 := flatMap_take_len f b l fun y hy => h y (List.mem_cons_of_mem _ hy)
    simp only [List.flatMap_cons, List.length_append, List.length_cons, Nat.add_mul, Nat.one_mul]
    omega
theorem pKeys {h : G.api_Hist} (hf : Fits h) : G.index_Keys h = some (keys h) := by
  unfold G.index_Keys keys
  rw [pRight hf]
  simp only [Option.bind_some]
  cases hr : right h with
  | false => rfl
  | true =>
    have hn := right_le hr
    simp only [Bool.not_true, Bool.false_eq_true, if_false, if_true]
    have hwl : ∀ t ∈ h.Txns, t.Writes.length ≤ 16 := fun t ht => (right_writes hr ht).2
    refine count_exit (fun k => (h.Txns.take k).flatMap (·.Writes)) h.Txns.length _ (fuel_gt (by omega)) (fun k hk => ?_) ?_ rfl
    · have hle := flatMap_take_len (fun t : G.api_Txn => t.Writes) 16 (h.Txns.take k) fun t ht => hwl t (List.mem_of_mem_take ht)
      have hle2 := hwl _ (List.getElem_mem hk)
      have hl3 : (h.Txns.take k).length ≤ 32 := by simp; omega
      have hle3 : (h.Txns.take k).length * 16 ≤ 32 * 16 := Nat.mul_le_mul_right _ hl3
      simp only [G.index_Keys_b1, dec_lt, hk, decide_true, if_true, idx_at hk, Option.bind_some]
      rw [app_ok (by omega)]
      simp only [Option.bind_some, w64_succ (show k < 9223372036854775807 by omega), Sh.next]
      rw [List.take_add_one, List.getElem?_eq_getElem hk, Option.toList_some, List.flatMap_append]
      simp
    · simp only [G.index_Keys_b1, dec_lt, Nat.lt_irrefl, decide_false, Bool.false_eq_true, if_false, G.index_Keys_j1, List.take_length]
      have hle := flatMap_take_len (fun t : G.api_Txn => t.Writes) 16 h.Txns hwl
      have hle3 : h.Txns.length * 16 ≤ 32 * 16 := Nat.mul_le_mul_right _ hn
      rw [sort_ok (by omega)]
      simp only [Option.bind_some]
      rw [compact_ok (by simp only [List.length_mergeSort]; omega)]
      simp only [Option.bind_some]
      rw [sort_compact _ ((keysN h).map fun k : Nat => (k : Int)) ?_ ?_]
      · rw [List.pairwise_map]
        exact List.Pairwise.imp (R := fun a b : Nat => a < b) (fun {a b} hab => by omega) (List.Pairwise.filter _ List.pairwise_lt_range)
      · intro x
        simp only [List.mem_map, keysN, List.mem_filter, List.mem_range, List.any_eq_true, List.mem_flatMap]
        constructor
        · rintro ⟨k, ⟨h1, t, ht, hw⟩, rfl⟩
          refine ⟨t, ht, ?_⟩
          simp only [hasW, List.any_eq_true, decide_eq_true_eq] at hw
          obtain ⟨y, hy, rfl⟩ := hw; exact hy
        · rintro ⟨t, ht, hx⟩
          have := rising_mem (right_writes hr ht).1 x hx
          refine ⟨x.toNat, ⟨by omega, t, ht, ?_⟩, by omega⟩
          simp only [hasW, List.any_eq_true, decide_eq_true_eq]
          exact ⟨x, hx, by omega⟩

theorem writers_none {h : G.api_Hist} (hr : right h = true) {k : Nat} (hk : (h.Txns.any fun t => hasW t k) = false) : writers h (k : Int) = [] := by
  rw [List.eq_nil_iff_forall_not_mem]
  intro x hx
  obtain ⟨h1, h2⟩ := (mem_writers hr).1 hx
  rw [List.any_eq_false] at hk
  exact hk _ (tx_mem h1) h2
theorem flatMap_filter_nil {α : Type} (f : Nat → List α) (p : Nat → Bool) (l : List Nat) (h : ∀ k ∈ l, p k = false → f k = []) : (l.filter p).flatMap f = l.flatMap f := by
  induction l with
  | nil => rfl
  | cons x l ih =>
    rw [List.filter_cons]
    have h2 := ih fun k hk => h k (List.mem_cons_of_mem _ hk)
    cases hp : p x with
    | true => simp [h2]
    | false => simp [h2, h x (List.mem_cons_self ..) hp]
theorem pairs_keys {h : G.api_Hist} (hr : right h = true) : (keysN h).flatMap (fun k : Nat => pairsK k (writers h k)) = pairs h := by
  unfold keysN pairs
  refine flatMap_filter_nil _ _ _ fun k _ hk => ?_
  rw [writers_none hr hk]; rfl
theorem pPairs_inner (k : Int) (ws : List Int) (hw : ws.length ≤ 64) {i : Nat} (hi : i < ws.length) (acc : List G.api_Choice) (hacc : acc.length ≤ 100000) :
    Sh.loop (fun (p : (List G.api_Choice) × Int) => G.index_Pairs_b3 k i ws[i] (ws.drop (i + 1)) p.1 p.2) (acc, 0) = some (.inl (acc ++ pairsI k ws i, ((i + 1 : Nat) : Int))) := by
  have hg : ws.getD i 0 = ws[i] := by simp [List.getD, hi]
  refine count_exit (fun j => acc ++ ((ws.drop (i + 1)).take j).map fun w => (⟨k, ws[i], w⟩ : G.api_Choice)) (ws.drop (i + 1)).length _ (fuel_gt (by simp; omega)) (fun j hj => ?_) ?_ (by simp)
  · have hj2 : j < ws.length := by simp at hj; omega
    simp only [G.index_Pairs_b3, dec_lt, hj, decide_true, if_true, idx_at hj, Option.bind_some]
    rw [app_ok (by simp; omega)]
    simp only [Option.bind_some, w64_succ (show j < 9223372036854775807 by omega), Sh.next]
    rw [List.take_add_one, List.getElem?_eq_getElem hj, Option.toList_some, List.map_append]
    simp
  · simp only [G.index_Pairs_b3, dec_lt, Nat.lt_irrefl, decide_false, Bool.false_eq_true, if_false, G.index_Pairs_j3, w64_succ (show i < 9223372036854775807 by omega), Sh.next, List.take_length]
    unfold pairsI
    rw [hg]
theorem pPairs_mid (k : Int) (ws : List Int) (hw : ws.length ≤ 64) (v : Nat) (hv : v < 64) (acc : List G.api_Choice) (hacc : acc.length ≤ 80000) :
    Sh.loop (fun (p : (List G.api_Choice) × Int) => G.index_Pairs_b2 v k ws p.1 p.2) (acc, 0) = some (.inl (acc ++ pairsK k ws, ((v + 1 : Nat) : Int))) := by
  refine count_exit (fun i => acc ++ (List.range i).flatMap (pairsI k ws)) ws.length _ (fuel_gt (by omega)) (fun i hi => ?_) ?_ (by simp)
  · have hl := flat_len (pairsI k ws) ws.length (pairsI_len k ws) i
    have hl2 : i * ws.length ≤ 64 * 64 := Nat.mul_le_mul (by omega) hw
    simp only [G.index_Pairs_b2, dec_lt, hi, decide_true, if_true, idx_at hi, Option.bind_some, w64_succ (show i < 9223372036854775807 by omega)]
    rw [show (Sh.len ws) = ((ws.length : Nat) : Int) from rfl, sub_ok (by omega) (Nat.le_refl _)]
    simp only [Option.bind_some]
    have e : (ws.drop (i + 1)).take (ws.length - (i + 1)) = ws.drop (i + 1) := List.take_of_length_le (by simp)
    rw [e, pPairs_inner k ws hw hi _ (by simp only [List.length_append]; omega), flat_succ, List.append_assoc]
  · simp only [G.index_Pairs_b2, dec_lt, Nat.lt_irrefl, decide_false, Bool.false_eq_true, if_false, G.index_Pairs_j2, w64_succ (show v < 9223372036854775807 by omega), Sh.next]
    rfl
theorem pairs_len {h : G.api_Hist} : (pairs h).length ≤ 16 * (h.Txns.length * h.Txns.length) :=
  flat_len _ _ (fun _ => Nat.le_trans (pairsK_len _ _) (Nat.mul_le_mul writers_len writers_len)) 16
theorem pairs_no {h : G.api_Hist} (hr : right h = false) : pairs h = [] := by
  unfold pairs
  rw [List.flatMap_eq_nil_iff]
  intro k _
  have : writers h (k : Int) = [] := by unfold writers; rw [if_neg (by rw [hr]; simp)]
  rw [this]; rfl
theorem pPairs {h : G.api_Hist} (hf : Fits h) : G.index_Pairs h = some (pairs h) := by
  unfold G.index_Pairs
  rw [pKeys hf]
  simp only [Option.bind_some]
  cases hr : right h with
  | false =>
    have e : keys h = [] := by unfold keys; rw [if_neg (by rw [hr]; simp)]
    rw [e, pairs_no hr]
    refine count_exit (fun _ => []) 0 _ (by decide) (fun k hk => by omega) ?_ rfl
    simp [G.index_Pairs_b1, G.index_Pairs_j1]
  | true =>
    have hn := right_le hr
    have e : keys h = (keysN h).map fun k : Nat => (k : Int) := by unfold keys; rw [if_pos hr]
    have hkl : (keysN h).length ≤ 16 := by
      have := List.length_filter_le (fun k : Nat => h.Txns.any fun t => hasW t k) (List.range 16); simpa [keysN] using this
    rw [e]
    refine count_exit (fun i => ((keysN h).take i).flatMap fun k : Nat => pairsK k (writers h k)) (keysN h).length _ (fuel_gt (by omega)) (fun i hi => ?_) ?_ rfl
    · have hi2 : i < ((keysN h).map fun k : Nat => (k : Int)).length := by simpa using hi
      have hwl : ∀ k : Nat, (pairsK (k : Int) (writers h k)).length ≤ 1024 := fun _ => Nat.le_trans (pairsK_len _ _) (Nat.mul_le_mul (Nat.le_trans writers_len hn) (Nat.le_trans writers_len hn))
      have hacc := flatMap_take_len (fun k : Nat => pairsK k (writers h k)) 1024 ((keysN h).take i) fun k _ => hwl k
      have h3 : ((keysN h).take i).length ≤ 16 := by simp; omega
      have h4 : ((keysN h).take i).length * 1024 ≤ 16 * 1024 := Nat.mul_le_mul_right _ h3
      simp only [G.index_Pairs_b1, Sh.len, List.length_map, dec_lt, hi, decide_true, if_true, idx_at hi2, Option.bind_some, List.getElem_map, pWriters hf]
      rw [pPairs_mid _ _ (Nat.le_trans writers_len (by omega)) i (by omega) _ (by omega), List.take_add_one, List.getElem?_eq_getElem hi, Option.toList_some, List.flatMap_append]
      simp
    · simp only [G.index_Pairs_b1, Sh.len, List.length_map, dec_lt, Nat.lt_irrefl, decide_false, Bool.false_eq_true, if_false, G.index_Pairs_j1, List.take_length, pairs_keys hr]
end Pl
end

section
/- What is known of a history's order, and what follows from choices: the graphs that the program makes. -/
namespace Pl
open Go Go.Av

theorem gr_ext {n : Nat} (hn : n ≤ 64) {f g : Nat → Nat → Bool} (h : ∀ x y, x < n → y < n → f x y = g x y) : gr n f = gr n g := by
  have := (rows_ext hn (f := f) (h := g)).2 h
  unfold gr
  rw [this]
def addL (f : Nat → Nat → Bool) (l : List (Nat × Nat)) : Nat → Nat → Bool := fun x y => f x y || l.any fun e => decide (e.1 ≠ e.2) && decide (e.1 = x) && decide (e.2 = y)
theorem addL_nil (f : Nat → Nat → Bool) : addL f [] = f := by funext x y; simp [addL]
theorem addL_snoc {n : Nat} (hn : n ≤ 64) (f : Nat → Nat → Bool) (l : List (Nat × Nat)) {a b : Nat} (hab : a ≠ b) : gr n (addF (addL f l) a b) = gr n (addL f (l ++ [(a, b)])) := by
  refine gr_ext hn fun x y _ _ => ?_
  unfold addF addL
  rw [List.any_append, List.any_cons, List.any_nil, Bool.or_false, Bool.or_assoc]
  congr 2
  rw [Bool.eq_iff_iff]
  simp only [decide_eq_true_eq, Bool.and_eq_true]
  constructor
  · rintro ⟨rfl, rfl⟩; exact ⟨⟨hab, rfl⟩, rfl⟩
  · rintro ⟨⟨_, h1⟩, h2⟩; exact ⟨h1.symm, h2.symm⟩
theorem addL_same {n : Nat} (hn : n ≤ 64) (f : Nat → Nat → Bool) (l : List (Nat × Nat)) (a : Nat) : gr n (addL f l) = gr n (addL f (l ++ [(a, a)])) := by
  refine gr_ext hn fun x y _ _ => ?_
  unfold addL
  rw [List.any_append]; simp
theorem pLaid {n : Nat} (hn : n ≤ 64) (f : Nat → Nat → Bool) (l : List (Nat × Nat)) {a b : Nat} (ha : a < n) (hb : b < n) : G.known_laid_1__2 a b (gr n (addL f l)) = some (gr n (addL f (l ++ [(a, b)]))) := by
  unfold G.known_laid_1__2 G.known_laid_1__2_j1
  have h0 : (0 : Int) ≤ (a : Int) := by omega
  simp only [h0, decide_true, if_true]
  by_cases hab : a = b
  · subst hab
    simp only [ne_eq, not_true_eq_false, decide_false, Bool.false_eq_true, if_false]
    rw [← addL_same hn]
  · have h1 : ((a : Int) ≠ (b : Int)) := by omega
    simp only [h1, ne_eq, not_false_eq_true, decide_true, if_true, graph_Add hn _ ha hb, Option.bind_some]
    rw [addL_snoc hn f l hab]
theorem pLaid_neg {a b : Int} (g : G.graph_Graph) (h : a < 0) : G.known_laid_1__2 a b g = some g := by
  unfold G.known_laid_1__2 G.known_laid_1__2_j1
  have h0 : ¬ (0 : Int) ≤ a := by omega
  simp [h0]
def no0 : Nat → Nat → Bool := fun _ _ => false
theorem gr_zero (n : Nat) : (⟨(n : Int), List.replicate n 0#64⟩ : G.graph_Graph) = gr n (addL no0 []) := by
  rw [addL_nil, zero_rows]; rfl
def g0 : G.graph_Graph := ⟨0, []⟩

def soL (h : G.api_Hist) (t : Nat) : List (Nat × Nat) := ((List.range t).filter fun j : Nat => decide ((tx h j).Session = (tx h t).Session)).map fun j => (j, t)
theorem take_idx {h : G.api_Hist} {t j : Nat} (ht : t < h.Txns.length) (hj : j < t) : Sh.idx (h.Txns.take t) (j : Int) = some (tx h j) := by
  have h1 : j < (h.Txns.take t).length := by simp; omega
  rw [idx_at h1]
  have h2 := idx_nat (h := h) (x := j) (by omega)
  rw [idx_at (show j < h.Txns.length by omega)] at h2
  rw [← h2]; simp
theorem pSo_loop {h : G.api_Hist} (hn : h.Txns.length ≤ 32) : G.known_So_1__known_laid_1_2 h (gr h.Txns.length (addL no0 [])) = some (gr h.Txns.length (addL no0 ((List.range h.Txns.length).flatMap (soL h)))) := by
  unfold G.known_So_1__known_laid_1_2
  refine count_exit (fun k => gr h.Txns.length (addL no0 ((List.range k).flatMap (soL h)))) h.Txns.length _ (fuel_gt (by omega)) (fun t ht => ?_) ?_ rfl
  · simp only [G.known_So_1__known_laid_1_2_b1, dec_lt, ht, decide_true, if_true, idx_nat ht, Option.bind_some]
    rw [show Sh.sub h.Txns 0 (t : Int) = some (h.Txns.take t) by have := sub_ok (l := h.Txns) (m := 0) (k := t) (by omega) (by omega); simpa using this]
    simp only [Option.bind_some]
    refine count_exit (fun i => gr h.Txns.length (addL no0 ((List.range t).flatMap (soL h) ++ (((List.range i).filter fun j : Nat => decide ((tx h j).Session = (tx h t).Session)).map fun j => (j, t))))) t _ (fuel_gt (by omega)) (fun j hj => ?_) ?_ (by simp)
    · have hl : (Sh.len (h.Txns.take t)) = ((t : Nat) : Int) := by simp [Sh.len]; omega
      simp only [G.known_So_1__known_laid_1_2_b2, hl, dec_lt, hj, decide_true, if_true, take_idx ht hj, Option.bind_some, G.known_So_1__known_laid_1_2_j2, w64_succ (show j < 9223372036854775807 by omega), Sh.next]
      rw [List.range_succ, List.filter_append, List.map_append, ← List.append_assoc]
      by_cases hs : (tx h j).Session = (tx h t).Session
      · simp only [hs, decide_true, if_true, pLaid (show h.Txns.length ≤ 64 by omega) _ _ (show j < h.Txns.length by omega) ht, Option.bind_some]
        simp [hs]
      · simp [hs]
    · have hl : (Sh.len (h.Txns.take t)) = ((t : Nat) : Int) := by simp [Sh.len]; omega
      simp only [G.known_So_1__known_laid_1_2_b2, hl, dec_lt, Nat.lt_irrefl, decide_false, Bool.false_eq_true, if_false, G.known_So_1__known_laid_1_2_j1, w64_succ (show t < 9223372036854775807 by omega), Sh.next, flat_succ]
      rfl
  · simp only [G.known_So_1__known_laid_1_2_b1, dec_lt, Nat.lt_irrefl, decide_false, Bool.false_eq_true, if_false]
theorem so_eq {h : G.api_Hist} (hn : h.Txns.length ≤ 64) : gr h.Txns.length (addL no0 ((List.range h.Txns.length).flatMap (soL h))) = gr h.Txns.length (soF h) := by
  refine gr_ext hn fun x y hx hy => ?_
  unfold addL soF soL no0
  rw [Bool.false_or, Bool.eq_iff_iff]
  simp only [List.any_eq_true, List.mem_flatMap, List.mem_range, List.mem_map, List.mem_filter, decide_eq_true_eq, Bool.and_eq_true]
  constructor
  · rintro ⟨e, ⟨t, ht, j, ⟨hj, hs⟩, rfl⟩, ⟨h1, h2⟩, h3⟩
    simp only at h1 h2 h3
    subst h2 h3
    exact ⟨hj, hs⟩
  · rintro ⟨h1, h2⟩
    exact ⟨(x, y), ⟨y, hy, x, ⟨h1, h2⟩, rfl⟩, ⟨by simp; omega, rfl⟩, rfl⟩
def soG (h : G.api_Hist) : G.graph_Graph := if right h then gr h.Txns.length (soF h) else g0
theorem pSo {h : G.api_Hist} (hf : Fits h) : G.known_So h = some (soG h) := by
  unfold G.known_So G.known_laid__known_So_1 soG
  rw [pRight hf]
  simp only [Option.bind_some]
  cases hr : right h with
  | false => rfl
  | true =>
    have hn := right_le hr
    simp only [Bool.not_true, Bool.false_eq_true, if_false, if_true]
    rw [show (Sh.len h.Txns) = ((h.Txns.length : Nat) : Int) from rfl, graph_New _ (by omega)]
    simp only [Option.bind_some]
    rw [gr_zero, pSo_loop hn]
    simp only [Option.bind_some]
    rw [so_eq (by omega)]

theorem right_okT {h : G.api_Hist} (hr : right h = true) {t : Nat} (ht : t < h.Txns.length) : okT h (t : Int) (tx h t) = true := by
  simp only [right, Bool.and_eq_true] at hr
  have h2 := hr.2
  rw [okAll_iff, decide_eq_true_eq] at h2
  have := h2 t ht
  have e : tx h (t : Int) = h.Txns[t] := by simp [tx, ht]
  rw [e]
  simpa using this
theorem from_self {h : G.api_Hist} (hr : right h = true) {t : Nat} (ht : t < h.Txns.length) {r : G.api_Take} (hm : r ∈ (tx h t).Reads) : r.From ≠ (t : Int) := by
  have h1 := right_okT hr ht
  simp only [okT, Bool.and_eq_true] at h1
  have h2 := takes_there h1.1.1.2 r hm
  simp only [there, Bool.or_eq_true, Bool.and_eq_true, decide_eq_true_eq] at h2
  rcases h2 with h2 | h2
  · omega
  · exact h2.1.2
def wrL (h : G.api_Hist) (t : Nat) : List (Nat × Nat) := ((tx h t).Reads.filter fun r => decide (0 ≤ r.From)).map fun r => (r.From.toNat, t)
theorem pKWr_loop {h : G.api_Hist} (hr : right h = true) : G.known_Wr_1__known_laid_1_2 h (gr h.Txns.length (addL no0 [])) = some (gr h.Txns.length (addL no0 ((List.range h.Txns.length).flatMap (wrL h)))) := by
  have hn := right_le hr
  unfold G.known_Wr_1__known_laid_1_2
  refine count_exit (fun k => gr h.Txns.length (addL no0 ((List.range k).flatMap (wrL h)))) h.Txns.length _ (fuel_gt (by omega)) (fun t ht => ?_) ?_ rfl
  · simp only [G.known_Wr_1__known_laid_1_2_b1, dec_lt, ht, decide_true, if_true, idx_nat ht, Option.bind_some]
    obtain ⟨_, _, hlen⟩ := right_takes hr (tx_in ht)
    refine count_exit (fun i => gr h.Txns.length (addL no0 ((List.range t).flatMap (wrL h) ++ ((((tx h t).Reads.take i).filter fun r => decide (0 ≤ r.From)).map fun r => (r.From.toNat, t))))) (tx h t).Reads.length _ (fuel_gt (by omega)) (fun i hi => ?_) ?_ (by simp)
    · simp only [G.known_Wr_1__known_laid_1_2_b2, dec_lt, hi, decide_true, if_true, idx_at hi, Option.bind_some, w64_succ (show i < 9223372036854775807 by omega), Sh.next]
      rw [List.take_add_one, List.getElem?_eq_getElem hi, Option.toList_some, List.filter_append, List.map_append, ← List.append_assoc]
      by_cases h0 : ((tx h t).Reads[i]).From < 0
      · have h1 : ¬ 0 ≤ ((tx h t).Reads[i]).From := by omega
        rw [pLaid_neg _ h0]
        simp [h1]
      · have h1 : 0 ≤ ((tx h t).Reads[i]).From := by omega
        obtain ⟨x, hx, hxn⟩ := from_in hr ht (List.getElem_mem hi) h0
        rw [hx, pLaid (show h.Txns.length ≤ 64 by omega) _ _ hxn ht]
        simp [hx]
    · simp only [G.known_Wr_1__known_laid_1_2_b2, dec_lt, Nat.lt_irrefl, decide_false, Bool.false_eq_true, if_false, G.known_Wr_1__known_laid_1_2_j1, w64_succ (show t < 9223372036854775807 by omega), Sh.next, flat_succ, List.take_length]
      rfl
  · simp only [G.known_Wr_1__known_laid_1_2_b1, dec_lt, Nat.lt_irrefl, decide_false, Bool.false_eq_true, if_false]
theorem wr_eq {h : G.api_Hist} (hr : right h = true) : gr h.Txns.length (addL no0 ((List.range h.Txns.length).flatMap (wrL h))) = gr h.Txns.length (wrF h) := by
  have hn := right_le hr
  refine gr_ext (by omega) fun x y hx hy => ?_
  unfold addL wrF wrL no0
  rw [Bool.false_or, Bool.eq_iff_iff]
  simp only [List.any_eq_true, List.mem_flatMap, List.mem_range, List.mem_map, List.mem_filter, decide_eq_true_eq, Bool.and_eq_true]
  constructor
  · rintro ⟨e, ⟨t, ht, r, ⟨hm, hp⟩, rfl⟩, ⟨h1, h2⟩, h3⟩
    simp only at h1 h2 h3
    subst h2 h3
    exact ⟨r, hm, by omega⟩
  · rintro ⟨r, hm, h1⟩
    have := from_self hr hy hm
    exact ⟨(x, y), ⟨y, hy, r, ⟨hm, by omega⟩, by rw [h1]; simp⟩, ⟨by simp; omega, rfl⟩, rfl⟩
def wrG (h : G.api_Hist) : G.graph_Graph := if right h then gr h.Txns.length (wrF h) else g0
theorem pKWr {h : G.api_Hist} (hf : Fits h) : G.known_Wr h = some (wrG h) := by
  unfold G.known_Wr G.known_laid__known_Wr_1 wrG
  rw [pRight hf]
  simp only [Option.bind_some]
  cases hr : right h with
  | false => rfl
  | true =>
    have hn := right_le hr
    simp only [Bool.not_true, Bool.false_eq_true, if_false, if_true]
    rw [show (Sh.len h.Txns) = ((h.Txns.length : Nat) : Int) from rfl, graph_New _ (by omega)]
    simp only [Option.bind_some]
    rw [gr_zero, pKWr_loop hr]
    simp only [Option.bind_some]
    rw [wr_eq hr]
def pastG (h : G.api_Hist) : G.graph_Graph := if right h then gr h.Txns.length (orF (soF h) (wrF h)) else g0
theorem union_g0 : G.graph_Union g0 g0 = some (g0, 0) := by
  have := graph_Union (n := 0) (by omega) no0 no0
  exact this
theorem pPast {h : G.api_Hist} (hf : Fits h) : G.known_Past h = some (pastG h) := by
  unfold G.known_Past
  rw [pSo hf, pKWr hf]
  simp only [Option.bind_some]
  unfold soG wrG pastG
  cases hr : right h with
  | false => simp only [Bool.false_eq_true, if_false]; rw [union_g0]; rfl
  | true =>
    have hn := right_le hr
    simp only [if_true]
    rw [graph_Union (by omega)]; rfl

def wN (h : G.api_Hist) (key : Int) : List Nat := (List.range h.Txns.length).filter fun t : Nat => hasW (tx h t) key
theorem writers_wN {h : G.api_Hist} (hr : right h = true) (key : Int) : writers h key = (wN h key).map fun t : Nat => (t : Int) := by
  unfold writers wN; rw [if_pos hr]
theorem wN_lt {h : G.api_Hist} {key : Int} {t : Nat} (ht : t ∈ wN h key) : t < h.Txns.length ∧ hasW (tx h t) key = true := by
  unfold wN at ht; simpa using ht
theorem wN_len {h : G.api_Hist} {key : Int} : (wN h key).length ≤ h.Txns.length := by
  have := List.length_filter_le (fun t : Nat => hasW (tx h t) key) (List.range h.Txns.length); simpa [wN] using this
def iniL (h : G.api_Hist) (k : Nat) : List (Nat × Nat) := (readers h k (-1)).flatMap fun a => (wN h k).map fun b => (a, b)
theorem map_idx {l : List Nat} {i : Nat} (h : i < l.length) : Sh.idx (l.map fun t : Nat => (t : Int)) (i : Int) = some ((l[i] : Nat) : Int) := by
  rw [idx_at (by simpa using h)]; simp
theorem map_len (l : List Nat) : Sh.len (l.map fun t : Nat => (t : Int)) = ((l.length : Nat) : Int) := by simp [Sh.len]
theorem pInit_in {h : G.api_Hist} (hr : right h = true) (v a : Nat) (ha : a < h.Txns.length) (hv : v < 1000) (key : Int) (l : List (Nat × Nat)) :
    Sh.loop (fun (p : G.graph_Graph × Int) => G.known_Init_1__known_laid_1_2_b3 v a (writers h key) p.1 p.2) (gr h.Txns.length (addL no0 l), 0) = some (.inl (gr h.Txns.length (addL no0 (l ++ (wN h key).map fun b => (a, b))), ((v + 1 : Nat) : Int))) := by
  have hn := right_le hr
  have hw := wN_len (h := h) (key := key)
  rw [writers_wN hr]
  refine count_exit (fun i => gr h.Txns.length (addL no0 (l ++ ((wN h key).take i).map fun b => (a, b)))) (wN h key).length _ (fuel_gt (by omega)) (fun i hi => ?_) ?_ (by simp)
  · have hb := (wN_lt (List.getElem_mem hi)).1
    simp only [G.known_Init_1__known_laid_1_2_b3, map_len, dec_lt, hi, decide_true, if_true, map_idx hi, Option.bind_some, pLaid (show h.Txns.length ≤ 64 by omega) _ _ ha hb, w64_succ (show i < 9223372036854775807 by omega), Sh.next]
    rw [List.take_add_one, List.getElem?_eq_getElem hi, Option.toList_some, List.map_append, List.append_assoc]
    rfl
  · simp only [G.known_Init_1__known_laid_1_2_b3, map_len, dec_lt, Nat.lt_irrefl, decide_false, Bool.false_eq_true, if_false, G.known_Init_1__known_laid_1_2_j2, w64_succ (show v < 9223372036854775807 by omega), Sh.next, List.take_length]
theorem pInit_mid {h : G.api_Hist} (hf : Fits h) (hr : right h = true) (v k : Nat) (hv : v < 1000) (l : List (Nat × Nat)) :
    Sh.loop (fun (p : G.graph_Graph × Int) => G.known_Init_1__known_laid_1_2_b2 h v k ((readers h k (-1)).map fun t : Nat => (t : Int)) p.1 p.2) (gr h.Txns.length (addL no0 l), 0) = some (.inl (gr h.Txns.length (addL no0 (l ++ iniL h k)), ((v + 1 : Nat) : Int))) := by
  have hn := right_le hr
  have hrl := readers_len (h := h) (key := (k : Int)) (frm := -1)
  refine count_exit (fun i => gr h.Txns.length (addL no0 (l ++ ((readers h k (-1)).take i).flatMap fun a => (wN h k).map fun b => (a, b)))) (readers h k (-1)).length _ (fuel_gt (by omega)) (fun i hi => ?_) ?_ (by simp)
  · have ha := (readers_lt (List.getElem_mem hi)).1
    simp only [G.known_Init_1__known_laid_1_2_b2, map_len, dec_lt, hi, decide_true, if_true, map_idx hi, Option.bind_some, pWriters hf]
    rw [pInit_in hr i _ ha (by omega), List.take_add_one, List.getElem?_eq_getElem hi, Option.toList_some, List.flatMap_append, List.append_assoc]
    simp
  · simp only [G.known_Init_1__known_laid_1_2_b2, map_len, dec_lt, Nat.lt_irrefl, decide_false, Bool.false_eq_true, if_false, G.known_Init_1__known_laid_1_2_j1, w64_succ (show v < 9223372036854775807 by omega), Sh.next, List.take_length]
    rfl
theorem keysN_len (h : G.api_Hist) : (keysN h).length ≤ 16 := by
  have := List.length_filter_le (fun k : Nat => h.Txns.any fun t => hasW t k) (List.range 16); simpa [keysN] using this
theorem pInit_loop {h : G.api_Hist} (hf : Fits h) (hr : right h = true) : G.known_Init_1__known_laid_1_2 h (gr h.Txns.length (addL no0 [])) = some (gr h.Txns.length (addL no0 ((keysN h).flatMap (iniL h)))) := by
  have hn := right_le hr
  have hk := keysN_len h
  unfold G.known_Init_1__known_laid_1_2
  rw [pKeys hf]
  simp only [Option.bind_some]
  rw [show keys h = (keysN h).map (fun k : Nat => (k : Int)) by unfold keys; rw [if_pos hr]]
  refine count_exit (fun i => gr h.Txns.length (addL no0 (((keysN h).take i).flatMap (iniL h)))) (keysN h).length _ (fuel_gt (by omega)) (fun i hi => ?_) ?_ (by simp)
  · simp only [G.known_Init_1__known_laid_1_2_b1, map_len, dec_lt, hi, decide_true, if_true, map_idx hi, Option.bind_some, pReaders hf]
    rw [show readersI h ((keysN h)[i] : Nat) (-1) = (readers h ((keysN h)[i] : Nat) (-1)).map (fun t : Nat => (t : Int)) by unfold readersI; rw [if_pos hr]]
    rw [pInit_mid hf hr i _ (by omega), List.take_add_one, List.getElem?_eq_getElem hi, Option.toList_some, List.flatMap_append]
    simp
  · simp only [G.known_Init_1__known_laid_1_2_b1, map_len, dec_lt, Nat.lt_irrefl, decide_false, Bool.false_eq_true, if_false, List.take_length]
theorem mem_keysN {h : G.api_Hist} (hr : right h = true) {y : Nat} (hy : y < h.Txns.length) {k : Int} (hw : hasW (tx h y) k = true) : 0 ≤ k ∧ k.toNat ∈ keysN h := by
  obtain ⟨h0, h1⟩ := hasW_lt hr (tx_in hy) hw
  refine ⟨h0, ?_⟩
  unfold keysN
  simp only [List.mem_filter, List.mem_range, List.any_eq_true]
  exact ⟨by omega, _, tx_in hy, by rw [show ((k.toNat : Nat) : Int) = k by omega]; exact hw⟩
theorem ini_eq {h : G.api_Hist} (hr : right h = true) : gr h.Txns.length (addL no0 ((keysN h).flatMap (iniL h))) = gr h.Txns.length (iniF h) := by
  have hn := right_le hr
  refine gr_ext (by omega) fun x y hx hy => ?_
  unfold addL iniF iniL no0 iniC
  rw [Bool.false_or, Bool.eq_iff_iff]
  simp only [List.any_eq_true, List.mem_flatMap, List.mem_map, decide_eq_true_eq, Bool.and_eq_true]
  constructor
  · rintro ⟨e, ⟨k, hk, a, ha, b, hb, rfl⟩, ⟨h1, h2⟩, h3⟩
    simp only at h1 h2 h3
    subst h2 h3
    obtain ⟨_, hfr⟩ := readers_lt ha
    have := (fromR_iff hr (inr_nat.2 hx)).1 hfr
    simp only [List.any_eq_true, decide_eq_true_eq] at this
    obtain ⟨r, hm, rfl⟩ := this
    exact ⟨fun he => h1 he.symm, _, hm, rfl, (wN_lt hb).2⟩
  · rintro ⟨hne, r, hm, hf1, hw⟩
    obtain ⟨h0, hk⟩ := mem_keysN hr hy hw
    have e : ((r.Key.toNat : Nat) : Int) = r.Key := by omega
    refine ⟨(x, y), ⟨r.Key.toNat, hk, x, ?_, y, ?_, rfl⟩, ⟨fun he => hne he.symm, rfl⟩, rfl⟩
    · unfold readers
      simp only [List.mem_filter, List.mem_range, decide_eq_true_eq]
      refine ⟨hx, (fromR_iff hr (inr_nat.2 hx)).2 ?_⟩
      simp only [List.any_eq_true, decide_eq_true_eq]
      exact ⟨r, hm, by rw [e, ← hf1]⟩
    · unfold wN
      simp only [List.mem_filter, List.mem_range]
      exact ⟨hy, by rw [e]; exact hw⟩
def iniG (h : G.api_Hist) : G.graph_Graph := if right h then gr h.Txns.length (iniF h) else g0
theorem pInit {h : G.api_Hist} (hf : Fits h) : G.known_Init h = some (iniG h) := by
  unfold G.known_Init G.known_laid__known_Init_1 iniG
  rw [pRight hf]
  simp only [Option.bind_some]
  cases hr : right h with
  | false => rfl
  | true =>
    have hn := right_le hr
    simp only [Bool.not_true, Bool.false_eq_true, if_false, if_true]
    rw [show (Sh.len h.Txns) = ((h.Txns.length : Nat) : Int) from rfl, graph_New _ (by omega)]
    simp only [Option.bind_some]
    rw [gr_zero, pInit_loop hf hr]
    simp only [Option.bind_some]
    rw [ini_eq hr]
end Pl
end

section
/- What follows from choices: the graphs that the program makes. -/
namespace Pl
open Go Go.Av

def cr (h : G.api_Hist) (l : List G.api_Choice) : Bool := right h && l.all (one h)
theorem cr_iff {h : G.api_Hist} {l : List G.api_Choice} : cr h l = true ↔ right h = true ∧ ∀ c ∈ l, one h c = true := by simp [cr]
theorem wwF_nil : wwF [] = no0 := by funext x y; simp [wwF, no0]
def wwG (h : G.api_Hist) (l : List G.api_Choice) : G.graph_Graph := if cr h l then gr h.Txns.length (wwF l) else g0
theorem pWw {h : G.api_Hist} (hf : Fits h) {l : List G.api_Choice} (hl : l.length ≤ 20000) : G.choice_Ww h l = some (wwG h l) := by
  unfold G.choice_Ww wwG
  rw [pChoice hf hl]
  simp only [Option.bind_some]
  cases hc : (right h && l.all (one h)) with
  | false => rw [show cr h l = false from hc]; rfl
  | true =>
    rw [show cr h l = true from hc]
    obtain ⟨hr, hone⟩ := cr_iff.1 hc
    have hn := right_le hr
    have hn64 : h.Txns.length ≤ 64 := by omega
    simp only [Bool.not_true, Bool.false_eq_true, if_false, if_true]
    rw [show (Sh.len h.Txns) = ((h.Txns.length : Nat) : Int) from rfl, graph_New _ hn64]
    simp only [Option.bind_some]
    refine run_exit (fun i => ((h.Txns.length : Int), rows h.Txns.length (wwF (l.take i)), (i : Int))) l.length _ (fuel_gt (by omega)) (fun i hi => ?_) ?_ ?_
    · obtain ⟨a, b, ea, eb, ha, hb, _⟩ := one_nat (hone _ (List.getElem_mem hi))
      simp only [G.choice_Ww_b1, dec_lt, hi, decide_true, if_true, idx_at hi, Option.bind_some, ea, eb]
      rw [show G.graph_Graph.mk (h.Txns.length : Int) (rows h.Txns.length (wwF (l.take i))) = gr h.Txns.length (wwF (l.take i)) from rfl, graph_Add hn64 _ ha hb]
      simp only [Option.bind_some, w64_succ (show i < 9223372036854775807 by omega), Sh.next]
      have e : rows h.Txns.length (addF (wwF (l.take i)) a b) = rows h.Txns.length (wwF (l.take (i + 1))) := by
        rw [rows_ext hn64]
        intro x y _ _
        unfold addF wwF
        rw [take_any hi, ea, eb]
        congr 1
        rw [Bool.eq_iff_iff]
        simp only [decide_eq_true_eq, Bool.and_eq_true]
        constructor
        · rintro ⟨rfl, rfl⟩; exact ⟨rfl, rfl⟩
        · rintro ⟨h1, h2⟩; exact ⟨by omega, by omega⟩
      simp only [e]
    · simp only [G.choice_Ww_b1, dec_lt, Nat.lt_irrefl, decide_false, Bool.false_eq_true, if_false, G.choice_Ww_j1, List.take_length]
    · rw [List.take_zero, wwF_nil, zero_rows]; rfl

def rwG (h : G.api_Hist) (l : List G.api_Choice) : G.graph_Graph := if cr h l then gr h.Txns.length (rwF h l) else g0
theorem pRw {h : G.api_Hist} (hf : Fits h) {l : List G.api_Choice} (hl : l.length ≤ 20000) : G.choice_Rw h l = some (rwG h l) := by
  unfold G.choice_Rw rwG
  rw [pChoice hf hl]
  simp only [Option.bind_some]
  cases hc : (right h && l.all (one h)) with
  | false => rw [show cr h l = false from hc]; rfl
  | true =>
    rw [show cr h l = true from hc]
    obtain ⟨hr, hone⟩ := cr_iff.1 hc
    have hn := right_le hr
    have hn64 : h.Txns.length ≤ 64 := by omega
    simp only [Bool.not_true, Bool.false_eq_true, if_false, if_true]
    rw [pInit hf]
    simp only [Option.bind_some]
    rw [show iniG h = gr h.Txns.length (iniF h) by unfold iniG; rw [if_pos hr]]
    refine count_exit (fun i => gr h.Txns.length (rwF h (l.take i))) l.length _ (fuel_gt (by omega)) (fun i hi => ?_) ?_ (by congr 2; funext x y; simp [rwF])
    · obtain ⟨a, b, ea, eb, ha, hb, _⟩ := one_nat (hone _ (List.getElem_mem hi))
      simp only [G.choice_Rw_b1, dec_lt, hi, decide_true, if_true, idx_at hi, Option.bind_some]
      refine count_exit (fun t => gr h.Txns.length (orF (rwF h (l.take i)) fun x y => decide (x < t) && rwC h l[i] x y)) h.Txns.length _ (fuel_gt (by omega)) (fun t ht => ?_) ?_ ?_
      · obtain ⟨_, _, hlen⟩ := right_takes hr (tx_in ht)
        have step : ∀ q : Bool, q = rwC h l[i] t b → G.choice_Rw_j4 l[i] (gr h.Txns.length (orF (rwF h (l.take i)) fun x y => decide (x < t) && rwC h l[i] x y)) t q = some (.inl (gr h.Txns.length (orF (rwF h (l.take i)) fun x y => decide (x < t + 1) && rwC h l[i] x y), ((t + 1 : Nat) : Int))) := by
          intro q hq
          unfold G.choice_Rw_j4 G.choice_Rw_j3
          rw [eb]
          have key : ∀ x y, x < h.Txns.length → y < h.Txns.length → ((orF (rwF h (l.take i)) fun x y => decide (x < t + 1) && rwC h l[i] x y) x y = ((orF (rwF h (l.take i)) fun x y => decide (x < t) && rwC h l[i] x y) x y || (decide (x = t ∧ y = b) && q))) := by
            intro x y _ _
            unfold orF
            rw [Bool.or_assoc]
            congr 1
            by_cases e1 : x = t
            · subst e1
              by_cases e2 : y = b
              · subst e2; simp [hq]
              · have : rwC h l[i] x y = false := by
                  unfold rwC
                  rw [eb]
                  have : ¬ (b : Int) = (y : Int) := by omega
                  simp [this]
                simp [this, e2]
            · have : (x < t + 1) ↔ (x < t) := by omega
              simp [e1, this]
          cases q with
          | true =>
            simp only [if_true, graph_Add hn64 _ ht hb, Option.bind_some, w64_succ (show t < 9223372036854775807 by omega), Sh.next]
            congr 3
            refine gr_ext hn64 fun x y hx hy => ?_
            rw [key x y hx hy]; simp [addF]
          | false =>
            simp only [Bool.false_eq_true, if_false, w64_succ (show t < 9223372036854775807 by omega), Sh.next]
            congr 3
            refine gr_ext hn64 fun x y hx hy => ?_
            rw [key x y hx hy]; simp
        simp only [G.choice_Rw_b2, dec_lt, ht, decide_true, if_true, idx_nat ht, Option.bind_some]
        have e3 : decide ((t : Int) ≠ l[i].B) = decide (t ≠ b) := by rw [eb]; congr 1; exact propext (by omega)
        rw [e3, pHasT (by omega)]
        simp only [Option.bind_some]
        have e4 : (tx h (t : Int)).Reads.any (fun c => decide (G.api_Take.mk l[i].Key l[i].A = c)) = decide (fromR h t l[i].Key = some l[i].A) := by
          have := fromR_iff (t := (t : Int)) (key := l[i].Key) (v := l[i].A) hr (inr_nat.2 ht)
          rw [Bool.eq_iff_iff, decide_eq_true_eq, this]
        by_cases e5 : t = b
        · subst e5
          simp only [ne_eq, not_true_eq_false, decide_false, Bool.false_eq_true, if_false]
          refine step false ?_
          unfold rwC; simp
        · simp only [ne_eq, e5, not_false_eq_true, decide_true, if_true]
          refine step _ ?_
          unfold rwC
          rw [e4, eb]; simp [e5]
      · simp only [G.choice_Rw_b2, dec_lt, Nat.lt_irrefl, decide_false, Bool.false_eq_true, if_false, G.choice_Rw_j2, w64_succ (show i < 9223372036854775807 by omega), Sh.next]
        congr 3
        refine congrArg (fun q => (q, ((i + 1 : Nat) : Int))) (gr_ext hn64 fun x y hx _ => ?_)
        unfold rwF orF
        rw [take_any hi]
        simp [hx, Bool.or_assoc]
      · congr 2
        funext x y; simp [orF]
    · simp only [G.choice_Rw_b1, dec_lt, Nat.lt_irrefl, decide_false, Bool.false_eq_true, if_false, G.choice_Rw_j1, List.take_length]

theorem pAll1 {n : Nat} (hn : n ≤ 64) (f g : Nat → Nat → Bool) : G.choice_all (gr n f) [gr n g] = some (gr n (orF f g)) := by
  unfold G.choice_all
  refine run_exit (fun i => if i = 0 then ((gr n f).N, (gr n f).Rows, 0) else ((n : Int), rows n (orF f g), 1)) 1 _ (by decide) (fun i hi => ?_) ?_ rfl
  · have : i = 0 := by omega
    subst this
    simp only [if_true, Nat.zero_add, G.choice_all_b1, Sh.len, List.length_cons, List.length_nil]
    rw [show G.graph_Graph.mk (gr n f).N (gr n f).Rows = gr n f from rfl]
    rw [show Sh.idx [gr n g] 0 = some (gr n g) from rfl]
    simp only [Option.bind_some, graph_Union hn]
    rfl
  · simp only [G.choice_all_b1, G.choice_all_j1]
    rfl
def lev2 (lev : Int) : Bool := decide (lev = 0) || decide (lev = 1)
def fullG (h : G.api_Hist) (lev : Int) (l : List G.api_Choice) : G.graph_Graph × Int := if cr h l && lev2 lev then (gr h.Txns.length (fullF h lev l), 0) else (g0, 1)
theorem pFull {h : G.api_Hist} (hf : Fits h) (lev : Int) {l : List G.api_Choice} (hl : l.length ≤ 20000) : G.choice_Full h lev l = some (fullG h lev l) := by
  unfold G.choice_Full fullG
  rw [pChoice hf hl]
  simp only [Option.bind_some]
  rw [show (right h && l.all (one h)) = cr h l from rfl]
  cases hc : cr h l with
  | false => rfl
  | true =>
    obtain ⟨hr, hone⟩ := cr_iff.1 hc
    have hn := right_le hr
    have hn64 : h.Txns.length ≤ 64 := by omega
    have e1 : pastG h = gr h.Txns.length (orF (soF h) (wrF h)) := by unfold pastG; rw [if_pos hr]
    have e2 : wwG h l = gr h.Txns.length (wwF l) := by unfold wwG; rw [if_pos hc]
    have e3 : rwG h l = gr h.Txns.length (rwF h l) := by unfold rwG; rw [if_pos hc]
    have body : G.choice_Full_j1 h lev l false = some (gr h.Txns.length (orF (dF h l) (if lev = 1 then compF h.Txns.length (dF h l) (rwF h l) else rwF h l)), 0) := by
      unfold G.choice_Full_j1 G.choice_Full_j2
      simp only [Bool.false_eq_true, if_false, pPast hf, pWw hf hl, pRw hf hl, Option.bind_some, e1, e2, e3, pAll1 hn64]
      by_cases hv : lev = 1
      · simp only [hv, decide_true, if_true, graph_Compose hn64, Option.bind_some, pAll1 hn64]; rfl
      · simp only [hv, decide_false, Bool.false_eq_true, if_false]
        rfl
    simp only [Bool.not_true, Bool.false_eq_true, if_false, Bool.true_and]
    unfold lev2
    by_cases h0 : lev = 0
    · subst h0
      simp only [ne_eq, not_true_eq_false, decide_false, Bool.false_eq_true, if_false, body, decide_true, Bool.true_or, if_true]
      rfl
    · by_cases h1 : lev = 1
      · subst h1
        simp only [ne_eq, h0, not_false_eq_true, decide_true, if_true, not_true_eq_false, decide_false, body, Bool.or_true]
        rfl
      · simp [h0, h1, G.choice_Full_j1, g0]
end Pl
end

section
/- The first open pair, and the choices that an order makes: what the program answers. -/
namespace Pl
open Go Go.Av

theorem pHasCC {l : List G.api_Choice} (hl : l.length < 9223372036854775807) (v : G.api_Choice) : G.slices_Contains_api_Choice_api_Choice l v = some (l.any (fun c => decide (v = c))) := by
  unfold G.slices_Contains_api_Choice_api_Choice G.slices_Index_api_Choice_api_Choice
  rw [find_loop l (fun x => decide (v = x)) (fun k => (k : Int)) (some (-1)) (fuel_gt (by omega)) (fun k hk => ?_) ?_, pos_some]
  · rw [Option.bind_some, contains_of_find]
  · simp [G.slices_Index_api_Choice_api_Choice_b1, G.slices_Index_api_Choice_api_Choice_j1]
  · simp only [G.slices_Index_api_Choice_api_Choice_b1, dec_lt, hk, decide_true, if_true, idx_at hk, Option.bind_some, w64_succ (show k < 9223372036854775807 by omega)]
    rfl
def undec (l : List G.api_Choice) (p : G.api_Choice) : Bool := !(l.any (fun c => decide (p = c))) && !(l.any (fun c => decide (back p = c)))
def openO (h : G.api_Hist) (l : List G.api_Choice) : Option G.api_Choice := if cr h l then (pairs h).find? (undec l) else none
def openB (h : G.api_Hist) (l : List G.api_Choice) : G.api_Choice × Bool := match openO h l with | some p => (p, true) | none => (⟨0, 0, 0⟩, false)
theorem find_elim {α β : Type} (p : α → Bool) (d : α) (A : α → β) (X : β) : ∀ l : List α, (l.findIdx? p).elim (some X) (fun k => some (A (l.getD k d))) = some (match l.find? p with | some x => A x | none => X)
  | [] => rfl
  | x :: l => by
    rw [List.findIdx?_cons, List.find?_cons]
    cases hp : p x with
    | true => simp [List.getD]
    | false =>
      have ih := find_elim p d A X l
      simp only [Bool.false_eq_true, if_false]
      rw [← ih]
      cases l.findIdx? p <;> simp [List.getD]
theorem pairs_le {h : G.api_Hist} (hr : right h = true) : (pairs h).length ≤ 20000 := by
  have hn := right_le hr
  have h1 := pairs_len (h := h)
  have h2 : h.Txns.length * h.Txns.length ≤ 32 * 32 := Nat.mul_le_mul hn hn
  omega
theorem pOpen {h : G.api_Hist} (hf : Fits h) {l : List G.api_Choice} (hl : l.length ≤ 20000) : G.choice_Open h l = some (openB h l) := by
  unfold G.choice_Open openB openO
  rw [pChoice hf hl]
  simp only [Option.bind_some]
  rw [show (right h && l.all (one h)) = cr h l from rfl]
  cases hc : cr h l with
  | false => rfl
  | true =>
    obtain ⟨hr, _⟩ := cr_iff.1 hc
    have hpl := pairs_le hr
    simp only [Bool.not_true, Bool.false_eq_true, if_false, if_true, pPairs hf, Option.bind_some]
    rw [find_loop (pairs h) (undec l) (fun k => ((pairs h).getD k default, true)) (some (⟨0, 0, 0⟩, false)) (fuel_gt (by omega)) (fun k hk => ?_) ?_]
    · rw [find_elim (undec l) default (fun x => (x, true)) (⟨0, 0, 0⟩, false) (pairs h)]
      cases (pairs h).find? (undec l) <;> rfl
    · simp only [G.choice_Open_b1, dec_lt, Nat.lt_irrefl, decide_false, Bool.false_eq_true, if_false, G.choice_Open_j1]
    · have h4 : (pairs h).getD k default = (pairs h)[k] := by simp [List.getD, List.getElem?_eq_getElem hk]
      simp only [G.choice_Open_b1, dec_lt, hk, decide_true, if_true, idx_at hk, Option.bind_some, pHasCC (show l.length < 9223372036854775807 by omega), G.choice_Open_j2, w64_succ (show k < 9223372036854775807 by omega), h4, Sh.exit, Sh.next, Option.map_some]
      rw [show G.api_Choice.mk ((pairs h)[k]).Key ((pairs h)[k]).B ((pairs h)[k]).A = back ((pairs h)[k]) from rfl]
      unfold undec
      cases l.any (fun c => decide ((pairs h)[k] = c)) <;> cases l.any (fun c => decide (back ((pairs h)[k]) = c)) <;> rfl

end Pl
end

section
/- Law 18: what follows from choices. -/
namespace Pl
open Go Go.Av

theorem awake18 : G.inquestlaw18_awake = some true := by kernel_rfl
theorem r18_Back (c : G.api_Choice) : G.inquestref18_Back c = some (back c) := rfl
end Pl
end

section
/- From whom anybody reads a key: what the program answers. -/
namespace Pl
open Go Go.Av

end Pl
end

section
/- Law 18: the program's answers on choices are the document's. -/
namespace Pl
open Go Go.Av

theorem r18_One {h : G.api_Hist} (hf : Fits h) (c : G.api_Choice) : G.inquestref18_One h c = some (one h c) := rOne hf c
theorem r18_Right {h : G.api_Hist} (hf : Fits h) {l : List G.api_Choice} (hl : l.length ≤ 20000) : G.inquestref18_Right h l = some (cr h l) := by
  unfold G.inquestref18_Right G.inquestref18_Right_j1 cr
  rw [rRight hf]
  simp only [Option.bind_some]
  have hd : decide ((20000 : Int) < Sh.len l) = false := by simp [Sh.len]; omega
  rw [hd]
  cases hr : right h with
  | false => rfl
  | true =>
    simp only [Bool.not_true, Bool.false_eq_true, if_false, Bool.true_and]
    rw [any_loop l (fun c => !one h c) false (some true) (fuel_gt (by omega)) (fun k hk => ?_) ?_]
    · rw [List.any_eq_not_all_not]
      simp only [Bool.not_not]
      cases l.all (one h) <;> rfl
    · simp [G.inquestref18_Right_b1, G.inquestref18_Right_j2]
    · simp only [G.inquestref18_Right_b1, dec_lt, hk, decide_true, if_true, idx_at hk, Option.bind_some, r18_One hf, w64_succ (show k < 9223372036854775807 by omega)]
      cases one h l[k] <;> rfl
theorem r18_Open {h : G.api_Hist} (hf : Fits h) {l : List G.api_Choice} (hl : l.length ≤ 20000) (hc : cr h l = true) : G.inquestref18_Open h l = some (openB h l) := by
  obtain ⟨hr, _⟩ := cr_iff.1 hc
  have hpl := pairs_le hr
  have hn := right_le hr
  unfold G.inquestref18_Open openB openO
  rw [if_pos hc, r09_Pairs hf (by omega)]
  simp only [Option.bind_some]
  rw [find_loop (pairs h) (undec l) (fun k => ((pairs h).getD k default, true)) (some (⟨0, 0, 0⟩, false)) (fuel_gt (by omega)) (fun k hk => ?_) ?_]
  · rw [find_elim (undec l) default (fun x => (x, true)) (⟨0, 0, 0⟩, false) (pairs h)]
    cases (pairs h).find? (undec l) <;> rfl
  · simp only [G.inquestref18_Open_b1, dec_lt, Nat.lt_irrefl, decide_false, Bool.false_eq_true, if_false, G.inquestref18_Open_j1]
  · have h4 : (pairs h).getD k default = (pairs h)[k] := by simp [List.getD, List.getElem?_eq_getElem hk]
    simp only [G.inquestref18_Open_b1, dec_lt, hk, decide_true, if_true, idx_at hk, Option.bind_some, rIn (show l.length < 9223372036854775807 by omega), r18_Back, G.inquestref18_Open_j2, w64_succ (show k < 9223372036854775807 by omega), h4, Sh.exit, Sh.next, Option.map_some]
    unfold undec
    cases l.any (fun c => decide ((pairs h)[k] = c)) <;> cases l.any (fun c => decide (back ((pairs h)[k]) = c)) <;> rfl
theorem plain18 (g : G.graph_Graph) : G.inquestlaw18_plain g = some ⟨g.N, g.Rows⟩ := rfl
theorem ChoiceTells (h : G.api_Hist) (lev : Int) (l : List G.api_Choice) : G.inquestlaw18_ChoiceTells h lev l = some true := by
  unfold G.inquestlaw18_ChoiceTells
  rw [awake18, rFew (by omega)]
  simp only [Option.bind_some, Bool.not_true, Bool.false_eq_true, if_false]
  cases hF : few h 40 with
  | false => rfl
  | true =>
    have hf := few_fits (by omega) hF
    simp only [Bool.not_true, Bool.false_eq_true, if_false]
    by_cases hlen : (60 : Int) < Sh.len l
    · rw [decide_eq_true hlen]; rfl
    rw [decide_eq_false hlen]
    have hl : l.length ≤ 60 := by simp [Sh.len] at hlen; omega
    have hl2 : l.length ≤ 20000 := by omega
    unfold G.inquestlaw18_ChoiceTells_j1
    rw [if_neg (by simp), pWw hf hl2, Option.bind_some, plain18, Option.bind_some, pRw hf hl2, Option.bind_some, plain18, Option.bind_some, pFull hf lev hl2, Option.bind_some, pOpen hf hl2, Option.bind_some, r18_Right hf hl2, Option.bind_some, pChoice hf hl2, Option.bind_some]
    rw [show (right h && l.all (one h)) = cr h l from rfl, if_neg (by simp)]
    cases hc : cr h l with
    | false =>
      have e1 : wwG h l = g0 := by unfold wwG; rw [if_neg (by rw [hc]; simp)]
      have e2 : rwG h l = g0 := by unfold rwG; rw [if_neg (by rw [hc]; simp)]
      have e3 : fullG h lev l = (g0, 1) := by unfold fullG; rw [hc]; rfl
      have e4 : openB h l = (⟨0, 0, 0⟩, false) := by unfold openB openO; rw [if_neg (by rw [hc]; simp)]
      have z : w64 (0 : Int) = 0 := w64_id (by omega) (by omega)
      rw [e1, e2, e3, e4, if_pos (by simp)]
      simp only [g0, Sh.len, List.length_nil, Int.natCast_zero, Int.add_zero, z, decide_true, if_true, Bool.not_false]
    | true =>
      obtain ⟨hr, hone⟩ := cr_iff.1 hc
      have hn := right_le hr
      have hn64 : h.Txns.length ≤ 64 := by omega
      have e1 : (⟨(wwG h l).N, (wwG h l).Rows⟩ : G.inquestref12_G) = rg h.Txns.length (wwF l) := by unfold wwG; rw [if_pos hc]
      have e2 : (⟨(rwG h l).N, (rwG h l).Rows⟩ : G.inquestref12_G) = rg h.Txns.length (rwF h l) := by unfold rwG; rw [if_pos hc]
      rw [if_neg (by simp), r18_Open hf hl2 hc, Option.bind_some, r18_Ww hn64 (show l.length < 9223372036854775807 by omega) hone, Option.bind_some, e1, same_self hn64, Option.bind_some, if_neg (by simp), r18_Rw hf hn64 (show l.length < 9223372036854775807 by omega) hone, Option.bind_some, e2, same_self hn64, Option.bind_some, if_neg (by simp), if_neg (by simp)]
      unfold G.inquestlaw18_ChoiceTells_j2
      rw [if_neg (by simp)]
      have tail : lev2 lev = true → G.inquestlaw18_ChoiceTells_j3 h lev l (fullG h lev l) false = some true := fun hv => by
        unfold G.inquestlaw18_ChoiceTells_j3 fullG
        rw [hc, hv]
        simp only [Bool.false_eq_true, if_false, Bool.and_self, if_true, decide_true]
        rw [plain18, Option.bind_some, r18_Full hf hr lev (show l.length < 9223372036854775807 by omega) hone, Option.bind_some]
        rw [show (⟨(gr h.Txns.length (fullF h lev l)).N, (gr h.Txns.length (fullF h lev l)).Rows⟩ : G.inquestref12_G) = rg h.Txns.length (fullF h lev l) from rfl, same_self hn64, Option.bind_some]
      by_cases h0 : lev = 0
      · subst h0
        rw [decide_eq_false (by simp), if_neg (by simp)]
        exact tail rfl
      · rw [decide_eq_true h0, if_pos rfl]
        by_cases h1 : lev = 1
        · subst h1
          rw [decide_eq_false (by simp)]
          exact tail rfl
        · rw [decide_eq_true h1]
          unfold G.inquestlaw18_ChoiceTells_j3 fullG
          have hv : lev2 lev = false := by unfold lev2; rw [decide_eq_false h0, decide_eq_false h1]; rfl
          rw [hc, hv]
          rfl
end Pl
end
