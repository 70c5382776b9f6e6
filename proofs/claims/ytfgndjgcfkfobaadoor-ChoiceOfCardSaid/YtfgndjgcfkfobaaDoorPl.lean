/- What the plain functions answer. -/
import Derived.Test.YtfgndjgcfkfobaaDoorBase1
import Derived.Test.YtfgndjgcfkfobaaDoorSh
import Derived.KernelRfl
set_option linter.unusedSimpArgs false
set_option linter.unusedVariables false
section
/- What is used to reason about the plain functions. -/
namespace Pl
open Go Go.Av

theorem w64_id {n : Int} (h1 : -9223372036854775808 ≤ n) (h2 : n < 9223372036854775808) : w64 n = n := i64_wrap h1 h2
theorem idx_at {α : Type} {l : List α} {k : Nat} (h : k < l.length) : Sh.idx l (k : Int) = some l[k] := by
  simp [Sh.idx, h]
theorem idx_of {α : Type} {l : List α} {i : Int} (h0 : 0 ≤ i) (h : i < l.length) : Sh.idx l i = some (l[i.toNat]'(by omega)) := by
  unfold Sh.idx
  rw [if_pos h0]
  exact List.getElem?_eq_getElem (by omega)
theorem app_ok {α : Type} {b : Nat} {l m : List α} (h : (l.length + m.length) * b ≤ 140737488355328) : Sh.app b l m = some (l ++ m) := by
  simp [Sh.app, h]
theorem mk_ok {α : Type} {b m : Nat} {z : α} (h : b * m ≤ 140737488355328) (h2 : m ≤ 4611686018427387904) : Sh.mk b (m : Int) (m : Int) z = some (List.replicate m z) := by
  have : ((b : Int) * (m : Int)) ≤ 140737488355328 := by
    rw [← Int.natCast_mul]; omega
  unfold Sh.mk
  rw [if_pos ⟨by omega, by omega, this, by omega⟩]
  simp
theorem sub_ok {α : Type} {l : List α} {m k : Nat} (h1 : m ≤ k) (h2 : k ≤ l.length) : Sh.sub l (m : Int) (k : Int) = some ((l.drop m).take (k - m)) := by
  unfold Sh.sub
  rw [if_pos ⟨by omega, by omega, by omega⟩]
  simp
theorem set_at {α : Type} (l : List α) (k : Nat) (x : α) : Sh.set l (k : Int) x = l.set k x := by simp [Sh.set]
theorem cpy_ok {α : Type} {l m : List α} (h : m.length = l.length) : Sh.cpy l m = some m := by simp [Sh.cpy, h]

theorem count {σ α : Type} {b : σ × Int → Option ((σ × Int) ⊕ α)} (S : Nat → σ) (m : Nat) (r : α) (hm : m < Sh.FUEL) (h : ∀ k, k < m → b (S k, (k : Int)) = some (.inl (S (k + 1), ((k + 1 : Nat) : Int)))) (hr : b (S m, (m : Int)) = some (.inr r)) {s : σ} (hs : s = S 0) :
    Sh.loop b (s, 0) = some r := by
  subst hs
  exact Sh.loop_run (fun k => (S k, (k : Int))) m r hm h hr
theorem count0 {α : Type} {b : Int → Option (Int ⊕ α)} (m : Nat) (r : α) (hm : m < Sh.FUEL) (h : ∀ k, k < m → b (k : Int) = some (.inl ((k + 1 : Nat) : Int))) (hr : b (m : Int) = some (.inr r)) : Sh.loop b 0 = some r :=
  Sh.loop_run (fun k => (k : Int)) m r hm h hr
theorem next_some {σ α : Type} (s : σ) : Sh.next (α := α) s = some (.inl s) := rfl
theorem exit_some {σ α : Type} (x : α) : Sh.exit (σ := σ) (some x) = some (.inr x) := rfl
theorem fuel_gt {n : Nat} (h : n < 9223372036854775808) : n < Sh.FUEL := h
theorem w64_succ {k : Nat} (h : k < 9223372036854775807) : w64 ((k : Int) + 1) = ((k + 1 : Nat) : Int) := by
  rw [w64_id (by omega) (by omega)]; omega
theorem len_eq {α : Type} (l : List α) : Sh.len l = (l.length : Int) := rfl
theorem dec_lt {k n : Nat} : decide ((k : Int) < (n : Int)) = decide (k < n) := by
  congr 1; exact propext (by omega)
end Pl
namespace Pl
open Go Go.Av
theorem scan {α : Type} {b : Int → Option (Int ⊕ α)} (s m : Nat) (p : Nat → Bool) (A B : α) (hsm : s ≤ m) (hm : m < Sh.FUEL) (h : ∀ k, s ≤ k → k < m → b (k : Int) = if p k then some (.inl ((k + 1 : Nat) : Int)) else some (.inr B)) (hr : b (m : Int) = some (.inr A)) :
    Sh.loop b (s : Int) = some (if ∀ k, k < m → s ≤ k → p k = true then A else B) := by
  by_cases hall : ∀ k, k < m → s ≤ k → p k = true
  · rw [if_pos hall]
    refine Sh.loop_run (fun k => ((s + k : Nat) : Int)) (m - s) A (by omega) (fun k hk => ?_) ?_
    · rw [h (s + k) (by omega) (by omega), if_pos (hall _ (by omega) (by omega))]; rfl
    · rw [show s + (m - s) = m by omega]; exact hr
  · rw [if_neg hall]
    have hex : ∃ k, s ≤ k ∧ k < m ∧ p k = false := by
      apply Classical.byContradiction
      intro hn
      exact hall (fun k h2 h1 => by
        cases hp : p k with
        | true => rfl
        | false => exact absurd ⟨k, h1, h2, hp⟩ hn)
    obtain ⟨k, hk, hmin⟩ := exists_least _ hex
    refine Sh.loop_run (fun q => ((s + q : Nat) : Int)) (k - s) B (by omega) (fun q hq => ?_) ?_
    · have : p (s + q) = true := by
        cases hp : p (s + q) with
        | true => rfl
        | false => have := hmin (s + q) ⟨by omega, by omega, hp⟩; omega
      rw [h (s + q) (by omega) (by omega), if_pos this]; rfl
    · rw [show s + (k - s) = k by omega, h k hk.1 hk.2.1, if_neg (by rw [hk.2.2]; simp)]
theorem scan0 {α : Type} {b : Int → Option (Int ⊕ α)} (m : Nat) (p : Nat → Bool) (A B : α) (hm : m < Sh.FUEL) (h : ∀ k, k < m → b (k : Int) = if p k then some (.inl ((k + 1 : Nat) : Int)) else some (.inr B)) (hr : b (m : Int) = some (.inr A)) :
    Sh.loop b 0 = some (if ∀ k, k < m → p k = true then A else B) := by
  have := scan 0 m p A B (by omega) hm (fun k _ hk => h k hk) hr
  simpa using this
theorem scan_true {b : Int → Option (Int ⊕ Bool)} (m : Nat) (p : Nat → Bool) (hm : m < Sh.FUEL) (h : ∀ k, k < m → b (k : Int) = if p k then some (.inl ((k + 1 : Nat) : Int)) else some (.inr false)) (hr : b (m : Int) = some (.inr true)) :
    Sh.loop b 0 = some (decide (∀ k, k < m → p k = true)) := by
  rw [scan0 m p true false hm h hr]
  by_cases hq : ∀ k, k < m → p k = true
  · rw [if_pos hq, decide_eq_true hq]
  · rw [if_neg hq, decide_eq_false hq]
end Pl
namespace Pl
open Go Go.Av
theorem run_exit {σ α : Type} {b : σ → Option (σ ⊕ α)} (S : Nat → σ) (m : Nat) (X : Option α) (hm : m < Sh.FUEL) (h : ∀ k, k < m → b (S k) = some (.inl (S (k + 1)))) (hr : b (S m) = Sh.exit X) {s : σ} (hs : s = S 0) : Sh.loop b s = X := by
  subst hs
  unfold Sh.loop
  rw [show Sh.FUEL = m + ((Sh.FUEL - m - 1) + 1) by omega, Sh.iter_go S m h]
  simp only [Sh.iter, hr]
  cases X <;> rfl
theorem count_exit {σ α : Type} {b : σ × Int → Option ((σ × Int) ⊕ α)} (S : Nat → σ) (m : Nat) (X : Option α) (hm : m < Sh.FUEL) (h : ∀ k, k < m → b (S k, (k : Int)) = some (.inl (S (k + 1), ((k + 1 : Nat) : Int)))) (hr : b (S m, (m : Int)) = Sh.exit X) {s : σ} (hs : s = S 0) :
    Sh.loop b (s, 0) = X := run_exit (fun k => (S k, (k : Int))) m X hm h hr (by rw [hs]; rfl)
end Pl
end

section
/- Loops over lists. -/
namespace Pl
open Go Go.Av

def foldE {σ α β : Type} (step : Nat → σ → α → σ ⊕ β) (X : σ → Option β) : Nat → List α → σ → Option β
  | _, [], s => X s
  | k, x :: l, s => match step k s x with
    | .inl s' => foldE step X (k + 1) l s'
    | .inr r => some r

theorem loop_step {σ β : Type} {b : σ → Option (σ ⊕ β)} {n : Nat} {s s' : σ} (h : b s = some (.inl s')) : Sh.iter b (n + 1) s = Sh.iter b n s' := by simp [Sh.iter, h]
theorem loop_stop {σ β : Type} {b : σ → Option (σ ⊕ β)} {n : Nat} {s : σ} {r : β} (h : b s = some (.inr r)) : Sh.iter b (n + 1) s = some r := by simp [Sh.iter, h]
theorem loop_exit {σ β : Type} {b : σ → Option (σ ⊕ β)} {n : Nat} {s : σ} {X : Option β} (h : b s = Sh.exit X) : Sh.iter b (n + 1) s = X := by cases X <;> simp [Sh.iter, h, Sh.exit]

theorem iter_fold {σ τ α β : Type} {b : τ → Option (τ ⊕ β)} (S : σ → Nat → τ) (step : Nat → σ → α → σ ⊕ β) (X : σ → Option β) (l0 : List α)
    (h : ∀ (k : Nat) (s : σ) (hk : k < l0.length), b (S s k) = match step k s l0[k] with | .inl s' => some (.inl (S s' (k + 1))) | .inr r => some (.inr r))
    (he : ∀ s, b (S s l0.length) = Sh.exit (X s)) : ∀ (l : List α) (k n : Nat) (s : σ), l0.drop k = l → k ≤ l0.length → l.length < n → Sh.iter b n (S s k) = foldE step X k l s := by
  intro l
  induction l with
  | nil =>
    intro k n s hl hk hn
    have hk2 : k = l0.length := by
      have : (l0.drop k).length = 0 := by rw [hl]; rfl
      simp at this; omega
    subst hk2
    obtain ⟨n, rfl⟩ : ∃ m, n = m + 1 := ⟨n - 1, by simp at hn; omega⟩
    exact loop_exit (he s)
  | cons x l ih =>
    intro k n s hl hk hn
    have hlen : (l0.drop k).length = l.length + 1 := by rw [hl]; rfl
    have hk2 : k < l0.length := by simp at hlen; omega
    obtain ⟨n, rfl⟩ : ∃ m, n = m + 1 := ⟨n - 1, by simp at hn; omega⟩
    have hx : l0[k] = x ∧ l0.drop (k + 1) = l := by
      rw [List.drop_eq_getElem_cons hk2] at hl
      simp only [List.cons.injEq] at hl
      exact hl
    have hb := h k s hk2
    rw [hx.1] at hb
    simp only [foldE]
    cases hs : step k s x with
    | inl s' =>
      rw [hs] at hb
      rw [loop_step hb]
      exact ih (k + 1) n s' hx.2 hk2 (by simp at hn; omega)
    | inr r =>
      rw [hs] at hb
      exact loop_stop hb

theorem loop_fold {σ τ α β : Type} {b : τ → Option (τ ⊕ β)} (S : σ → Nat → τ) (step : Nat → σ → α → σ ⊕ β) (X : σ → Option β) (l : List α) (hm : l.length < Sh.FUEL)
    (h : ∀ (k : Nat) (s : σ) (hk : k < l.length), b (S s k) = match step k s l[k] with | .inl s' => some (.inl (S s' (k + 1))) | .inr r => some (.inr r))
    (he : ∀ s, b (S s l.length) = Sh.exit (X s)) (s : σ) {t : τ} (ht : t = S s 0) : Sh.loop b t = foldE step X 0 l s := by
  subst ht
  exact iter_fold S step X l h he l 0 Sh.FUEL s rfl (Nat.zero_le _) hm

theorem find_loop {α β : Type} {b : Int → Option (Int ⊕ β)} (l : List α) (p : α → Bool) (A : Nat → β) (X : Option β) (hm : l.length < Sh.FUEL)
    (h : ∀ (k : Nat) (hk : k < l.length), b (k : Int) = if p l[k] then some (.inr (A k)) else some (.inl ((k + 1 : Nat) : Int)))
    (he : b (l.length : Int) = Sh.exit X) : Sh.loop b 0 = (l.findIdx? p).elim X (fun k => some (A k)) := by
  rw [loop_fold (σ := Unit) (α := α) (fun _ k => (k : Int)) (fun k _ x => if p x then .inr (A k) else .inl ()) (fun _ => X) l hm (fun k s hk => ?_) (fun _ => he) () (t := (0 : Int)) rfl]
  · have key : ∀ (l : List α) (k : Nat), foldE (fun k (_ : Unit) x => if p x then Sum.inr (A k) else Sum.inl ()) (fun _ => X) k l () = (l.findIdx? p).elim X (fun i => some (A (k + i))) := by
      intro l
      induction l with
      | nil => intro k; simp [foldE]
      | cons x l ih =>
        intro k
        simp only [foldE, List.findIdx?_cons]
        cases hp : p x with
        | true => simp
        | false =>
          simp only [Bool.false_eq_true, if_false]
          rw [ih (k + 1)]
          cases l.findIdx? p with
          | none => rfl
          | some i => simp only [Option.map_some, Option.elim_some]; congr 2; omega
    rw [key l 0]
    simp
  · rw [h k hk]
    cases p l[k] <;> rfl

theorem any_loop {α β : Type} {b : Int → Option (Int ⊕ β)} (l : List α) (p : α → Bool) (A : β) (X : Option β) (hm : l.length < Sh.FUEL)
    (h : ∀ (k : Nat) (hk : k < l.length), b (k : Int) = if p l[k] then some (.inr A) else some (.inl ((k + 1 : Nat) : Int)))
    (he : b (l.length : Int) = Sh.exit X) : Sh.loop b 0 = if l.any p then some A else X := by
  rw [find_loop l p (fun _ => A) X hm h he]
  cases hf : l.findIdx? p with
  | none =>
    have : l.any p = false := by
      rw [List.findIdx?_eq_none_iff] at hf
      rw [List.any_eq_false]
      intro x hx
      simpa using hf x hx
    rw [this]; rfl
  | some i =>
    have : l.any p = true := by
      rw [List.any_eq_true]
      rw [List.findIdx?_eq_some_iff_getElem] at hf
      obtain ⟨hi, hp, _⟩ := hf
      exact ⟨l[i], List.getElem_mem hi, hp⟩
    rw [this]; rfl

def pos {α : Type} (l : List α) (p : α → Bool) : Int := (l.findIdx? p).elim (-1) (fun k => (k : Int))
theorem pos_some {α : Type} (l : List α) (p : α → Bool) : (l.findIdx? p).elim (some (-1 : Int)) (fun k => some (k : Int)) = some (pos l p) := by unfold pos; cases l.findIdx? p <;> rfl
theorem contains_of_find {α : Type} (l : List α) (p : α → Bool) : decide ((0 : Int) ≤ pos l p) = l.any p := by
  unfold pos
  cases hf : l.findIdx? p with
  | none =>
    have : l.any p = false := by
      rw [List.findIdx?_eq_none_iff] at hf
      rw [List.any_eq_false]
      intro x hx
      simpa using hf x hx
    rw [this]; rfl
  | some i =>
    have : l.any p = true := by
      rw [List.any_eq_true]
      rw [List.findIdx?_eq_some_iff_getElem] at hf
      obtain ⟨hi, hp, _⟩ := hf
      exact ⟨l[i], List.getElem_mem hi, hp⟩
    rw [this]; simp
end Pl
end

section
/- Whether a history may be. -/
namespace Pl
open Go Go.Av

theorem pIdx {l : List Int} (hl : l.length < 9223372036854775808) (v : Int) : G.slices_Index_int_int l v = some (pos l (fun x => decide (v = x))) := by
  unfold G.slices_Index_int_int
  rw [find_loop l (fun x => decide (v = x)) (fun k => (k : Int)) (some (-1)) (fuel_gt hl) (fun k hk => ?_) ?_, pos_some]
  · simp [G.slices_Index_int_int_b1, G.slices_Index_int_int_j1]
  · simp only [G.slices_Index_int_int_b1, dec_lt, hk, decide_true, if_true, idx_at hk, Option.bind_some, w64_succ (show k < 9223372036854775807 by omega)]
    rfl
theorem pHas {l : List Int} (hl : l.length < 9223372036854775808) (v : Int) : G.slices_Contains_int_int l v = some (l.any (fun x => decide (v = x))) := by
  unfold G.slices_Contains_int_int
  rw [pIdx hl, Option.bind_some, contains_of_find]

def rising : Int → List Int → Bool
  | _, [] => true
  | last, x :: l => decide (last < x) && decide (x < 16) && rising x l
def hasW (t : G.api_Txn) (k : Int) : Bool := t.Writes.any (fun x => decide (k = x))
def there (h : G.api_Hist) (n : Int) (x : G.api_Take) : Bool :=
  decide (x.From = -1) || (decide (0 ≤ x.From) && decide (x.From < (h.Txns.length : Int)) && decide (x.From ≠ n) && match h.Txns[x.From.toNat]? with | some t => hasW t x.Key | none => false)
def takes (h : G.api_Hist) (n : Int) : Int → List G.api_Take → Bool
  | _, [] => true
  | last, x :: l => decide (last < x.Key) && decide (x.Key < 16) && there h n x && takes h n x.Key l
def okT (h : G.api_Hist) (n : Int) (t : G.api_Txn) : Bool := rising (-1) t.Writes && takes h n (-1) t.Reads && decide (0 ≤ t.Session) && decide (t.Session < 8)
def okAll (h : G.api_Hist) : Nat → List G.api_Txn → Bool
  | _, [] => true
  | n, t :: l => okT h n t && okAll h (n + 1) l
def right (h : G.api_Hist) : Bool := decide (h.Txns.length ≤ 32) && okAll h 0 h.Txns

structure Fits (h : G.api_Hist) : Prop where
  txns : h.Txns.length < 9223372036854775807
  writes : ∀ t ∈ h.Txns, t.Writes.length < 9223372036854775807
  reads : ∀ t ∈ h.Txns, t.Reads.length < 9223372036854775807

theorem y1 (c y : Bool) : G.hist_Right__r c y = some (if y then (c, true) else (false, false)) := by cases y <;> rfl

theorem pThere {h : G.api_Hist} (hf : Fits h) (n : Int) (x : G.api_Take) {α : Type} (K : Bool → Option α) :
    (if decide (x.From = (-1)) then K true else if decide ((0 : Int) ≤ x.From) then if decide (x.From < (Sh.len h.Txns)) then if decide (x.From ≠ n) then (Sh.idx h.Txns x.From).bind fun x840 => (G.slices_Contains_int_int x840.Writes x.Key).bind fun r842 => K r842 else K false else K false else K false) = K (there h n x) := by
  unfold there
  by_cases h1 : x.From = -1
  · simp [h1]
  · by_cases h2 : 0 ≤ x.From
    · by_cases h3 : x.From < (h.Txns.length : Int)
      · by_cases h4 : x.From = n
        · subst h4; simp [h1, h2, h3]
        · have h5 : h.Txns[x.From.toNat]? = some (h.Txns[x.From.toNat]'(by omega)) := List.getElem?_eq_getElem (by omega)
          rw [idx_of h2 h3, h5]
          have := hf.writes _ (List.getElem_mem (show x.From.toNat < h.Txns.length by omega))
          have h6 := pHas (l := (h.Txns[x.From.toNat]'(by omega)).Writes) (by omega) x.Key
          simp [h1, h2, h3, h4, h6, hasW]
      · simp [h1, h2, h3]
    · simp [h1, h2]

theorem pReads {h : G.api_Hist} (hf : Fits h) (n : Int) (t : G.api_Txn) (ht : t ∈ h.Txns) (c : Bool) : G.hist_faults_1__hist_Right__r_j2 h n t c = if takes h n (-1) t.Reads then G.hist_faults_1__hist_Right__r_j3 n t c else some (.inr (false, false)) := by
  unfold G.hist_faults_1__hist_Right__r_j2
  have hl := hf.reads t ht
  rw [loop_fold (σ := Bool × Int) (fun s k => (s.1, s.2, (k : Int))) (fun _ s x => if decide (s.2 < x.Key) && decide (x.Key < 16) && there h n x then .inl (s.1, x.Key) else .inr (.inr (false, false))) (fun s => G.hist_faults_1__hist_Right__r_j3 n t s.1) t.Reads (fuel_gt (by omega)) (fun k s hk => ?_) (fun s => ?_) (c, -1) (t := (c, (-1 : Int), (0 : Int))) rfl]
  · have key : ∀ (l : List G.api_Take) (k : Nat) (last : Int), foldE (fun _ (s : Bool × Int) (x : G.api_Take) => if decide (s.2 < x.Key) && decide (x.Key < 16) && there h n x then Sum.inl (s.1, x.Key) else Sum.inr (.inr (false, false))) (fun s => G.hist_faults_1__hist_Right__r_j3 n t s.1) k l (c, last) = if takes h n last l then G.hist_faults_1__hist_Right__r_j3 n t c else some (.inr (false, false)) := by
      intro l
      induction l with
      | nil => intro k last; simp [foldE, takes]
      | cons x l ih =>
        intro k last
        simp only [foldE]
        rw [show takes h n last (x :: l) = (decide (last < x.Key) && decide (x.Key < 16) && there h n x && takes h n x.Key l) from rfl]
        by_cases hq : (decide (last < x.Key) && decide (x.Key < 16) && there h n x) = true
        · rw [if_pos hq, hq, Bool.true_and]; exact ih (k + 1) x.Key
        · rw [if_neg hq, Bool.eq_false_iff.2 hq]; simp
    exact key t.Reads 0 (-1)
  · obtain ⟨c, last⟩ := s
    simp only [G.hist_faults_1__hist_Right__r_b2, dec_lt, hk, decide_true, if_true, idx_at hk, Option.bind_some]
    rw [pThere hf n t.Reads[k] (fun b => G.hist_faults_1__hist_Right__r_j4 c last k t.Reads[k] b)]
    simp only [G.hist_faults_1__hist_Right__r_j4, y1, G.hist_faults_1__hist_Right__r_j5, w64_succ (show k < 9223372036854775807 by omega), Option.bind_some]
    by_cases h1 : last < t.Reads[k].Key
    · by_cases h2 : t.Reads[k].Key < 16
      · cases h3 : there h n t.Reads[k] <;> simp [h1, h2, Sh.exit, Sh.next]
      · simp [h1, h2, Sh.exit]
    · simp [h1, Sh.exit]
  · simp [G.hist_faults_1__hist_Right__r_b2]

theorem pWrites {h : G.api_Hist} (hf : Fits h) (n : Nat) (hn : n < 9223372036854775807) (t : G.api_Txn) (ht : t ∈ h.Txns) (c : Bool) :
    Sh.loop (fun (p : Bool × Int × Int) => G.hist_faults_1__hist_Right__r_b3 h n t p.1 p.2.1 p.2.2) (c, (-1), 0) = if okT h n t then some (.inl (c, ((n + 1 : Nat) : Int))) else some (.inr (false, false)) := by
  have hl := hf.writes t ht
  rw [loop_fold (σ := Bool × Int) (fun s k => (s.1, s.2, (k : Int))) (fun _ s x => if decide (s.2 < x) && decide (x < 16) then .inl (s.1, x) else .inr (.inr (false, false))) (fun s => G.hist_faults_1__hist_Right__r_j2 h n t s.1) t.Writes (fuel_gt (by omega)) (fun k s hk => ?_) (fun s => ?_) (c, -1) (t := (c, (-1 : Int), (0 : Int))) rfl]
  · have key : ∀ (l : List Int) (k : Nat) (last : Int), foldE (fun _ (s : Bool × Int) (x : Int) => if decide (s.2 < x) && decide (x < 16) then Sum.inl (s.1, x) else Sum.inr (.inr (false, false))) (fun s => G.hist_faults_1__hist_Right__r_j2 h n t s.1) k l (c, last) = if rising last l then G.hist_faults_1__hist_Right__r_j2 h n t c else some (.inr (false, false)) := by
      intro l
      induction l with
      | nil => intro k last; simp [foldE, rising]
      | cons x l ih =>
        intro k last
        simp only [foldE]
        rw [show rising last (x :: l) = (decide (last < x) && decide (x < 16) && rising x l) from rfl]
        by_cases hq : (decide (last < x) && decide (x < 16)) = true
        · rw [if_pos hq, hq, Bool.true_and]; exact ih (k + 1) x
        · rw [if_neg hq, Bool.eq_false_iff.2 hq]; simp
    rw [key t.Writes 0 (-1), pReads hf n t ht]
    unfold okT
    cases h1 : rising (-1) t.Writes
    · simp
    · cases h2 : takes h n (-1) t.Reads
      · simp
      · simp only [G.hist_faults_1__hist_Right__r_j3, y1, G.hist_faults_1__hist_Right__r_j1, w64_succ hn, Option.bind_some]
        by_cases h3 : 0 ≤ t.Session
        · by_cases h4 : t.Session < 8 <;> simp [h3, h4, Sh.exit, Sh.next]
        · simp [h3, Sh.exit]
  · obtain ⟨c, last⟩ := s
    simp only [G.hist_faults_1__hist_Right__r_b3, dec_lt, hk, decide_true, if_true, idx_at hk, Option.bind_some, y1, G.hist_faults_1__hist_Right__r_j6, w64_succ (show k < 9223372036854775807 by omega)]
    by_cases h1 : last < t.Writes[k]
    · by_cases h2 : t.Writes[k] < 16 <;> simp [h1, h2, Sh.exit, Sh.next]
    · simp [h1, Sh.exit]
  · simp [G.hist_faults_1__hist_Right__r_b3]

theorem pRight {h : G.api_Hist} (hf : Fits h) : G.hist_Right h = some (right h) := by
  have hl := hf.txns
  have hloop : ∀ c, Sh.loop (fun (p : Bool × Int) => G.hist_faults_1__hist_Right__r_b1 h p.1 p.2) (c, 0) = if okAll h 0 h.Txns then some (c, true) else some (false, false) := by
    intro c
    rw [loop_fold (σ := Bool) (fun s k => (s, (k : Int))) (fun k s x => if okT h k x then .inl s else .inr (false, false)) (fun s => some (s, true)) h.Txns (fuel_gt (by omega)) (fun k s hk => ?_) (fun s => ?_) c (t := (c, (0 : Int))) rfl]
    · have key : ∀ (l : List G.api_Txn) (k : Nat), foldE (fun k (s : Bool) (x : G.api_Txn) => if okT h (k : Nat) x then Sum.inl s else Sum.inr (false, false)) (fun s => some (s, true)) k l c = if okAll h k l then some (c, true) else some (false, false) := by
        intro l
        induction l with
        | nil => intro k; simp [foldE, okAll]
        | cons x l ih =>
          intro k
          simp only [foldE]
          rw [show okAll h k (x :: l) = (okT h (k : Nat) x && okAll h (k + 1) l) from rfl]
          by_cases hq : okT h (k : Nat) x = true
          · rw [if_pos hq, hq, Bool.true_and]; exact ih (k + 1)
          · rw [if_neg hq, Bool.eq_false_iff.2 hq]; simp
      exact key h.Txns 0
    · simp only [G.hist_faults_1__hist_Right__r_b1, dec_lt, hk, decide_true, if_true, idx_at hk, Option.bind_some]
      rw [pWrites hf k (by omega) _ (List.getElem_mem hk)]
      cases okT h k h.Txns[k] <;> rfl
    · simp [G.hist_faults_1__hist_Right__r_b1]
  unfold G.hist_Right G.hist_faults G.hist_faults_1__hist_Right__r right
  simp only [Option.bind_some, y1, len_eq]
  by_cases h1 : h.Txns.length ≤ 32
  · have h2 : ((h.Txns.length : Int) ≤ 32) := by omega
    simp only [h1, h2, decide_true, if_true, hloop, Bool.true_and]
    cases okAll h 0 h.Txns <;> simp
  · have h2 : ¬ ((h.Txns.length : Int) ≤ 32) := by omega
    simp [h1, h2]

theorem rWrites {t : G.api_Txn} (hl : t.Writes.length < 9223372036854775807) (k : Int) : G.inquestref08_Writes t k = some (hasW t k) := by
  unfold G.inquestref08_Writes hasW
  rw [any_loop t.Writes (fun x => decide (k = x)) true (some false) (fuel_gt (by omega)) (fun i hi => ?_) ?_]
  · cases t.Writes.any (fun x => decide (k = x)) <;> rfl
  · simp [G.inquestref08_Writes_b1, G.inquestref08_Writes_j1]
  · simp only [G.inquestref08_Writes_b1, dec_lt, hi, decide_true, if_true, idx_at hi, Option.bind_some, w64_succ (show i < 9223372036854775807 by omega), Sh.exit, Sh.next, Option.map_some]
    by_cases h1 : t.Writes[i] = k
    · simp [h1]
    · have : ¬ k = t.Writes[i] := fun h => h1 h.symm
      simp [h1, this]
end Pl
end

section
/- Edges, one by one: what the program and the reference answer. -/


namespace Pl
open Go Go.Av

def tx (h : G.api_Hist) (x : Int) : G.api_Txn := (h.Txns[x.toNat]?).getD default
def inr (h : G.api_Hist) (x : Int) : Bool := decide (0 ≤ x) && decide (x < (h.Txns.length : Int))
theorem inr_iff {h : G.api_Hist} {x : Int} : inr h x = true ↔ 0 ≤ x ∧ x < (h.Txns.length : Int) := by simp [inr]
theorem idx_tx {h : G.api_Hist} {x : Int} (hx : inr h x = true) : Sh.idx h.Txns x = some (tx h x) := by
  rw [inr_iff] at hx
  rw [idx_of hx.1 hx.2]
  simp [tx, List.getElem?_eq_getElem (show x.toNat < h.Txns.length by omega)]
theorem tx_mem {h : G.api_Hist} {x : Int} (hx : inr h x = true) : tx h x ∈ h.Txns := by
  rw [inr_iff] at hx
  simp only [tx, List.getElem?_eq_getElem (show x.toNat < h.Txns.length by omega), Option.getD_some]
  exact List.getElem_mem _

def isW (h : G.api_Hist) (x y : Int) (c : G.api_Choice) : Bool := decide (c.A = x) && decide (c.B = y) && decide (x ≠ y) && hasW (tx h x) c.Key && hasW (tx h y) c.Key
def dirS (h : G.api_Hist) (l : List G.api_Choice) (x y : Int) : Bool :=
  (decide (x < y) && decide ((tx h x).Session = (tx h y).Session)) || (tx h y).Reads.any (fun r => decide (r.From = x)) || l.any (isW h x y)
def isO (h : G.api_Hist) (l : List G.api_Choice) (y : Int) (r : G.api_Take) : Bool :=
  hasW (tx h y) r.Key && (decide (r.From < 0) || (decide (r.From ≠ y) && l.any (fun c => decide (G.api_Choice.mk r.Key r.From y = c))))
def antS (h : G.api_Hist) (l : List G.api_Choice) (x y : Int) : Bool := decide (x ≠ y) && (tx h x).Reads.any (isO h l y)
def two (h : G.api_Hist) (x y : Int) : Bool := right h && inr h x && inr h y
def direct (h : G.api_Hist) (l : List G.api_Choice) (x y : Int) : Bool := two h x y && dirS h l x y
def anti (h : G.api_Hist) (l : List G.api_Choice) (x y : Int) : Bool := two h x y && antS h l x y
def edge (h : G.api_Hist) (lev : Int) (l : List G.api_Choice) (x y : Int) : Bool :=
  if lev = 0 then direct h l x y || anti h l x y
  else if lev = 1 then (List.range h.Txns.length).any (fun m => direct h l x m && (decide ((m : Int) = y) || anti h l m y))
  else false
end Pl
end

section
/- Rings of edges, and what the reference answers of edges. -/
namespace Pl
open Go Go.Av

end Pl
end

section
/- The reference's word on histories: whether one may be, and whether it is small. -/
namespace Pl
open Go Go.Av

def climbs {α : Type} (key : α → Int) (ok : α → Bool) : Int → List α → Bool
  | _, [] => true
  | last, x :: l => decide (last < key x) && decide (key x < 16) && ok x && climbs key ok (key x) l
theorem rising_eq : ∀ (l : List Int) (last : Int), rising last l = climbs id (fun _ => true) last l
  | [], _ => rfl
  | x :: l, last => by
    rw [show rising last (x :: l) = (decide (last < x) && decide (x < 16) && rising x l) from rfl, rising_eq l x]
    simp [climbs]
theorem takes_eq (h : G.api_Hist) (n : Int) : ∀ (l : List G.api_Take) (last : Int), takes h n last l = climbs (·.Key) (there h n) last l
  | [], _ => rfl
  | x :: l, last => by
    rw [show takes h n last (x :: l) = (decide (last < x.Key) && decide (x.Key < 16) && there h n x && takes h n x.Key l) from rfl, takes_eq h n l x.Key]
    rfl
theorem climbs_iff {α : Type} {key : α → Int} {ok : α → Bool} : ∀ {l : List α} {last : Int}, climbs key ok last l = true ↔
    ∀ k (hk : k < l.length), key l[k] < 16 ∧ ok l[k] = true ∧ (if h0 : k = 0 then last < key l[k] else key (l[k - 1]'(by omega)) < key l[k])
  | [], last => by simp [climbs]
  | x :: l, last => by
    simp only [climbs, Bool.and_eq_true, decide_eq_true_eq, climbs_iff (l := l)]
    constructor
    · rintro ⟨⟨⟨h1, h2⟩, h3⟩, h4⟩ k hk
      cases k with
      | zero => exact ⟨h2, h3, by simpa using h1⟩
      | succ k =>
        have := h4 k (by simpa using hk)
        refine ⟨by simpa using this.1, by simpa using this.2.1, ?_⟩
        have h5 := this.2.2
        rw [dif_neg (by omega)]
        cases k with
        | zero => simpa using h5
        | succ k => simpa using h5
    · intro h
      have h0 := h 0 (by simp)
      refine ⟨⟨⟨by simpa using h0.2.2, by simpa using h0.1⟩, by simpa using h0.2.1⟩, fun k hk => ?_⟩
      have := h (k + 1) (by simpa using hk)
      refine ⟨by simpa using this.1, by simpa using this.2.1, ?_⟩
      have h5 := this.2.2
      rw [dif_neg (by omega)] at h5
      cases k with
      | zero => simpa using h5
      | succ k => simpa using h5
def step {α : Type} (key : α → Int) (ok : α → Bool) (l : List α) (k : Nat) : Bool :=
  match l[k]? with
  | none => true
  | some x => decide (0 ≤ key x) && decide (key x < 16) && ok x && (decide (k = 0) || match l[k - 1]? with | none => true | some y => decide (key y < key x))
theorem climbs_step {α : Type} (key : α → Int) (ok : α → Bool) (l : List α) : decide (∀ k, k < l.length → step key ok l k = true) = climbs key ok (-1) l := by
  rw [Bool.eq_iff_iff, decide_eq_true_eq, climbs_iff]
  constructor
  · intro h k hk
    have h1 := h k hk
    simp only [step, List.getElem?_eq_getElem hk, Bool.and_eq_true, decide_eq_true_eq, Bool.or_eq_true] at h1
    refine ⟨h1.1.1.2, h1.1.2, ?_⟩
    split
    · have := h1.1.1.1; omega
    · have h2 := h1.2.resolve_left (by assumption)
      rw [List.getElem?_eq_getElem (show k - 1 < l.length by omega)] at h2
      simpa using h2
  · intro h
    have pos : ∀ k (hk : k < l.length), 0 ≤ key l[k] := by
      intro k
      induction k with
      | zero =>
        intro hk
        have := (h 0 hk).2.2
        rw [dif_pos rfl] at this; omega
      | succ k ih =>
        intro hk
        have h1 := ih (by omega)
        have := (h (k + 1) hk).2.2
        rw [dif_neg (by omega)] at this
        simp only [Nat.add_sub_cancel] at this
        omega
    intro k hk
    obtain ⟨h1, h2, h3⟩ := h k hk
    simp only [step, List.getElem?_eq_getElem hk, Bool.and_eq_true, decide_eq_true_eq, Bool.or_eq_true]
    refine ⟨⟨⟨pos k hk, h1⟩, h2⟩, ?_⟩
    by_cases h0 : k = 0
    · exact .inl h0
    · rw [dif_neg h0] at h3
      rw [List.getElem?_eq_getElem (show k - 1 < l.length by omega)]
      exact .inr (by simpa using h3)
theorem step_at {α : Type} (key : α → Int) (ok : α → Bool) (l : List α) (k : Nat) (hk : k < l.length) :
    step key ok l k = (decide (0 ≤ key l[k]) && decide (key l[k] < 16) && ok l[k] && (if h0 : k = 0 then true else decide (key (l[k - 1]'(by omega)) < key l[k]))) := by
  unfold step
  rw [List.getElem?_eq_getElem hk]
  by_cases h0 : k = 0
  · subst h0; simp
  · rw [List.getElem?_eq_getElem (show k - 1 < l.length by omega)]
    simp [h0]

theorem w64_pred {k : Nat} (h0 : 0 < k) (h : k < 9223372036854775807) : w64 ((k : Int) - 1) = ((k - 1 : Nat) : Int) := by
  rw [w64_id (by omega) (by omega)]; omega
theorem rThere {h : G.api_Hist} (hf : Fits h) (n : Nat) (x : G.api_Take) : there h n x = (!(decide (x.From < -1) || decide ((h.Txns.length : Int) ≤ x.From) || decide (x.From = n)) && (decide (x.From < 0) || match h.Txns[x.From.toNat]? with | some t => hasW t x.Key | none => false)) := by
  unfold there
  by_cases a : x.From = -1
  · have h1 : ¬ ((-1 : Int) = n) := by omega
    have h2 : ¬ ((h.Txns.length : Int) ≤ -1) := by omega
    simp [a, h1, h2]
  · by_cases b : 0 ≤ x.From
    · have h1 : ¬ x.From < -1 := by omega
      have h2 : ¬ x.From < 0 := by omega
      by_cases c : x.From < (h.Txns.length : Int)
      · have h3 : ¬ ((h.Txns.length : Int) ≤ x.From) := by omega
        by_cases d : x.From = n <;> simp [a, b, c, d, h1, h2, h3]
      · have h3 : ((h.Txns.length : Int) ≤ x.From) := by omega
        simp [a, b, c, h3]
    · have h1 : x.From < -1 := by omega
      simp [a, b, h1]
theorem rOneT {h : G.api_Hist} (hf : Fits h) {n : Nat} (hn : n < h.Txns.length) : G.inquestref08_one h n = some (okT h n h.Txns[n]) := by
  have hw := hf.writes _ (List.getElem_mem hn)
  have hr := hf.reads _ (List.getElem_mem hn)
  have hreads : G.inquestref08_one_j2 h n h.Txns[n] = some (takes h n (-1) (h.Txns[n]).Reads) := by
    unfold G.inquestref08_one_j2
    rw [takes_eq, ← climbs_step]
    refine scan_true (h.Txns[n]).Reads.length (step (·.Key) (there h n) (h.Txns[n]).Reads) (fuel_gt (by omega)) (fun k hk => ?_) ?_
    · have h5 : ∀ b : Bool, (b = false → ((h.Txns[n]).Reads[k]).From < (h.Txns.length : Int)) → G.inquestref08_one_j5 h k ((h.Txns[n]).Reads[k]) b = if !b && (decide (((h.Txns[n]).Reads[k]).From < 0) || match h.Txns[((h.Txns[n]).Reads[k]).From.toNat]? with | some t => hasW t ((h.Txns[n]).Reads[k]).Key | none => false) then some (.inl ((k + 1 : Nat) : Int)) else some (.inr false) := fun b hb => by
        unfold G.inquestref08_one_j5
        cases b with
        | true => simp [Sh.exit]
        | false =>
          have hlt := hb rfl
          by_cases a : ((h.Txns[n]).Reads[k]).From < 0
          · simp [a, G.inquestref08_one_j4, w64_succ (show k < 9223372036854775807 by omega), Sh.next]
          · have hi : ((h.Txns[n]).Reads[k]).From.toNat < h.Txns.length := by omega
            rw [idx_of (by omega) hlt, List.getElem?_eq_getElem hi]
            simp only [a, decide_false, Bool.false_eq_true, if_false, Option.bind_some, rWrites (hf.writes _ (List.getElem_mem hi)), G.inquestref08_one_j4, w64_succ (show k < 9223372036854775807 by omega), Sh.exit, Sh.next, Option.map_some, Bool.not_false, Bool.true_and, Bool.false_or]
            cases hasW h.Txns[((h.Txns[n]).Reads[k]).From.toNat] ((h.Txns[n]).Reads[k]).Key <;> simp
      simp only [G.inquestref08_one_b1, dec_lt, hk, decide_true, if_true, idx_at hk, Option.bind_some, step_at _ _ _ k hk, rThere hf]
      by_cases a0 : ((h.Txns[n]).Reads[k]).Key < 0
      · rw [if_pos (by simpa using a0), h5 _ (by simp)]
        have : ¬ 0 ≤ ((h.Txns[n]).Reads[k]).Key := by omega
        simp [this]
      rw [if_neg (by simpa using a0)]
      by_cases a1 : 15 < ((h.Txns[n]).Reads[k]).Key
      · rw [if_pos (by simpa using a1), h5 _ (by simp)]
        have : ¬ ((h.Txns[n]).Reads[k]).Key < 16 := by omega
        simp [this]
      rw [if_neg (by simpa using a1)]
      have b0 : 0 ≤ ((h.Txns[n]).Reads[k]).Key := by omega
      have b1 : ((h.Txns[n]).Reads[k]).Key < 16 := by omega
      have tail : (if decide (((h.Txns[n]).Reads[k]).From < (-1)) then G.inquestref08_one_j5 h k ((h.Txns[n]).Reads[k]) true else if decide ((Sh.len h.Txns) ≤ ((h.Txns[n]).Reads[k]).From) then G.inquestref08_one_j5 h k ((h.Txns[n]).Reads[k]) true else G.inquestref08_one_j5 h k ((h.Txns[n]).Reads[k]) (decide (((h.Txns[n]).Reads[k]).From = n)))
          = if there h n ((h.Txns[n]).Reads[k]) then some (.inl ((k + 1 : Nat) : Int)) else some (.inr false) := by
        rw [rThere hf]
        by_cases c : ((h.Txns[n]).Reads[k]).From < -1
        · rw [if_pos (by simpa using c), h5 _ (by simp)]
          simp [c]
        rw [if_neg (by simpa using c)]
        by_cases d : (h.Txns.length : Int) ≤ ((h.Txns[n]).Reads[k]).From
        · rw [if_pos (by simpa using d), h5 _ (by simp)]
          simp [d]
        rw [if_neg (by simpa using d), h5 _ (fun _ => by omega)]
        simp [c, d]
      rw [tail, rThere hf]
      cases k with
      | zero => simp [b0, b1]
      | succ k =>
        have hk2 : k < (h.Txns[n]).Reads.length := by omega
        rw [if_pos (by simp), w64_pred (by omega) (by omega), idx_at (show k + 1 - 1 < _ by omega)]
        simp only [Nat.add_sub_cancel, Option.bind_some]
        by_cases e : ((h.Txns[n]).Reads[k + 1]).Key ≤ ((h.Txns[n]).Reads[k]).Key
        · rw [if_pos (by simpa using e), h5 _ (by simp)]
          have : ¬ ((h.Txns[n]).Reads[k]).Key < ((h.Txns[n]).Reads[k + 1]).Key := by omega
          simp [this]
        · rw [if_neg (by simpa using e)]
          have : ((h.Txns[n]).Reads[k]).Key < ((h.Txns[n]).Reads[k + 1]).Key := by omega
          simp [this, b0, b1]
    · simp [G.inquestref08_one_b1, G.inquestref08_one_j3, Sh.exit]
  have hwrites : Sh.loop (fun (p : Int) => G.inquestref08_one_b2 h n h.Txns[n] p) 0 = some (rising (-1) (h.Txns[n]).Writes && takes h n (-1) (h.Txns[n]).Reads) := by
    have h6 : ∀ (k : Nat) (b : Bool), k < 9223372036854775807 → G.inquestref08_one_j6 k b = if b then some (.inr false) else some (.inl ((k + 1 : Nat) : Int)) := fun k b hk => by
      unfold G.inquestref08_one_j6
      rw [w64_succ hk]
      cases b <;> rfl
    have := scan0 (b := fun (p : Int) => G.inquestref08_one_b2 h n h.Txns[n] p) (h.Txns[n]).Writes.length (step id (fun _ => true) (h.Txns[n]).Writes) (takes h n (-1) (h.Txns[n]).Reads) false (fuel_gt (by omega)) (fun k hk => ?_) ?_
    · rw [this, rising_eq, ← climbs_step]
      by_cases hq : ∀ k, k < (h.Txns[n]).Writes.length → step id (fun _ => true) (h.Txns[n]).Writes k = true
      · rw [if_pos hq, decide_eq_true hq, Bool.true_and]
      · rw [if_neg hq, decide_eq_false hq, Bool.false_and]
    · simp only [G.inquestref08_one_b2, dec_lt, hk, decide_true, if_true, idx_at hk, Option.bind_some, step_at _ _ _ k hk, h6 k _ (by omega), id]
      by_cases a0 : (h.Txns[n]).Writes[k] < 0
      · have : ¬ 0 ≤ (h.Txns[n]).Writes[k] := by omega
        simp [a0, this]
      rw [if_neg (by simpa using a0)]
      by_cases a1 : 15 < (h.Txns[n]).Writes[k]
      · have : ¬ (h.Txns[n]).Writes[k] < 16 := by omega
        simp [a1, this]
      rw [if_neg (by simpa using a1)]
      have b0 : 0 ≤ (h.Txns[n]).Writes[k] := by omega
      have b1 : (h.Txns[n]).Writes[k] < 16 := by omega
      cases k with
      | zero => simp [b0, b1]
      | succ k =>
        have hk2 : k < (h.Txns[n]).Writes.length := by omega
        rw [if_pos (by simp), w64_pred (by omega) (by omega), idx_at (show k + 1 - 1 < _ by omega)]
        simp only [Nat.add_sub_cancel, Option.bind_some]
        by_cases e : (h.Txns[n]).Writes[k + 1] ≤ (h.Txns[n]).Writes[k]
        · have : ¬ (h.Txns[n]).Writes[k] < (h.Txns[n]).Writes[k + 1] := by omega
          simp [e, this]
        · have : (h.Txns[n]).Writes[k] < (h.Txns[n]).Writes[k + 1] := by omega
          simp [e, this, b0, b1]
    · simp only [G.inquestref08_one_b2, dec_lt, Nat.lt_irrefl, decide_false, Bool.false_eq_true, if_false, hreads]
      rfl
  unfold G.inquestref08_one G.inquestref08_one_j1
  rw [idx_at hn]
  simp only [Option.bind_some, hwrites]
  unfold okT
  by_cases a : (h.Txns[n]).Session < 0
  · have : ¬ 0 ≤ (h.Txns[n]).Session := by omega
    simp [a, this]
  · have a2 : 0 ≤ (h.Txns[n]).Session := by omega
    by_cases b : 7 < (h.Txns[n]).Session
    · have : ¬ (h.Txns[n]).Session < 8 := by omega
      simp [a, b, this]
    · have b2 : (h.Txns[n]).Session < 8 := by omega
      simp [a, b, a2, b2]
theorem okAll_iff (h : G.api_Hist) : ∀ (l : List G.api_Txn) (n : Nat), okAll h n l = decide (∀ k (hk : k < l.length), okT h ((n + k : Nat) : Int) l[k] = true)
  | [], n => by simp [okAll]
  | t :: l, n => by
    rw [show okAll h n (t :: l) = (okT h (n : Nat) t && okAll h (n + 1) l) from rfl, okAll_iff h l (n + 1), Bool.eq_iff_iff, Bool.and_eq_true, decide_eq_true_eq, decide_eq_true_eq]
    constructor
    · rintro ⟨h1, h2⟩ k hk
      cases k with
      | zero => simpa using h1
      | succ k =>
        have := h2 k (by simpa using hk)
        rw [show n + 1 + k = n + (k + 1) by omega] at this
        simpa using this
    · intro h1
      refine ⟨h1 0 (by simp), fun k hk => ?_⟩
      have := h1 (k + 1) (by simpa using hk)
      rw [show n + 1 + k = n + (k + 1) by omega]
      simpa using this
theorem rRight {h : G.api_Hist} (hf : Fits h) : G.inquestref08_Right h = some (right h) := by
  unfold G.inquestref08_Right right
  by_cases h1 : h.Txns.length ≤ 32
  · have h2 : ¬ (32 : Int) < (h.Txns.length : Int) := by omega
    simp only [Sh.len, h2, decide_false, Bool.false_eq_true, if_false, h1, decide_true, Bool.true_and]
    rw [okAll_iff]
    have := scan_true (b := fun (p : Int) => G.inquestref08_Right_b1 h p) h.Txns.length (fun k => match h.Txns[k]? with | some t => okT h k t | none => true) (fuel_gt (by omega)) (fun k hk => ?_) ?_
    · rw [this]
      congr 2
      refine propext ⟨fun h3 k hk => ?_, fun h3 k hk => ?_⟩
      · have := h3 k hk
        simp only [List.getElem?_eq_getElem hk] at this
        simpa using this
      · simp only [List.getElem?_eq_getElem hk]
        simpa using h3 k hk
    · simp only [G.inquestref08_Right_b1, dec_lt, hk, decide_true, if_true, rOneT hf hk, Option.bind_some, List.getElem?_eq_getElem hk, w64_succ (show k < 9223372036854775807 by omega)]
      cases okT h k h.Txns[k] <;> simp [Sh.exit, Sh.next]
    · simp [G.inquestref08_Right_b1, G.inquestref08_Right_j1, Sh.exit]
  · have h2 : (32 : Int) < (h.Txns.length : Int) := by omega
    simp [Sh.len, h2, h1]

theorem dec_len_gt {α : Type} (l : List α) : decide ((20 : Int) < Sh.len l) = !decide (l.length ≤ 20) := by
  by_cases h : l.length ≤ 20 <;> simp [h, Sh.len] <;> omega
def few (h : G.api_Hist) (m : Int) : Bool := decide ((h.Txns.length : Int) ≤ m) && h.Txns.all (fun t => decide (t.Writes.length ≤ 20) && decide (t.Reads.length ≤ 20))
theorem rFew {h : G.api_Hist} {m : Int} (hm : m < 9223372036854775807) : G.inquestref08_Few h m = some (few h m) := by
  unfold G.inquestref08_Few few
  by_cases h1 : (h.Txns.length : Int) ≤ m
  · have h2 : ¬ m < (h.Txns.length : Int) := by omega
    simp only [Sh.len, h2, decide_false, Bool.false_eq_true, if_false, h1, decide_true, Bool.true_and]
    rw [any_loop h.Txns (fun t => !(decide (t.Writes.length ≤ 20) && decide (t.Reads.length ≤ 20))) false (some true) (fuel_gt (by omega)) (fun k hk => ?_) ?_]
    · rw [List.any_eq_not_all_not]
      simp only [Bool.not_not]
      cases h.Txns.all (fun t => decide (t.Writes.length ≤ 20) && decide (t.Reads.length ≤ 20)) <;> rfl
    · simp [G.inquestref08_Few_b1, G.inquestref08_Few_j1]
    · simp only [G.inquestref08_Few_b1, dec_lt, hk, decide_true, if_true, idx_at hk, Option.bind_some, dec_len_gt, G.inquestref08_Few_j2, w64_succ (show k < 9223372036854775807 by omega), Sh.exit, Sh.next, Option.map_some]
      by_cases a : (h.Txns[k]).Writes.length ≤ 20 <;> by_cases b : (h.Txns[k]).Reads.length ≤ 20 <;> simp [a, b]
  · have h2 : m < (h.Txns.length : Int) := by omega
    simp [Sh.len, h2, h1]
theorem few_fits {h : G.api_Hist} {m : Int} (hm : m < 9223372036854775807) (hf : few h m = true) : Fits h := by
  simp only [few, Bool.and_eq_true, decide_eq_true_eq, List.all_eq_true] at hf
  exact ⟨by omega, fun t ht => by have := (hf.2 t ht).1; omega, fun t ht => by have := (hf.2 t ht).2; omega⟩
end Pl
end

section
/- Law 19, first half: edges as the reference sees them; what one more choice adds. -/

namespace Pl
open Go Go.Av

def one (h : G.api_Hist) (c : G.api_Choice) : Bool := decide (c.A ≠ c.B) && inr h c.A && inr h c.B && hasW (tx h c.A) c.Key && hasW (tx h c.B) c.Key
theorem pOne1 {h : G.api_Hist} (hf : Fits h) (x k : Int) : G.choice_Right_1__1 x k h = some (inr h x && hasW (tx h x) k) := by
  unfold G.choice_Right_1__1
  by_cases hx : inr h x = true
  · obtain ⟨a, b⟩ := inr_iff.1 hx
    have := hf.writes _ (tx_mem hx)
    rw [if_pos (by simpa using a), if_pos (by simpa [Sh.len] using b), idx_tx hx, Option.bind_some, pHas (by omega), Option.bind_some, hx]
    rfl
  · have h1 : inr h x = false := by simpa using hx
    rw [h1]
    unfold inr at h1
    by_cases a : 0 ≤ x <;> by_cases b : x < (h.Txns.length : Int) <;> simp [a, b, Sh.len] at h1 ⊢
theorem pOne2 {h : G.api_Hist} (hf : Fits h) (c : G.api_Choice) : G.choice_Right_2__1 c h = some (!one h c) := by
  unfold G.choice_Right_2__1 one
  rw [pOne1 hf, pOne1 hf]
  simp only [Option.bind_some]
  by_cases a : c.A = c.B
  · simp [a]
  · simp only [a, decide_false, Bool.false_eq_true, if_false, ne_eq, not_false_eq_true, decide_true, Bool.true_and]
    cases inr h c.A <;> cases hasW (tx h c.A) c.Key <;> cases inr h c.B <;> cases hasW (tx h c.B) c.Key <;> rfl
theorem pChoice {h : G.api_Hist} (hf : Fits h) {l : List G.api_Choice} (hl : l.length ≤ 20000) : G.choice_Right h l = some (right h && l.all (one h)) := by
  unfold G.choice_Right G.choice_Right_j1
  rw [pRight hf]
  simp only [Option.bind_some]
  have hd : decide ((20000 : Int) < Sh.len l) = false := by simp [Sh.len]; omega
  rw [hd]
  have : G.slices_ContainsFunc_api_Choice_api_Choice__choice_Right_2 l h = some (!(l.all (one h))) := by
    unfold G.slices_ContainsFunc_api_Choice_api_Choice__choice_Right_2 G.slices_IndexFunc_api_Choice_api_Choice__choice_Right_2
    rw [find_loop l (fun c => !one h c) (fun k => (k : Int)) (some (-1)) (fuel_gt (by omega)) (fun k hk => ?_) ?_, pos_some, Option.bind_some, contains_of_find]
    · rw [List.any_eq_not_all_not]; simp
    · simp [G.slices_IndexFunc_api_Choice_api_Choice__choice_Right_2_b1, G.slices_IndexFunc_api_Choice_api_Choice__choice_Right_2_j1]
    · simp only [G.slices_IndexFunc_api_Choice_api_Choice__choice_Right_2_b1, dec_lt, hk, decide_true, if_true, idx_at hk, Option.bind_some, pOne2 hf, w64_succ (show k < 9223372036854775807 by omega)]
      rfl
  rw [this]
  cases right h <;> simp

end Pl
end

section
/- Facts: what follows from what; the program's answer and the reference's. -/


namespace Pl
open Go Go.Av

def back (c : G.api_Choice) : G.api_Choice := ⟨c.Key, c.B, c.A⟩
def may (h : G.api_Hist) (lev : Int) : Bool := right h && (decide (lev = 0) || decide (lev = 1))
theorem rSame {a : List G.api_Choice} (hl : a.length ≤ 1000000) : G.inquestref09_Choices a a = some true := by
  unfold G.inquestref09_Choices
  simp only [ne_eq, not_true, decide_false, Bool.false_eq_true, if_false]
  refine count0 a.length true (fuel_gt (by omega)) (fun k hk => ?_) ?_
  · simp only [G.inquestref09_Choices_b1, dec_lt, hk, decide_true, if_true, idx_at hk, Option.bind_some, w64_succ (show k < 9223372036854775807 by omega), Bool.not_true, Bool.false_eq_true, if_false]
    rfl
  · simp [G.inquestref09_Choices_b1, G.inquestref09_Choices_j1, Sh.exit]
end Pl
end

section
/- Sets of numbers as bits: the program's functions, and the reference's, say the same. -/
namespace Pl
open Go Go.Av

@[simp] theorem bits_bit (i : Int) : G.bits_bit i = some (Bv.bit i) := by
  unfold G.bits_bit G.bits_bit_j1 Bv.bit
  by_cases h : i < 0
  · simp [h]; omega
  · by_cases h2 : 64 ≤ i
    · simp [h, h2]; omega
    · simp [h, h2, Sh.shl, show 0 ≤ i by omega, show i < 64 by omega]
@[simp] theorem bits_With (s : BitVec 64) (i : Int) : G.bits_With s i = some (s ||| Bv.bit i) := by simp [G.bits_With]
theorem has_bit (s : BitVec 64) (i : Int) : decide ((s &&& Bv.bit i) ≠ 0#64) = Bv.has s i := by
  unfold Bv.bit Bv.has
  by_cases h : 0 ≤ i ∧ i < 64
  · rw [if_pos h]
    simp only [h.1, h.2, decide_true, Bool.true_and]
    obtain ⟨k, rfl⟩ : ∃ k : Nat, i = k := ⟨i.toNat, by omega⟩
    have hk : k < 64 := by omega
    simp only [Int.toNat_natCast]
    cases hb : s.getLsbD k with
    | true =>
      rw [decide_eq_true_eq]
      intro h0
      have := congrArg (fun x : BitVec 64 => x.getLsbD k) h0
      simp only [BitVec.getLsbD_and, BitVec.getLsbD_shiftLeft, hk, hb, BitVec.getLsbD_zero] at this
      simp [BitVec.getLsbD_one] at this
    | false =>
      rw [decide_eq_false_iff_not]
      refine not_not_intro ?_
      apply Bv.ext
      intro j hj
      simp only [BitVec.getLsbD_and, BitVec.getLsbD_shiftLeft, hj, decide_true, Bool.true_and, BitVec.getLsbD_zero]
      by_cases hjk : j = k
      · subst hjk; simp [hb]
      · by_cases hlt : j < k
        · simp [hlt]
        · simp [hlt, BitVec.getLsbD_one]; omega
  · rw [if_neg h]
    simp only [BitVec.and_zero, ne_eq, not_true_eq_false, decide_false]
    by_cases h0 : 0 ≤ i
    · have : ¬ i < 64 := fun h1 => h ⟨h0, h1⟩
      simp [this]
    · simp [h0]
@[simp] theorem bits_Has (s : BitVec 64) (i : Int) : G.bits_Has s i = some (Bv.has s i) := by
  simp only [G.bits_Has, bits_bit, Option.bind_some, has_bit]
@[simp] theorem bits_Sub (a b : BitVec 64) : G.bits_Sub a b = some (decide (a &&& ~~~b = 0#64)) := rfl

def join (l : List (BitVec 64)) : BitVec 64 := l.foldl (· ||| ·) 0#64
theorem join_take (l : List (BitVec 64)) (k : Nat) (h : k < l.length) : join (l.take (k+1)) = join (l.take k) ||| l[k] := by
  unfold join
  rw [List.take_succ_eq_append_getElem h, List.foldl_append]; rfl
theorem bits_Join (l : List (BitVec 64)) (hl : l.length < 9223372036854775808) : G.bits_Join l = some (join l) := by
  unfold G.bits_Join
  refine count (fun k => join (l.take k)) l.length _ hl (fun k hk => ?_) ?_ rfl
  · simp only [G.bits_Join_b1, len_eq, dec_lt, hk, decide_true, if_true, idx_at hk, Option.bind_some, Sh.next, join_take l k hk, w64_succ (show k < 9223372036854775807 by omega)]
  · simp [G.bits_Join_b1, len_eq, G.bits_Join_j1, Sh.exit]
theorem join_two (a b : BitVec 64) : G.bits_Join [a, b] = some (a ||| b) := by
  rw [bits_Join _ (by simp)]; simp [join]

theorem shr_nat (a : BitVec 64) (n : Nat) : Sh.shr a (n : Int) = some (a >>> n) := by simp [Sh.shr]
theorem ctz_zero : Bv.ctz 0#64 = 64 := by decide
theorem tab_at (s : BitVec 64) (h2 : Bv.ctz s < 64) : Sh.idx Sh.tab8 ((((1#64 <<< Bv.ctz s) * Bv.dB) >>> 58).toNat : Int) = some ((Bv.ctz s : Nat) : Int) := by
  have h4 := Bv.tab_ok ⟨Bv.ctz s, h2⟩
  simp only [Sh.idx, Sh.tab8, List.getElem?_map]
  rw [if_pos (by omega), Int.toNat_natCast, h4]
  rfl
@[simp] theorem tz (s : BitVec 64) : G.bits_TrailingZeros64 s = some (Bv.ctz s : Int) := by
  unfold G.bits_TrailingZeros64
  by_cases h : s = 0#64
  · subst h
    rw [if_pos (decide_eq_true rfl), ctz_zero]; rfl
  · obtain ⟨_, h2, h3⟩ := Bv.list_cons s h
    rw [if_neg (by simpa using h), h3]
    have h5 : Sh.shr ((1#64 <<< Bv.ctz s) * 285870213051353865#64) ((58 : Nat) : Int) = some (((1#64 <<< Bv.ctz s) * 285870213051353865#64) >>> 58) := shr_nat _ _
    have e2 : (((58#64).toNat : Nat) : Int) = ((58 : Nat) : Int) := rfl
    rw [e2, h5]
    have h6 := tab_at s h2
    unfold Bv.dB at h6
    rw [Option.bind_some, h6, Option.bind_some]
    rw [w64_id (by omega) (by omega)]

def ilist (s : BitVec 64) : List Int := (Bv.list s).map fun (k : Nat) => (k : Int)
theorem list_iter : ∀ (n : Nat) (s : BitVec 64) (acc : List Int), (Bv.list s).length < n → acc.length + (Bv.list s).length ≤ 64 →
    Sh.iter (fun (p : (BitVec 64) × (List Int)) => G.bits_List_b1 p.1 p.2) n (s, acc) = some (acc ++ ilist s) := by
  intro n
  induction n with
  | zero => intro s acc h; omega
  | succ n ih =>
    intro s acc h1 h2
    by_cases h : s = 0#64
    · subst h
      simp [Sh.iter, G.bits_List_b1, G.bits_List_j1, Sh.exit, ilist, Bv.list_zero]
    · obtain ⟨e, _, _⟩ := Bv.list_cons s h
      have hl : (Bv.list s).length = (Bv.list (s &&& (s - 1#64))).length + 1 := by rw [e]; simp
      have ha : Sh.app 8 acc [((Bv.ctz s : Nat) : Int)] = some (acc ++ [((Bv.ctz s : Nat) : Int)]) := app_ok (by simp; omega)
      have hb : G.bits_List_b1 s acc = some (.inl (s &&& (s - 1#64), acc ++ [((Bv.ctz s : Nat) : Int)])) := by
        simp only [G.bits_List_b1, h, ne_eq, not_false_eq_true, decide_true, if_true, tz, Option.bind_some, ha, Sh.next]
      simp only [Sh.iter, hb]
      rw [ih _ _ (by omega) (by simp; omega)]
      simp only [ilist, Option.some.injEq]
      rw [e]; simp
@[simp] theorem bits_List (s : BitVec 64) : G.bits_List s = some (ilist s) := by
  have := Bv.list_length_le s
  have h := list_iter Sh.FUEL s [] (Nat.lt_of_le_of_lt this (fuel_gt (by omega))) (by simpa using this)
  simpa [G.bits_List, Sh.loop] using h
theorem least_eq (s : BitVec 64) : Bv.least s = if s = 0#64 then -1 else (Bv.ctz s : Int) := by
  by_cases h : s = 0#64
  · subst h; decide
  · rw [if_neg h, Bv.least_ctz s h]
@[simp] theorem bits_Least (s : BitVec 64) : G.bits_Least s = some (Bv.least s) := by
  unfold G.bits_Least
  rw [least_eq]
  by_cases h : s = 0#64
  · simp [h]
  · simp only [h, decide_false, Bool.false_eq_true, if_false, tz, Option.bind_some]

@[simp] theorem r10_In (i : Int) : G.inquestref10_In i = some (decide (0 ≤ i ∧ i ≤ 63)) := by
  unfold G.inquestref10_In
  by_cases h : 0 ≤ i <;> simp [h]
theorem r10_Power (i : Nat) (h : i ≤ 63) : G.inquestref10_Power (i : Int) = some (1#64 <<< i) := by
  unfold G.inquestref10_Power
  refine count (fun k => 1#64 <<< k) i _ (fuel_gt (by omega)) (fun k hk => ?_) ?_ (by simp)
  · simp only [G.inquestref10_Power_b1, dec_lt, hk, decide_true, if_true, Sh.next, w64_succ (show k < 9223372036854775807 by omega)]
    congr 3
    apply BitVec.eq_of_toNat_eq
    simp only [BitVec.toNat_add, BitVec.toNat_shiftLeft, Nat.shiftLeft_eq, BitVec.toNat_ofNat]
    rw [Nat.pow_succ]; omega
  · simp [G.inquestref10_Power_b1, G.inquestref10_Power_j1, Sh.exit]
theorem div_mod_bit (s : BitVec 64) (k : Nat) (hk : k < 64) : decide (s / (1#64 <<< k) % 2#64 = 1#64) = s.getLsbD k := by
  have h1 : (1#64 <<< k).toNat = 2 ^ k := by
    have : 2 ^ k < 2 ^ 64 := Nat.pow_lt_pow_right (by omega) hk
    simp [Nat.shiftLeft_eq, Nat.mod_eq_of_lt this]
  have h2 : (s / (1#64 <<< k) % 2#64).toNat = s.toNat / 2 ^ k % 2 := by
    simp only [BitVec.toNat_umod, BitVec.toNat_udiv, h1, BitVec.toNat_ofNat]
  have h3 : s.getLsbD k = decide (s.toNat / 2 ^ k % 2 = 1) := by
    simp only [BitVec.getLsbD, Nat.testBit_eq_decide_div_mod_eq]
  rw [h3]
  congr 1
  apply propext
  rw [← h2]
  constructor
  · intro h; rw [h]; rfl
  · intro h; apply BitVec.eq_of_toNat_eq; rw [h]; rfl
@[simp] theorem r10_Has (s : BitVec 64) (i : Int) : G.inquestref10_Has s i = some (Bv.has s i) := by
  unfold G.inquestref10_Has Bv.has
  simp only [r10_In, Option.bind_some]
  by_cases h : 0 ≤ i ∧ i ≤ 63
  · obtain ⟨k, rfl⟩ : ∃ k : Nat, i = k := ⟨i.toNat, by omega⟩
    have hk : k < 64 := by omega
    have hne : (1#64 <<< k) ≠ 0#64 := by
      intro h0
      have := congrArg (fun x : BitVec 64 => x.getLsbD k) h0
      simp [hk] at this
    have e1 : Sh.udiv s (1#64 <<< k) = some (s / (1#64 <<< k)) := by simp only [Sh.udiv, hne, ne_eq, not_false_eq_true, if_true]
    simp only [h, decide_true, Bool.not_true, Bool.false_eq_true, if_false, r10_Power k (by omega), Option.bind_some, e1, Sh.umod]
    have e2 : (2#64 : BitVec 64) ≠ 0#64 := by decide
    simp only [e2, ne_eq, not_false_eq_true, if_true, Option.bind_some, div_mod_bit s k hk]
    have : ((k : Int) < 64) := by omega
    simp [this]
  · rw [decide_eq_false h]
    by_cases h0 : 0 ≤ i
    · have : ¬ i < 64 := by omega
      simp [h0, this]
    · simp [h0]
theorem has_nat (s : BitVec 64) {k : Nat} (hk : k < 64) : Bv.has s (k : Int) = s.getLsbD k := by
  unfold Bv.has
  have h1 : (0 : Int) ≤ (k : Int) := by omega
  have h2 : (k : Int) < 64 := by omega
  simp [h2]
theorem add_bit (s : BitVec 64) (k : Nat) (hk : k < 64) (hb : s.getLsbD k = false) : s + 1#64 <<< k = s ||| 1#64 <<< k := by
  rw [BitVec.add_eq_or_of_and_eq_zero]
  apply Bv.ext
  intro j hj
  simp only [BitVec.getLsbD_and, BitVec.getLsbD_shiftLeft, hj, decide_true, Bool.true_and, BitVec.getLsbD_zero]
  by_cases hjk : j = k
  · subst hjk; simp [hb]
  · by_cases hlt : j < k
    · simp [hlt]
    · simp [hlt, BitVec.getLsbD_one]; omega
theorem or_bit (s : BitVec 64) (k : Nat) (hk : k < 64) (hb : s.getLsbD k = true) : s ||| 1#64 <<< k = s := by
  apply Bv.ext
  intro j hj
  simp only [BitVec.getLsbD_or, BitVec.getLsbD_shiftLeft, hj, decide_true, Bool.true_and]
  by_cases hjk : j = k
  · subst hjk; simp [hb]
  · by_cases hlt : j < k
    · simp [hlt]
    · simp [hlt, BitVec.getLsbD_one]; omega
@[simp] theorem r10_With (s : BitVec 64) (i : Int) : G.inquestref10_With s i = some (s ||| Bv.bit i) := by
  unfold G.inquestref10_With G.inquestref10_With_j1
  simp only [r10_Has, r10_In, Option.bind_some]
  by_cases h : 0 ≤ i ∧ i ≤ 63
  · obtain ⟨k, rfl⟩ : ∃ k : Nat, i = k := ⟨i.toNat, by omega⟩
    have hk : k < 64 := by omega
    have hbit : Bv.bit (k : Int) = 1#64 <<< k := by unfold Bv.bit; rw [if_pos ⟨by omega, by omega⟩]; simp
    have hh : Bv.has s (k : Int) = s.getLsbD k := has_nat s hk
    rw [hh, hbit]
    cases hb : s.getLsbD k with
    | true => simp [or_bit s k hk hb]
    | false => simp [h, r10_Power k (by omega), add_bit s k hk hb]
  · have hbit : Bv.bit i = 0#64 := by unfold Bv.bit; rw [if_neg (by omega)]
    have hh : Bv.has s i = false := by
      unfold Bv.has
      by_cases h0 : 0 ≤ i
      · have : ¬ i < 64 := by omega
        simp [this]
      · simp [h0]
    simp [hh, hbit, h]
theorem ilist_filter (s : BitVec 64) (m : Nat) : ((List.range m).filter fun i => s.getLsbD i).length ≤ m := by
  have := List.length_filter_le (fun i => s.getLsbD i) (List.range m)
  simpa using this
@[simp] theorem r10_List (s : BitVec 64) : G.inquestref10_List s = some (ilist s) := by
  unfold G.inquestref10_List
  refine count (fun k => ((List.range k).filter fun i => s.getLsbD i).map fun (k : Nat) => (k : Int)) 64 _ (fuel_gt (by omega)) (fun k hk => ?_) ?_ (by simp)
  · have hh : Bv.has s (k : Int) = s.getLsbD k := has_nat s hk
    have hk' : ((k : Int) < 64) := by omega
    simp only [G.inquestref10_List_b1, hk', decide_true, if_true, r10_Has, hh, Option.bind_some, G.inquestref10_List_j2, Sh.next, w64_succ (show k < 9223372036854775807 by omega)]
    have := ilist_filter s k
    cases hb : s.getLsbD k with
    | true =>
      simp only [if_true]
      rw [app_ok (by simp; omega)]
      simp [List.range_succ, hb]
    | false => simp [List.range_succ, hb]
  · simp [G.inquestref10_List_b1, G.inquestref10_List_j1, Sh.exit, ilist, Bv.list]
theorem sub_iff (a b : BitVec 64) : a &&& ~~~b = 0#64 ↔ ∀ i, a.getLsbD i = true → b.getLsbD i = true := by
  constructor
  · intro h i hi
    have hi64 : i < 64 := by
      rcases Nat.lt_or_ge i 64 with h | h
      · exact h
      · simp [BitVec.getLsbD_of_ge a i h] at hi
    have := congrArg (fun x : BitVec 64 => x.getLsbD i) h
    simp only [BitVec.getLsbD_and, BitVec.getLsbD_not, hi64, decide_true, Bool.true_and, BitVec.getLsbD_zero, hi] at this
    simpa using this
  · intro h
    apply Bv.ext
    intro i hi
    simp only [BitVec.getLsbD_and, BitVec.getLsbD_not, hi, decide_true, Bool.true_and, BitVec.getLsbD_zero]
    cases ha : a.getLsbD i with
    | true => simp [h i ha]
    | false => rfl
end Pl
namespace Pl
open Go Go.Av
end Pl
end

section
/- Graphs as rows of bits: the program's functions and the reference's, over the edges. -/
namespace Pl
open Go Go.Av

def row : Nat → (Nat → Bool) → BitVec 64
  | 0, _ => 0#64
  | n + 1, p => if p n then row n p ||| (1#64 <<< n) else row n p
theorem shift_get (k i : Nat) (hk : k < 64) : (1#64 <<< k).getLsbD i = decide (i = k) := by
  by_cases hi : i < 64
  · simp only [BitVec.getLsbD_shiftLeft, hi, decide_true, Bool.true_and]
    by_cases hik : i = k
    · subst hik; simp
    · by_cases hlt : i < k
      · simp [hlt, hik]
      · simp [hlt, hik, BitVec.getLsbD_one]; omega
  · have : ¬ i = k := by omega
    simp [BitVec.getLsbD_of_ge _ i (show 64 ≤ i by omega), this]
theorem row_get {n : Nat} (hn : n ≤ 64) (p : Nat → Bool) (i : Nat) : (row n p).getLsbD i = (decide (i < n) && p i) := by
  induction n with
  | zero => simp [row]
  | succ n ih =>
    have ih := ih (by omega)
    unfold row
    by_cases hp : p n = true
    · rw [if_pos hp, BitVec.getLsbD_or, ih, shift_get n i (by omega)]
      by_cases h : i = n
      · subst h; simp [hp]
      · by_cases h2 : i < n
        · simp [h, h2, show i < n + 1 by omega]
        · simp [h, h2, show ¬ i < n + 1 by omega]
    · rw [if_neg hp, ih]
      by_cases h : i = n
      · subst h; simp [hp]
      · by_cases h2 : i < n
        · simp [h2, show i < n + 1 by omega]
        · simp [h2, show ¬ i < n + 1 by omega]
def rows (n : Nat) (f : Nat → Nat → Bool) : List (BitVec 64) := (List.range n).map fun x => row n (f x)
@[simp] theorem rows_len (n : Nat) (f : Nat → Nat → Bool) : (rows n f).length = n := by simp [rows]
theorem rows_at {n : Nat} {f : Nat → Nat → Bool} {x : Nat} (h : x < (rows n f).length) : (rows n f)[x] = row n (f x) := by simp [rows]
theorem rows_idx {n : Nat} {f : Nat → Nat → Bool} {x : Nat} (h : x < n) : Sh.idx (rows n f) (x : Int) = some (row n (f x)) := by
  rw [idx_at (by simpa using h), rows_at]
abbrev gr (n : Nat) (f : Nat → Nat → Bool) : G.graph_Graph := ⟨(n : Int), rows n f⟩
theorem row_ext {n : Nat} (hn : n ≤ 64) {p q : Nat → Bool} : row n p = row n q ↔ ∀ i, i < n → p i = q i := by
  constructor
  · intro h i hi
    have := congrArg (fun x : BitVec 64 => x.getLsbD i) h
    simpa [row_get hn, hi] using this
  · intro h
    apply Bv.ext
    intro i _
    rw [row_get hn, row_get hn]
    by_cases hi : i < n
    · simp [hi, h i hi]
    · simp [hi]
theorem rows_ext {n : Nat} (hn : n ≤ 64) {f h : Nat → Nat → Bool} : rows n f = rows n h ↔ ∀ x y, x < n → y < n → f x y = h x y := by
  constructor
  · intro e x y hx hy
    have h1 : (rows n f)[x]? = (rows n h)[x]? := by rw [e]
    rw [List.getElem?_eq_getElem (by simpa using hx), List.getElem?_eq_getElem (by simpa using hx), rows_at, rows_at] at h1
    exact (row_ext hn).1 (Option.some.inj h1) y hy
  · intro e
    unfold rows
    apply List.map_congr_left
    intro x hx
    exact (row_ext hn).2 (fun y hy => e x y (by simpa using hx) hy)
def rightB (N : Int) (R : List (BitVec 64)) : Bool := decide (0 ≤ N ∧ N ≤ 64 ∧ (R.length : Int) = N ∧ ∀ r ∈ R, ∀ i : Nat, i < 64 → N ≤ (i : Int) → r.getLsbD i = false)
theorem right_rows {n : Nat} (hn : n ≤ 64) (f : Nat → Nat → Bool) : rightB (n : Int) (rows n f) = true := by
  refine decide_eq_true ⟨by omega, by omega, by simp, fun r hr i _ hi => ?_⟩
  simp only [rows, List.mem_map] at hr
  obtain ⟨x, _, rfl⟩ := hr
  rw [row_get hn]
  have : ¬ i < n := by omega
  simp [this]
theorem nodes_get (n : Nat) (hn : n ≤ 64) (i : Nat) (hi : i < 64) : ((1#64 <<< n) - 1#64).getLsbD i = decide (i < n) := by
  rcases Nat.lt_or_ge n 64 with h | h
  · have e : ((1#64 <<< n) - 1#64).toNat = 2 ^ n - 1 := by
      have h1 : 2 ^ n < 2 ^ 64 := Nat.pow_lt_pow_right (by omega) h
      have h2 : 0 < 2 ^ n := Nat.pow_pos (by omega)
      rw [BitVec.toNat_sub]
      simp only [BitVec.toNat_shiftLeft, BitVec.toNat_ofNat, Nat.shiftLeft_eq]
      omega
    simp only [BitVec.getLsbD, e, Nat.testBit_two_pow_sub_one]
  · have : n = 64 := by omega
    subst this
    have e : (1#64 <<< 64) - 1#64 = BitVec.allOnes 64 := by decide
    rw [e, BitVec.getLsbD_allOnes]
theorem join_get (l : List (BitVec 64)) (i : Nat) : (join l).getLsbD i = l.any (·.getLsbD i) := by
  have key : ∀ (l : List (BitVec 64)) (a : BitVec 64), (l.foldl (· ||| ·) a).getLsbD i = (a.getLsbD i || l.any (·.getLsbD i)) := by
    intro l
    induction l with
    | nil => intro a; simp
    | cons x l ih => intro a; simp [ih, Bool.or_assoc]
  simp [join, key]
theorem graph_Right (g : G.graph_Graph) (hl : g.Rows.length < 9223372036854775808) : G.graph_Right g = some (rightB g.N g.Rows) := by
  unfold G.graph_Right G.graph_nodes rightB
  by_cases h1 : 0 ≤ g.N
  · by_cases h2 : g.N ≤ 64
    · by_cases h3 : (g.Rows.length : Int) = g.N
      · have hs : Sh.shl 1#64 g.N = some (1#64 <<< g.N.toNat) := by simp [Sh.shl, h1]
        simp only [h1, h2, h3, decide_true, if_true, bits_Join _ hl, hs, Option.bind_some, bits_Sub, true_and, Option.some.injEq]
        congr 1
        apply propext
        rw [sub_iff]
        constructor
        · intro h r hr i hi hN
          cases hb : r.getLsbD i with
          | false => rfl
          | true =>
            have := h i (by rw [join_get, List.any_eq_true]; exact ⟨r, hr, hb⟩)
            rw [nodes_get _ (by omega) i hi] at this
            have := of_decide_eq_true this
            omega
        · intro h i hi
          have hi64 : i < 64 := by
            rcases Nat.lt_or_ge i 64 with h' | h'
            · exact h'
            · rw [BitVec.getLsbD_of_ge _ i h'] at hi; cases hi
          rw [nodes_get _ (by omega) i hi64]
          apply decide_eq_true
          rw [join_get, List.any_eq_true] at hi
          obtain ⟨r, hr, hb⟩ := hi
          rcases Nat.lt_or_ge i g.N.toNat with h' | h'
          · exact h'
          · rw [h r hr i hi64 (by omega)] at hb; cases hb
      · simp [h1, h2, h3]
    · simp [h1, h2]
  · simp [h1]
@[simp] theorem Right_gr {n : Nat} (hn : n ≤ 64) (f : Nat → Nat → Bool) : G.graph_Right (gr n f) = some true := by
  rw [graph_Right _ (by simp; omega)]
  exact congrArg some (right_rows hn f)
theorem graph_New (n : Nat) (hn : n ≤ 64) : G.graph_New (n : Int) = some (⟨(n : Int), List.replicate n 0#64⟩, 0) := by
  unfold G.graph_New G.graph_New_j1
  have h1 : ¬ (n : Int) < 0 := by omega
  have h2 : ¬ (64 : Int) < (n : Int) := by omega
  simp only [h1, h2, decide_false, Bool.false_eq_true, if_false, mk_ok (show 8 * n ≤ 140737488355328 by omega) (show n ≤ 4611686018427387904 by omega), Option.bind_some]
theorem zero_rows (n : Nat) : List.replicate n 0#64 = rows n (fun _ _ => false) := by
  unfold rows
  apply List.ext_getElem (by simp)
  intro x h1 h2
  simp only [List.getElem_replicate, List.getElem_map]
  have : ∀ m, row m (fun _ => false) = 0#64 := fun m => by
    induction m with
    | zero => rfl
    | succ m ih => simp [row, ih]
  rw [this]
theorem row_has {n : Nat} (hn : n ≤ 64) (p : Nat → Bool) {k : Nat} (hk : k < n) : Bv.has (row n p) (k : Int) = p k := by
  rw [has_nat _ (by omega), row_get hn]; simp [hk]
theorem row_has_out {n : Nat} (hn : n ≤ 64) (p : Nat → Bool) {b : Int} (hb : b < 0 ∨ (n : Int) ≤ b) : Bv.has (row n p) b = false := by
  unfold Bv.has
  rcases hb with hb | hb
  · have : ¬ 0 ≤ b := by omega
    simp [this]
  · rw [row_get hn]
    have : ¬ b.toNat < n := by omega
    simp [this]
def hasB (n : Nat) (f : Nat → Nat → Bool) (a b : Int) : Bool := decide (0 ≤ a ∧ a < n ∧ 0 ≤ b ∧ b < n) && f a.toNat b.toNat
theorem graph_Has {n : Nat} (hn : n ≤ 64) (f : Nat → Nat → Bool) (a b : Int) : G.graph_Has (gr n f) a b = some (hasB n f a b) := by
  unfold G.graph_Has hasB
  simp only [Right_gr hn, Option.bind_some, if_true]
  by_cases h1 : 0 ≤ a
  · by_cases h2 : a < n
    · obtain ⟨k, rfl⟩ : ∃ k : Nat, a = k := ⟨a.toNat, by omega⟩
      have hk : k < n := by omega
      simp only [h1, h2, decide_true, if_true, rows_idx hk, Option.bind_some, bits_Has]
      by_cases h3 : 0 ≤ b ∧ b < n
      · obtain ⟨j, rfl⟩ : ∃ j : Nat, b = j := ⟨b.toNat, by omega⟩
        rw [row_has hn _ (by omega)]
        simp [h3]
      · rw [row_has_out hn _ (by omega)]
        have : ¬ (True ∧ True ∧ 0 ≤ b ∧ b < n) := fun h => h3 h.2.2
        rw [decide_eq_false this]; rfl
    · simp [h1, h2]
  · simp [h1]
theorem row_with {n : Nat} (hn : n ≤ 64) (p : Nat → Bool) {k : Nat} (hk : k < n) : row n p ||| Bv.bit (k : Int) = row n (fun i => p i || decide (i = k)) := by
  apply Bv.ext
  intro i hi
  rw [row_get hn, BitVec.getLsbD_or, row_get hn]
  have hb : Bv.bit (k : Int) = 1#64 <<< k := by unfold Bv.bit; rw [if_pos ⟨by omega, by omega⟩]; simp
  rw [hb]
  simp only [BitVec.getLsbD_shiftLeft, hi, decide_true, Bool.true_and]
  by_cases hik : i = k
  · subst hik; simp [hk]
  · by_cases hlt : i < k
    · simp [hlt, hik]
    · simp [hlt, hik, BitVec.getLsbD_one]; omega
theorem rows_set {n : Nat} (f : Nat → Nat → Bool) {x : Nat} (_hx : x < n) (p : Nat → Bool) : (rows n f).set x (row n p) = rows n (fun a => if a = x then p else f a) := by
  apply List.ext_getElem (by simp)
  intro a h1 h2
  rw [List.getElem_set, rows_at, rows_at]
  by_cases ha : x = a
  · subst ha; simp
  · simp [ha, Ne.symm ha]
def addF (f : Nat → Nat → Bool) (a b : Nat) : Nat → Nat → Bool := fun x y => f x y || decide (x = a ∧ y = b)
theorem graph_Add {n : Nat} (hn : n ≤ 64) (f : Nat → Nat → Bool) {a b : Nat} (ha : a < n) (hb : b < n) : G.graph_Add (gr n f) (a : Int) (b : Int) = some (gr n (addF f a b), 0) := by
  unfold G.graph_Add G.graph_Add_j1
  have h1 : ¬ (a : Int) < 0 := by omega
  have h2 : ¬ (n : Int) ≤ (a : Int) := by omega
  have h3 : ¬ (b : Int) < 0 := by omega
  have h4 : ¬ (n : Int) ≤ (b : Int) := by omega
  simp only [Right_gr hn, Option.bind_some, Bool.not_true, Bool.false_eq_true, if_false, h1, h2, h3, h4, decide_false, graph_New n hn, cpy_ok (show (rows n f).length = (List.replicate n 0#64).length by simp), rows_idx ha, bits_With, row_with hn _ hb, set_at, rows_set f ha]
  have e : rows n (fun x => if x = a then (fun i => f a i || decide (i = b)) else f x) = rows n (addF f a b) := by
    rw [rows_ext hn]
    intro x y _ _
    unfold addF
    by_cases hx : x = a
    · subst hx; simp
    · simp [hx]
  rw [e]
def mixF (f h : Nat → Nat → Bool) (k : Nat) : Nat → Nat → Bool := fun x y => if x < k then h x y else f x y
theorem mix_zero {n : Nat} (f h : Nat → Nat → Bool) : rows n (mixF f h 0) = rows n f := by
  unfold rows mixF; simp
theorem mix_all {n : Nat} (hn : n ≤ 64) (f h : Nat → Nat → Bool) : rows n (mixF f h n) = rows n h := by
  rw [rows_ext hn]; intro x y hx _; simp [mixF, hx]
theorem mix_set {n : Nat} (hn : n ≤ 64) (f h : Nat → Nat → Bool) {k : Nat} (hk : k < n) : (rows n (mixF f h k)).set k (row n (h k)) = rows n (mixF f h (k + 1)) := by
  rw [rows_set _ hk, rows_ext hn]
  intro x y _ _
  unfold mixF
  by_cases hx : x = k
  · subst hx; simp
  · by_cases hlt : x < k
    · simp [hx, hlt, show x < k + 1 by omega]
    · simp [hx, hlt, show ¬ x < k + 1 by omega]
theorem row_or {n : Nat} (hn : n ≤ 64) (p q : Nat → Bool) : row n p ||| row n q = row n (fun i => p i || q i) := by
  apply Bv.ext
  intro i _
  rw [BitVec.getLsbD_or, row_get hn, row_get hn, row_get hn]
  by_cases hi : i < n <;> simp [hi]

def orF (f h : Nat → Nat → Bool) : Nat → Nat → Bool := fun x y => f x y || h x y
theorem like_gr {n m : Nat} (hn : n ≤ 64) (hm : m ≤ 64) (f h : Nat → Nat → Bool) : G.graph_like (gr n f) (gr m h) = some (decide (n = m)) := by
  unfold G.graph_like
  simp [Right_gr hn, Right_gr hm, Int.ofNat_inj]
theorem graph_Union {n : Nat} (hn : n ≤ 64) (f h : Nat → Nat → Bool) : G.graph_Union (gr n f) (gr n h) = some (gr n (orF f h), 0) := by
  unfold G.graph_Union
  simp only [like_gr hn hn, decide_true, Option.bind_some, Bool.not_true, Bool.false_eq_true, if_false, graph_New n hn]
  refine count (fun k => rows n (mixF (fun _ _ => false) (orF f h) k)) n _ (fuel_gt (by omega)) (fun k hk => ?_) ?_ (by rw [mix_zero, zero_rows])
  · simp only [G.graph_Union_b1, len_eq, List.length_replicate, dec_lt, hk, decide_true, if_true, rows_idx hk, Option.bind_some, join_two, row_or hn, set_at, Sh.next, w64_succ (show k < 9223372036854775807 by omega)]
    have := mix_set hn (fun _ _ => false) (orF f h) hk
    rw [← this]; rfl
  · simp only [G.graph_Union_b1, len_eq, List.length_replicate, Int.lt_irrefl, decide_false, Bool.false_eq_true, if_false, G.graph_Union_j1, exit_some, mix_all hn]
theorem ilist_at {s : BitVec 64} {k : Nat} (h : k < (Bv.list s).length) : Sh.idx (ilist s) (k : Int) = some (((Bv.list s)[k] : Nat) : Int) := by
  have h' : k < (ilist s).length := by simpa [ilist] using h
  rw [idx_at h']; simp [ilist]
theorem list_row {n : Nat} (hn : n ≤ 64) (p : Nat → Bool) {i : Nat} : i ∈ Bv.list (row n p) ↔ i < n ∧ p i = true := by
  rw [Bv.mem_list, row_get hn]; simp
theorem list_mem_lt {n : Nat} (hn : n ≤ 64) (p : Nat → Bool) {k : Nat} (h : k < (Bv.list (row n p)).length) : (Bv.list (row n p))[k] < n := ((list_row hn p).1 (List.getElem_mem h)).1
theorem any_take {l : List Nat} {k : Nat} (h : k < l.length) (q : Nat → Bool) : (l.take (k + 1)).any q = ((l.take k).any q || q l[k]) := by
  rw [List.take_succ_eq_append_getElem h, List.any_append]; simp
def compF (n : Nat) (f h : Nat → Nat → Bool) : Nat → Nat → Bool := fun x y => (List.range n).any fun z => f x z && h z y
theorem comp_row {n : Nat} (hn : n ≤ 64) (f h : Nat → Nat → Bool) (x : Nat) : row n (fun y => (Bv.list (row n (f x))).any fun z => h z y) = row n (compF n f h x) := by
  rw [row_ext hn]
  intro y _
  unfold compF
  rw [Bool.eq_iff_iff, List.any_eq_true, List.any_eq_true]
  constructor
  · rintro ⟨z, h1, h2⟩
    obtain ⟨h3, h4⟩ := (list_row hn _).1 h1
    exact ⟨z, by simpa using h3, by simp [h4, h2]⟩
  · rintro ⟨z, h1, h2⟩
    simp only [Bool.and_eq_true] at h2
    exact ⟨z, (list_row hn _).2 ⟨by simpa using h1, h2.1⟩, h2.2⟩
theorem comp_inner {n : Nat} (hn : n ≤ 64) (h : Nat → Nat → Bool) (F : Nat → Nat → Bool) {x : Nat} (hx : x < n) (p : Nat → Bool) (hF : ∀ y, y < n → F x y = false) :
    Sh.loop (fun (q : (List (BitVec 64)) × Int) => G.graph_Compose_b2 (gr n h) (x : Int) (ilist (row n p)) q.1 q.2) (rows n F, 0) =
      some (.inl ((rows n F).set x (row n (fun y => (Bv.list (row n p)).any fun z => h z y)), ((x + 1 : Nat) : Int))) := by
  refine count (fun k => (rows n F).set x (row n (fun y => ((Bv.list (row n p)).take k).any fun z => h z y))) (Bv.list (row n p)).length _ (fuel_gt (by have := Bv.list_length_le (row n p); omega)) (fun k hk => ?_) ?_ ?_
  · have hz := list_mem_lt hn p hk
    have hl : Sh.len (ilist (row n p)) = ((Bv.list (row n p)).length : Int) := by simp [ilist, Sh.len]
    have hs : ∀ r : BitVec 64, Sh.idx ((rows n F).set x r) (x : Int) = some r := fun r => by
      rw [idx_at (by simpa using hx)]; simp
    simp only [G.graph_Compose_b2, hl, dec_lt, hk, decide_true, if_true, ilist_at hk, Option.bind_some, hs, rows_idx hz, join_two, row_or hn, set_at, List.set_set, Sh.next, w64_succ (show k < 9223372036854775807 by have := Bv.list_length_le (row n p); omega)]
    congr 5
    funext y
    rw [any_take hk]
  · have hl : Sh.len (ilist (row n p)) = ((Bv.list (row n p)).length : Int) := by simp [ilist, Sh.len]
    simp only [G.graph_Compose_b2, hl, Int.lt_irrefl, decide_false, Bool.false_eq_true, if_false, G.graph_Compose_j2, next_some, exit_some, List.take_length, w64_succ (show x < 9223372036854775807 by omega)]
  · rw [rows_set _ hx, rows_ext hn]
    intro a y _ hy
    by_cases ha : a = x
    · subst ha; simp [hF y hy]
    · simp [ha]
theorem graph_Compose {n : Nat} (hn : n ≤ 64) (f h : Nat → Nat → Bool) : G.graph_Compose (gr n f) (gr n h) = some (gr n (compF n f h), 0) := by
  unfold G.graph_Compose
  simp only [like_gr hn hn, decide_true, Option.bind_some, Bool.not_true, Bool.false_eq_true, if_false, graph_New n hn]
  refine count (fun k => rows n (mixF (fun _ _ => false) (compF n f h) k)) n _ (fuel_gt (by omega)) (fun k hk => ?_) ?_ (by rw [mix_zero, zero_rows])
  · simp only [G.graph_Compose_b1, len_eq, List.length_replicate, dec_lt, hk, decide_true, if_true, rows_idx hk, Option.bind_some, bits_List]
    rw [comp_inner hn h (mixF (fun _ _ => false) (compF n f h) k) hk (f k) (fun y _ => by simp [mixF]), comp_row hn, mix_set hn _ _ hk]
  · simp only [G.graph_Compose_b1, len_eq, List.length_replicate, Int.lt_irrefl, decide_false, Bool.false_eq_true, if_false, G.graph_Compose_j1, exit_some, mix_all hn]
end Pl
end

section
/- The reference's graphs. -/
namespace Pl
open Go Go.Av

end Pl
namespace Pl
open Go Go.Av
end Pl
end

section
/- Where ways lead. -/

namespace Pl
open Go Go.Av

inductive Way (n : Nat) (f : Nat → Nat → Bool) : Nat → Nat → Prop
  | edge {x y : Nat} : x < n → y < n → f x y = true → Way n f x y
  | cons {x y z : Nat} : x < n → y < n → f x y = true → Way n f y z → Way n f x z

theorem Way.trans {n : Nat} {f : Nat → Nat → Bool} {x y z : Nat} (h : Way n f x y) (k : Way n f y z) : Way n f x z := by
  induction h with
  | edge hx hy hf => exact .cons hx hy hf k
  | cons hx hy hf _ ih => exact .cons hx hy hf (ih k)
theorem Way.left {n : Nat} {f : Nat → Nat → Bool} {x y : Nat} (h : Way n f x y) : x < n := by cases h <;> assumption
theorem Way.right {n : Nat} {f : Nat → Nat → Bool} {x y : Nat} (h : Way n f x y) : y < n := by
  induction h with
  | edge _ hy _ => exact hy
  | cons _ _ _ _ ih => exact ih
theorem Way.mono {n : Nat} {f h : Nat → Nat → Bool} (hm : ∀ x y, x < n → y < n → f x y = true → Way n h x y) {x y : Nat} (w : Way n f x y) : Way n h x y := by
  induction w with
  | edge hx hy hf => exact hm _ _ hx hy hf
  | cons hx hy hf _ ih => exact (hm _ _ hx hy hf).trans ih
theorem Way.last {n : Nat} {f : Nat → Nat → Bool} {x z : Nat} (h : Way n f x z) : ∃ y, y < n ∧ f y z = true ∧ (y = x ∨ Way n f x y) := by
  induction h with
  | edge hx hy hf => exact ⟨_, hx, hf, .inl rfl⟩
  | cons hx hy hf _ ih =>
    obtain ⟨y, h1, h2, h3⟩ := ih
    refine ⟨y, h1, h2, .inr ?_⟩
    rcases h3 with rfl | h3
    · exact .edge hx hy hf
    · exact .cons hx hy hf h3

end Pl
end

section
/- The statements on graphs. -/

namespace Pl
open Go Go.Av

end Pl
end

section
/- The statements on where ways lead. -/

namespace Pl
open Go Go.Av

end Pl
end

section
/- The reference's graphs of a history: what must come ahead of what. -/
namespace Pl
open Go Go.Av

theorem inr_nat {h : G.api_Hist} {x : Nat} : inr h (x : Int) = true ↔ x < h.Txns.length := by rw [inr_iff]; omega
theorem idx_nat {h : G.api_Hist} {x : Nat} (hx : x < h.Txns.length) : Sh.idx h.Txns (x : Int) = some (tx h x) := idx_tx (inr_nat.2 hx)
theorem tx_in {h : G.api_Hist} {x : Nat} (hx : x < h.Txns.length) : tx h x ∈ h.Txns := tx_mem (inr_nat.2 hx)
theorem one_nat {h : G.api_Hist} {c : G.api_Choice} (h1 : one h c = true) : ∃ a b : Nat, c.A = (a : Int) ∧ c.B = (b : Int) ∧ a < h.Txns.length ∧ b < h.Txns.length ∧ a ≠ b ∧ hasW (tx h a) c.Key = true ∧ hasW (tx h b) c.Key = true := by
  simp only [one, Bool.and_eq_true, decide_eq_true_eq] at h1
  obtain ⟨⟨⟨⟨d, e⟩, f⟩, g⟩, k⟩ := h1
  have e' := inr_iff.1 e
  have f' := inr_iff.1 f
  have ea : c.A = ((c.A.toNat : Nat) : Int) := by omega
  have eb : c.B = ((c.B.toNat : Nat) : Int) := by omega
  refine ⟨c.A.toNat, c.B.toNat, ea, eb, by omega, by omega, by omega, ?_, ?_⟩
  · rw [← ea]; exact g
  · rw [← eb]; exact k
end Pl
end

section
/- What follows must be so: whoever chooses all pairs, and lets nothing lead back, chooses it too. -/
namespace Pl
open Go Go.Av

end Pl
end

section
/- All pairs, and all ways to choose them. -/

namespace Pl
open Go Go.Av

def writers (h : G.api_Hist) (key : Int) : List Int := if right h then ((List.range h.Txns.length).filter fun t : Nat => hasW (tx h t) key).map fun t : Nat => (t : Int) else []
theorem r09_Writers {h : G.api_Hist} (hf : Fits h) (hn : h.Txns.length ≤ 64) (key : Int) : G.inquestref09_Writers h key = some (writers h key) := by
  unfold G.inquestref09_Writers writers
  rw [rRight hf]
  simp only [Option.bind_some]
  cases hr : right h with
  | false =>
    refine run_exit (fun _ => ([], false, 0)) 0 _ (by decide) (fun k hk => by omega) ?_ rfl
    simp [G.inquestref09_Writers_b1, G.inquestref09_Writers_j2, G.inquestref09_Writers_j1]
  | true =>
    refine run_exit (fun k => ((((List.range k).filter fun t : Nat => hasW (tx h t) key).map fun t : Nat => (t : Int)), true, (k : Int))) h.Txns.length _ (fuel_gt (by omega)) (fun k hk => ?_) ?_ rfl
    · have hle : ((List.range k).filter fun t : Nat => hasW (tx h t) key).length ≤ k := by
        have := List.length_filter_le (fun t : Nat => hasW (tx h t) key) (List.range k); simpa using this
      simp only [G.inquestref09_Writers_b1, if_true, G.inquestref09_Writers_j2, dec_lt, hk, decide_true, idx_nat hk, Option.bind_some, rWrites (hf.writes _ (tx_in hk))]
      rw [List.range_succ, List.filter_append, List.map_append]
      cases hw : hasW (tx h k) key with
      | false => simp [G.inquestref09_Writers_j3, w64_succ (show k < 9223372036854775807 by omega), Sh.next, hw]
      | true =>
        simp only [if_true]
        rw [app_ok (by simp; omega)]
        simp [G.inquestref09_Writers_j3, w64_succ (show k < 9223372036854775807 by omega), Sh.next, hw]
    · simp [G.inquestref09_Writers_b1, G.inquestref09_Writers_j2, G.inquestref09_Writers_j1, Sh.len]
theorem writers_len {h : G.api_Hist} {key : Int} : (writers h key).length ≤ h.Txns.length := by
  unfold writers
  split
  · have := List.length_filter_le (fun t : Nat => hasW (tx h t) key) (List.range h.Txns.length); simpa using this
  · simp
theorem mem_writers {h : G.api_Hist} (hr : right h = true) {key x : Int} : x ∈ writers h key ↔ inr h x = true ∧ hasW (tx h x) key = true := by
  unfold writers
  rw [if_pos hr]
  simp only [List.mem_map, List.mem_filter, List.mem_range]
  constructor
  · rintro ⟨t, ⟨h1, h2⟩, rfl⟩; exact ⟨inr_nat.2 h1, h2⟩
  · rintro ⟨h1, h2⟩
    obtain ⟨a, b⟩ := inr_iff.1 h1
    refine ⟨x.toNat, ⟨by omega, ?_⟩, by omega⟩
    rw [show ((x.toNat : Nat) : Int) = x by omega]; exact h2
theorem writers_sorted {h : G.api_Hist} {key : Int} : (writers h key).Pairwise (· < ·) := by
  unfold writers
  split
  · rw [List.pairwise_map]
    refine List.Pairwise.imp (R := fun a b : Nat => a < b) (fun {a b} hab => by omega) ?_
    exact List.Pairwise.filter _ List.pairwise_lt_range
  · exact .nil

def pairsI (key : Int) (ws : List Int) (i : Nat) : List G.api_Choice := (ws.drop (i + 1)).map fun w => ⟨key, ws.getD i 0, w⟩
def pairsK (key : Int) (ws : List Int) : List G.api_Choice := (List.range ws.length).flatMap (pairsI key ws)
def pairs (h : G.api_Hist) : List G.api_Choice := (List.range 16).flatMap fun k : Nat => pairsK k (writers h k)
theorem flat_len {α : Type} (f : Nat → List α) (b : Nat) (hb : ∀ k, (f k).length ≤ b) : ∀ n, ((List.range n).flatMap f).length ≤ n * b := by
  intro n
  induction n with
  | zero => simp
  | succ n ih =>
    rw [List.range_succ, List.flatMap_append, List.length_append]
    have := hb n
    simp only [List.flatMap_cons, List.flatMap_nil, List.append_nil]
    rw [Nat.add_mul, Nat.one_mul]; omega
theorem pairsI_len (key : Int) (ws : List Int) (i : Nat) : (pairsI key ws i).length ≤ ws.length := by simp [pairsI]
theorem pairsK_len (key : Int) (ws : List Int) : (pairsK key ws).length ≤ ws.length * ws.length := flat_len _ _ (pairsI_len key ws) _
theorem flat_succ {α : Type} (f : Nat → List α) (k : Nat) : (List.range (k + 1)).flatMap f = (List.range k).flatMap f ++ f k := by
  rw [List.range_succ, List.flatMap_append]; simp
theorem r09_Pairs {h : G.api_Hist} (hf : Fits h) (hn : h.Txns.length ≤ 64) : G.inquestref09_Pairs h = some (pairs h) := by
  have hkk : ∀ k : Nat, (pairsK k (writers h k)).length ≤ 4096 := fun k => by
    have h1 := pairsK_len (k : Int) (writers h k)
    have h2 : (writers h (k : Int)).length ≤ 64 := Nat.le_trans writers_len hn
    exact Nat.le_trans h1 (Nat.mul_le_mul h2 h2)
  unfold G.inquestref09_Pairs pairs
  refine count_exit (fun k => (List.range k).flatMap fun k : Nat => pairsK k (writers h k)) 16 _ (by decide) (fun k hk => ?_) ?_ rfl
  · have hk2 : (k : Int) < 16 := by omega
    have hw2 : (writers h (k : Int)).length ≤ 64 := Nat.le_trans writers_len hn
    have hout := flat_len (fun k : Nat => pairsK k (writers h k)) 4096 hkk k
    have ho2 : k * 4096 ≤ 65536 := Nat.mul_le_mul (show k ≤ 16 by omega) (Nat.le_refl 4096)
    simp only [G.inquestref09_Pairs_b1, hk2, decide_true, if_true, r09_Writers hf hn, Option.bind_some]
    rw [flat_succ]
    generalize ((List.range k).flatMap fun k : Nat => pairsK k (writers h k)) = out at hout
    generalize writers h (k : Int) = ws at hw2
    refine count_exit (fun i => out ++ (List.range i).flatMap (pairsI k ws)) ws.length _ (fuel_gt (by omega)) (fun i hi => ?_) ?_ (by simp)
    · have ho3 := flat_len (pairsI (k : Int) ws) 64 (fun i => Nat.le_trans (pairsI_len _ _ _) hw2) i
      have ho4 : i * 64 ≤ 4096 := Nat.mul_le_mul (show i ≤ 64 by omega) (Nat.le_refl 64)
      simp only [G.inquestref09_Pairs_b2, dec_lt, hi, decide_true, if_true]
      rw [w64_succ (by omega), flat_succ, ← List.append_assoc]
      have ho5 : (out ++ (List.range i).flatMap (pairsI (k : Int) ws)).length ≤ 100000 := by simp only [List.length_append]; omega
      generalize out ++ (List.range i).flatMap (pairsI (k : Int) ws) = out2 at ho5
      refine run_exit (fun j => (out2 ++ ((ws.drop (i + 1)).take j).map fun w => ⟨(k : Int), ws.getD i 0, w⟩, ((i + 1 + j : Nat) : Int))) (ws.length - (i + 1)) _ (fuel_gt (by omega)) (fun j hj => ?_) ?_ (by simp)
      · have hb : i + 1 + j < ws.length := by omega
        have hd : ws.getD i 0 = ws[i] := by simp [List.getD, List.getElem?_eq_getElem hi]
        have hj2 : j < (ws.drop (i + 1)).length := by simp; omega
        simp only [G.inquestref09_Pairs_b3, dec_lt, hb, decide_true, if_true, idx_at hi, idx_at hb, Option.bind_some]
        rw [app_ok (by simp; omega)]
        simp only [Option.bind_some, w64_succ (show i + 1 + j < 9223372036854775807 by omega), Sh.next]
        rw [List.take_add_one, List.getElem?_eq_getElem hj2, Option.toList_some, List.map_append, List.append_assoc, List.getElem_drop, hd]
        rfl
      · rw [show i + 1 + (ws.length - (i + 1)) = ws.length by omega]
        simp only [G.inquestref09_Pairs_b3, dec_lt, Nat.lt_irrefl, decide_false, Bool.false_eq_true, if_false, G.inquestref09_Pairs_j3, w64_succ (show i < 9223372036854775807 by omega), Sh.next]
        rw [List.take_of_length_le (by simp)]
        rfl
    · simp only [G.inquestref09_Pairs_b2, dec_lt, Nat.lt_irrefl, decide_false, Bool.false_eq_true, if_false, G.inquestref09_Pairs_j2, w64_succ (show k < 9223372036854775807 by omega), Sh.next]
      rfl
  · simp [G.inquestref09_Pairs_b1, G.inquestref09_Pairs_j1]

theorem pairs_one {h : G.api_Hist} (hr : right h = true) {c : G.api_Choice} (hc : c ∈ pairs h) : one h c = true := by
  unfold pairs pairsK pairsI at hc
  simp only [List.mem_flatMap, List.mem_range, List.mem_map] at hc
  obtain ⟨k, hk, i, hi, w, hw, rfl⟩ := hc
  have hd : (writers h (k : Int)).getD i 0 = (writers h (k : Int))[i] := by simp [List.getD, List.getElem?_eq_getElem hi]
  have m1 := (mem_writers hr).1 (List.getElem_mem hi)
  have m2 := (mem_writers hr).1 (List.mem_of_mem_drop hw)
  have hlt : (writers h (k : Int))[i] < w := by
    have hs := writers_sorted (h := h) (key := (k : Int))
    rw [List.pairwise_iff_getElem] at hs
    obtain ⟨j, hj, rfl⟩ := List.getElem_of_mem hw
    rw [List.getElem_drop]
    simp only [List.length_drop] at hj
    exact hs i (i + 1 + j) hi (by omega) (by omega)
  unfold one
  rw [hd]
  simp only [m1.1, m1.2, m2.1, m2.2, Bool.and_true, decide_eq_true_eq]
  omega
inductive Sel : List G.api_Choice → List G.api_Choice → Prop
  | nil : Sel [] []
  | so {x : G.api_Choice} {r s : List G.api_Choice} : Sel r s → Sel (x :: r) (x :: s)
  | not {x : G.api_Choice} {r s : List G.api_Choice} : Sel r s → Sel (x :: r) (back x :: s)
theorem Sel.len {r s : List G.api_Choice} (h : Sel r s) : s.length = r.length := by induction h <;> simp_all
theorem Sel.mem {r s : List G.api_Choice} (h : Sel r s) : ∀ c ∈ r, c ∈ s ∨ back c ∈ s := by
  induction h with
  | nil => intro c hc; cases hc
  | so _ ih =>
    intro c hc
    rcases List.mem_cons.1 hc with rfl | hc
    · exact .inl (List.mem_cons_self ..)
    · exact (ih c hc).imp (List.mem_cons_of_mem _) (List.mem_cons_of_mem _)
  | not _ ih =>
    intro c hc
    rcases List.mem_cons.1 hc with rfl | hc
    · exact .inr (List.mem_cons_self ..)
    · exact (ih c hc).imp (List.mem_cons_of_mem _) (List.mem_cons_of_mem _)
theorem Sel.all {r s : List G.api_Choice} (h : Sel r s) {p : G.api_Choice → Prop} (h1 : ∀ c ∈ r, p c) (h2 : ∀ c, p c → p (back c)) : ∀ c ∈ s, p c := by
  induction h with
  | nil => intro c hc; cases hc
  | so _ ih =>
    intro c hc
    rcases List.mem_cons.1 hc with rfl | hc
    · exact h1 _ (List.mem_cons_self ..)
    · exact ih (fun c hc => h1 c (List.mem_cons_of_mem _ hc)) c hc
  | not _ ih =>
    intro c hc
    rcases List.mem_cons.1 hc with rfl | hc
    · exact h2 _ (h1 _ (List.mem_cons_self ..))
    · exact ih (fun c hc => h1 c (List.mem_cons_of_mem _ hc)) c hc
theorem one_back {h : G.api_Hist} {c : G.api_Choice} (h1 : one h c = true) : one h (back c) = true := by
  simp only [one, back, Bool.and_eq_true, decide_eq_true_eq] at *
  obtain ⟨⟨⟨⟨d, e⟩, f⟩, g⟩, k⟩ := h1
  refine ⟨⟨⟨⟨?_, f⟩, e⟩, k⟩, g⟩
  exact decide_eq_true (fun h => d h.symm)
end Pl
end

section
/- What is left of sorted numbers when what comes twice is left out. -/
namespace Pl
open Go Go.Av

theorem asc_ext : ∀ {a b : List Int}, a.Pairwise (· < ·) → b.Pairwise (· < ·) → (∀ x, x ∈ a ↔ x ∈ b) → a = b
  | [], [], _, _, _ => rfl
  | [], y :: b, _, _, h => absurd ((h y).2 (List.mem_cons_self ..)) (by simp)
  | x :: a, [], _, _, h => absurd ((h x).1 (List.mem_cons_self ..)) (by simp)
  | x :: a, y :: b, ha, hb, h => by
    rw [List.pairwise_cons] at ha hb
    have hxy : x = y := by
      rcases List.mem_cons.1 ((h x).1 (List.mem_cons_self ..)) with e | e
      · exact e
      · rcases List.mem_cons.1 ((h y).2 (List.mem_cons_self ..)) with e2 | e2
        · exact e2.symm
        · have h1 := hb.1 x e
          have h2 := ha.1 y e2
          omega
    subst hxy
    have : a = b := asc_ext ha.2 hb.2 fun z => ⟨fun hz => by
      rcases List.mem_cons.1 ((h z).1 (List.mem_cons_of_mem _ hz)) with e | e
      · subst e; have := ha.1 z hz; omega
      · exact e, fun hz => by
      rcases List.mem_cons.1 ((h z).2 (List.mem_cons_of_mem _ hz)) with e | e
      · subst e; have := hb.1 z hz; omega
      · exact e⟩
    rw [this]

theorem compact_mem (l : List Int) (x : Int) : x ∈ Lib.compact l ↔ x ∈ l := by
  unfold Lib.compact Lib.compactUpTo
  simp only [List.mem_map, List.mem_filter, List.mem_range]
  constructor
  · rintro ⟨j, ⟨hj, _⟩, rfl⟩
    simp [hj]
  · intro hx
    obtain ⟨i, hi, hix⟩ := List.getElem_of_mem hx
    have hex : ∃ i, i < l.length ∧ l.toArray[i]! = x := ⟨i, hi, by simp [hi, hix]⟩
    obtain ⟨k, ⟨hk, hkx⟩, hmin⟩ := exists_least _ hex
    refine ⟨k, ⟨hk, ?_⟩, hkx⟩
    unfold Lib.keeps
    rw [decide_eq_true_eq]
    by_cases h0 : k = 0
    · exact .inl h0
    · refine .inr fun he => ?_
      have := hmin (k - 1) ⟨by omega, by rw [← he]; exact hkx⟩
      omega
theorem compact_sorted (l : List Int) (hs : l.Pairwise (· ≤ ·)) : (Lib.compact l).Pairwise (· < ·) := by
  unfold Lib.compact Lib.compactUpTo
  rw [List.pairwise_map]
  refine List.Pairwise.imp_of_mem (R := fun a b : Nat => a < b) (fun {a b} ha hb hab => ?_) (List.Pairwise.filter _ List.pairwise_lt_range)
  simp only [List.mem_filter, List.mem_range] at ha hb
  have hk := hb.2
  unfold Lib.keeps at hk
  rw [decide_eq_true_eq] at hk
  have hk2 := hk.resolve_left (by omega)
  have e1 : l.toArray[a]! = l[a] := by simp [ha.1]
  have e2 : l.toArray[b]! = l[b] := by simp [hb.1]
  have e3 : l.toArray[b - 1]! = l[b - 1]'(by omega) := by simp [show b - 1 < l.length by omega]
  rw [e2, e3] at hk2
  rw [e1, e2]
  have le : ∀ i j (hi : i < l.length) (hj : j < l.length), i ≤ j → l[i] ≤ l[j] := fun i j hi hj hij => by
    rcases Nat.lt_or_ge i j with h | h
    · exact List.pairwise_iff_getElem.1 hs i j hi hj h
    · have : i = j := by omega
      subst this; exact Int.le_refl _
  have h1 := le a (b - 1) (by omega) (by omega) (by omega)
  have h2 := le (b - 1) b (by omega) hb.1 (by omega)
  omega
theorem sort_compact (l r : List Int) (hr : r.Pairwise (· < ·)) (hm : ∀ x, x ∈ r ↔ x ∈ l) : Lib.compact (l.mergeSort fun x y => decide (x ≤ y)) = r := by
  refine asc_ext (compact_sorted _ ?_) hr fun x => ?_
  · have h := List.pairwise_mergeSort (le := fun x y : Int => decide (x ≤ y)) (fun a b c h1 h2 => by simp at h1 h2 ⊢; omega) (fun a b => by simp; omega) l
    exact h.imp fun {a b} hab => by simpa using hab
  · rw [compact_mem, List.mem_mergeSort, hm]
theorem sort_ok {l : List Int} (h : l.length < 4611686018427387904) : Sh.sort l = some (l.mergeSort fun x y => decide (x ≤ y)) := by rw [← Sh.isort_eq]; exact if_pos h
theorem compact_ok {l : List Int} (h : l.length < 4611686018427387904) : Sh.compact l = some (Lib.compact l) := if_pos h
end Pl
end

section
/- Who writes, and who reads, each key: what the program answers. -/
namespace Pl
open Go Go.Av

theorem right_le {h : G.api_Hist} (hr : right h = true) : h.Txns.length ≤ 32 := by
  simp only [right, Bool.and_eq_true, decide_eq_true_eq] at hr; exact hr.1
theorem right_txn {h : G.api_Hist} (hr : right h = true) {t : G.api_Txn} (ht : t ∈ h.Txns) : ∃ n : Int, okT h n t = true := by
  simp only [right, Bool.and_eq_true] at hr
  have key : ∀ (l : List G.api_Txn) (n : Nat), okAll h n l = true → ∀ t ∈ l, ∃ n : Int, okT h n t = true := by
    intro l
    induction l with
    | nil => intro n _ t ht; cases ht
    | cons x l ih =>
      intro n hn t ht
      rw [show okAll h n (x :: l) = (okT h (n : Nat) x && okAll h (n + 1) l) from rfl, Bool.and_eq_true] at hn
      rcases List.mem_cons.1 ht with rfl | ht
      · exact ⟨_, hn.1⟩
      · exact ih _ hn.2 t ht
  exact key _ 0 hr.2 t ht
theorem rising_len : ∀ {l : List Int} {last : Int}, rising last l = true → last ≤ 15 → (l.length : Int) ≤ 15 - last
  | [], last, _, h => by simp; omega
  | x :: l, last, hr, h => by
    rw [show rising last (x :: l) = (decide (last < x) && decide (x < 16) && rising x l) from rfl] at hr
    simp only [Bool.and_eq_true, decide_eq_true_eq] at hr
    have := rising_len hr.2 (by omega)
    simp only [List.length_cons]; omega
theorem rising_mem : ∀ {l : List Int} {last : Int}, rising last l = true → ∀ x ∈ l, last < x ∧ x < 16
  | [], _, _, x, hx => by cases hx
  | y :: l, last, hr, x, hx => by
    rw [show rising last (y :: l) = (decide (last < y) && decide (y < 16) && rising y l) from rfl] at hr
    simp only [Bool.and_eq_true, decide_eq_true_eq] at hr
    rcases List.mem_cons.1 hx with rfl | hx
    · exact hr.1
    · have := rising_mem hr.2 x hx; omega
theorem right_writes {h : G.api_Hist} (hr : right h = true) {t : G.api_Txn} (ht : t ∈ h.Txns) : rising (-1) t.Writes = true ∧ t.Writes.length ≤ 16 := by
  obtain ⟨n, hn⟩ := right_txn hr ht
  simp only [okT, Bool.and_eq_true] at hn
  have := rising_len hn.1.1.1 (by omega)
  exact ⟨hn.1.1.1, by omega⟩
theorem pWriters {h : G.api_Hist} (hf : Fits h) (key : Int) : G.index_Writers h key = some (writers h key) := by
  unfold G.index_Writers writers
  rw [pRight hf]
  simp only [Option.bind_some]
  cases hr : right h with
  | false => rfl
  | true =>
    have hn := right_le hr
    simp only [Bool.not_true, Bool.false_eq_true, if_false, if_true]
    refine count_exit (fun k => ((List.range k).filter fun t : Nat => hasW (tx h t) key).map fun t : Nat => (t : Int)) h.Txns.length _ (fuel_gt (by omega)) (fun k hk => ?_) ?_ rfl
    · have hle : ((List.range k).filter fun t : Nat => hasW (tx h t) key).length ≤ k := by
        have := List.length_filter_le (fun t : Nat => hasW (tx h t) key) (List.range k); simpa using this
      have hw := hf.writes _ (tx_in hk)
      simp only [G.index_Writers_b1, dec_lt, hk, decide_true, if_true, idx_nat hk, Option.bind_some]
      rw [pHas (by omega), List.range_succ, List.filter_append, List.map_append]
      simp only [Option.bind_some]
      have e : (tx h (k : Int)).Writes.any (fun x => decide (key = x)) = hasW (tx h (k : Int)) key := rfl
      rw [e]
      cases hw : hasW (tx h k) key with
      | false => simp [G.index_Writers_j2, w64_succ (show k < 9223372036854775807 by omega), Sh.next, hw]
      | true =>
        simp only [if_true]
        rw [app_ok (by simp; omega)]
        simp [G.index_Writers_j2, w64_succ (show k < 9223372036854775807 by omega), Sh.next, hw]
    · simp [G.index_Writers_b1, G.index_Writers_j1, Sh.len]

def keysN (h : G.api_Hist) : List Nat := (List.range 16).filter fun k : Nat => h.Txns.any fun t => hasW t k
def keys (h : G.api_Hist) : List Int := if right h then (keysN h).map fun k : Nat => (k : Int) else []
theorem flatMap_take_len {α β : Type} (f : α → List β) (b : Nat) : ∀ (l : List α), (∀ x ∈ l, (f x).length ≤ b) → (l.flatMap f).length ≤ l.length * b
  | [], _ => by simp
  | x :: l, h => by
    have h1 := h x (List.mem_cons_self ..)
    have h2 := flatMap_take_len f b l fun y hy => h y (List.mem_cons_of_mem _ hy)
    simp only [List.flatMap_cons, List.length_append, List.length_cons, Nat.add_mul, Nat.one_mul]
    omega
theorem pKeys {h : G.api_Hist} (hf : Fits h) : G.index_Keys h = some (keys h) := by
  unfold G.index_Keys keys
  rw [pRight hf]
  simp only [Option.bind_some]
  cases hr : right h with
  | false => rfl
  | true =>
    have hn := right_le hr
    simp only [Bool.not_true, Bool.false_eq_true, if_false, if_true]
    have hwl : ∀ t ∈ h.Txns, t.Writes.length ≤ 16 := fun t ht => (right_writes hr ht).2
    refine count_exit (fun k => (h.Txns.take k).flatMap (·.Writes)) h.Txns.length _ (fuel_gt (by omega)) (fun k hk => ?_) ?_ rfl
    · have hle := flatMap_take_len (fun t : G.api_Txn => t.Writes) 16 (h.Txns.take k) fun t ht => hwl t (List.mem_of_mem_take ht)
      have hle2 := hwl _ (List.getElem_mem hk)
      have hl3 : (h.Txns.take k).length ≤ 32 := by simp; omega
      have hle3 : (h.Txns.take k).length * 16 ≤ 32 * 16 := Nat.mul_le_mul_right _ hl3
      simp only [G.index_Keys_b1, dec_lt, hk, decide_true, if_true, idx_at hk, Option.bind_some]
      rw [app_ok (by omega)]
      simp only [Option.bind_some, w64_succ (show k < 9223372036854775807 by omega), Sh.next]
      rw [List.take_add_one, List.getElem?_eq_getElem hk, Option.toList_some, List.flatMap_append]
      simp
    · simp only [G.index_Keys_b1, dec_lt, Nat.lt_irrefl, decide_false, Bool.false_eq_true, if_false, G.index_Keys_j1, List.take_length]
      have hle := flatMap_take_len (fun t : G.api_Txn => t.Writes) 16 h.Txns hwl
      have hle3 : h.Txns.length * 16 ≤ 32 * 16 := Nat.mul_le_mul_right _ hn
      rw [sort_ok (by omega)]
      simp only [Option.bind_some]
      rw [compact_ok (by simp only [List.length_mergeSort]; omega)]
      simp only [Option.bind_some]
      rw [sort_compact _ ((keysN h).map fun k : Nat => (k : Int)) ?_ ?_]
      · rw [List.pairwise_map]
        exact List.Pairwise.imp (R := fun a b : Nat => a < b) (fun {a b} hab => by omega) (List.Pairwise.filter _ List.pairwise_lt_range)
      · intro x
        simp only [List.mem_map, keysN, List.mem_filter, List.mem_range, List.any_eq_true, List.mem_flatMap]
        constructor
        · rintro ⟨k, ⟨h1, t, ht, hw⟩, rfl⟩
          refine ⟨t, ht, ?_⟩
          simp only [hasW, List.any_eq_true, decide_eq_true_eq] at hw
          obtain ⟨y, hy, rfl⟩ := hw; exact hy
        · rintro ⟨t, ht, hx⟩
          have := rising_mem (right_writes hr ht).1 x hx
          refine ⟨x.toNat, ⟨by omega, t, ht, ?_⟩, by omega⟩
          simp only [hasW, List.any_eq_true, decide_eq_true_eq]
          exact ⟨x, hx, by omega⟩

theorem writers_none {h : G.api_Hist} (hr : right h = true) {k : Nat} (hk : (h.Txns.any fun t => hasW t k) = false) : writers h (k : Int) = [] := by
  rw [List.eq_nil_iff_forall_not_mem]
  intro x hx
  obtain ⟨h1, h2⟩ := (mem_writers hr).1 hx
  rw [List.any_eq_false] at hk
  exact hk _ (tx_mem h1) h2
theorem flatMap_filter_nil {α : Type} (f : Nat → List α) (p : Nat → Bool) (l : List Nat) (h : ∀ k ∈ l, p k = false → f k = []) : (l.filter p).flatMap f = l.flatMap f := by
  induction l with
  | nil => rfl
  | cons x l ih =>
    rw [List.filter_cons]
    have h2 := ih fun k hk => h k (List.mem_cons_of_mem _ hk)
    cases hp : p x with
    | true => simp [h2]
    | false => simp [h2, h x (List.mem_cons_self ..) hp]
theorem pairs_keys {h : G.api_Hist} (hr : right h = true) : (keysN h).flatMap (fun k : Nat => pairsK k (writers h k)) = pairs h := by
  unfold keysN pairs
  refine flatMap_filter_nil _ _ _ fun k _ hk => ?_
  rw [writers_none hr hk]; rfl
theorem pPairs_inner (k : Int) (ws : List Int) (hw : ws.length ≤ 64) {i : Nat} (hi : i < ws.length) (acc : List G.api_Choice) (hacc : acc.length ≤ 100000) :
    Sh.loop (fun (p : (List G.api_Choice) × Int) => G.index_Pairs_b3 k i ws[i] (ws.drop (i + 1)) p.1 p.2) (acc, 0) = some (.inl (acc ++ pairsI k ws i, ((i + 1 : Nat) : Int))) := by
  have hg : ws.getD i 0 = ws[i] := by simp [List.getD, hi]
  refine count_exit (fun j => acc ++ ((ws.drop (i + 1)).take j).map fun w => (⟨k, ws[i], w⟩ : G.api_Choice)) (ws.drop (i + 1)).length _ (fuel_gt (by simp; omega)) (fun j hj => ?_) ?_ (by simp)
  · have hj2 : j < ws.length := by simp at hj; omega
    simp only [G.index_Pairs_b3, dec_lt, hj, decide_true, if_true, idx_at hj, Option.bind_some]
    rw [app_ok (by simp; omega)]
    simp only [Option.bind_some, w64_succ (show j < 9223372036854775807 by omega), Sh.next]
    rw [List.take_add_one, List.getElem?_eq_getElem hj, Option.toList_some, List.map_append]
    simp
  · simp only [G.index_Pairs_b3, dec_lt, Nat.lt_irrefl, decide_false, Bool.false_eq_true, if_false, G.index_Pairs_j3, w64_succ (show i < 9223372036854775807 by omega), Sh.next, List.take_length]
    unfold pairsI
    rw [hg]
theorem pPairs_mid (k : Int) (ws : List Int) (hw : ws.length ≤ 64) (v : Nat) (hv : v < 64) (acc : List G.api_Choice) (hacc : acc.length ≤ 80000) :
    Sh.loop (fun (p : (List G.api_Choice) × Int) => G.index_Pairs_b2 v k ws p.1 p.2) (acc, 0) = some (.inl (acc ++ pairsK k ws, ((v + 1 : Nat) : Int))) := by
  refine count_exit (fun i => acc ++ (List.range i).flatMap (pairsI k ws)) ws.length _ (fuel_gt (by omega)) (fun i hi => ?_) ?_ (by simp)
  · have hl := flat_len (pairsI k ws) ws.length (pairsI_len k ws) i
    have hl2 : i * ws.length ≤ 64 * 64 := Nat.mul_le_mul (by omega) hw
    simp only [G.index_Pairs_b2, dec_lt, hi, decide_true, if_true, idx_at hi, Option.bind_some, w64_succ (show i < 9223372036854775807 by omega)]
    rw [show (Sh.len ws) = ((ws.length : Nat) : Int) from rfl, sub_ok (by omega) (Nat.le_refl _)]
    simp only [Option.bind_some]
    have e : (ws.drop (i + 1)).take (ws.length - (i + 1)) = ws.drop (i + 1) := List.take_of_length_le (by simp)
    rw [e, pPairs_inner k ws hw hi _ (by simp only [List.length_append]; omega), flat_succ, List.append_assoc]
  · simp only [G.index_Pairs_b2, dec_lt, Nat.lt_irrefl, decide_false, Bool.false_eq_true, if_false, G.index_Pairs_j2, w64_succ (show v < 9223372036854775807 by omega), Sh.next]
    rfl
theorem pairs_len {h : G.api_Hist} : (pairs h).length ≤ 16 * (h.Txns.length * h.Txns.length) :=
  flat_len _ _ (fun _ => Nat.le_trans (pairsK_len _ _) (Nat.mul_le_mul writers_len writers_len)) 16
theorem pairs_no {h : G.api_Hist} (hr : right h = false) : pairs h = [] := by
  unfold pairs
  rw [List.flatMap_eq_nil_iff]
  intro k _
  have : writers h (k : Int) = [] := by unfold writers; rw [if_neg (by rw [hr]; simp)]
  rw [this]; rfl
theorem pPairs {h : G.api_Hist} (hf : Fits h) : G.index_Pairs h = some (pairs h) := by
  unfold G.index_Pairs
  rw [pKeys hf]
  simp only [Option.bind_some]
  cases hr : right h with
  | false =>
    have e : keys h = [] := by unfold keys; rw [if_neg (by rw [hr]; simp)]
    rw [e, pairs_no hr]
    refine count_exit (fun _ => []) 0 _ (by decide) (fun k hk => by omega) ?_ rfl
    simp [G.index_Pairs_b1, G.index_Pairs_j1]
  | true =>
    have hn := right_le hr
    have e : keys h = (keysN h).map fun k : Nat => (k : Int) := by unfold keys; rw [if_pos hr]
    have hkl : (keysN h).length ≤ 16 := by
      have := List.length_filter_le (fun k : Nat => h.Txns.any fun t => hasW t k) (List.range 16); simpa [keysN] using this
    rw [e]
    refine count_exit (fun i => ((keysN h).take i).flatMap fun k : Nat => pairsK k (writers h k)) (keysN h).length _ (fuel_gt (by omega)) (fun i hi => ?_) ?_ rfl
    · have hi2 : i < ((keysN h).map fun k : Nat => (k : Int)).length := by simpa using hi
      have hwl : ∀ k : Nat, (pairsK (k : Int) (writers h k)).length ≤ 1024 := fun _ => Nat.le_trans (pairsK_len _ _) (Nat.mul_le_mul (Nat.le_trans writers_len hn) (Nat.le_trans writers_len hn))
      have hacc := flatMap_take_len (fun k : Nat => pairsK k (writers h k)) 1024 ((keysN h).take i) fun k _ => hwl k
      have h3 : ((keysN h).take i).length ≤ 16 := by simp; omega
      have h4 : ((keysN h).take i).length * 1024 ≤ 16 * 1024 := Nat.mul_le_mul_right _ h3
      simp only [G.index_Pairs_b1, Sh.len, List.length_map, dec_lt, hi, decide_true, if_true, idx_at hi2, Option.bind_some, List.getElem_map, pWriters hf]
      rw [pPairs_mid _ _ (Nat.le_trans writers_len (by omega)) i (by omega) _ (by omega), List.take_add_one, List.getElem?_eq_getElem hi, Option.toList_some, List.flatMap_append]
      simp
    · simp only [G.index_Pairs_b1, Sh.len, List.length_map, dec_lt, Nat.lt_irrefl, decide_false, Bool.false_eq_true, if_false, G.index_Pairs_j1, List.take_length, pairs_keys hr]
end Pl
end

section
/- What is known of a history's order, and what follows from choices: the graphs that the program makes. -/
namespace Pl
open Go Go.Av

def g0 : G.graph_Graph := ⟨0, []⟩

end Pl
end

section
/- What follows from choices: the graphs that the program makes. -/
namespace Pl
open Go Go.Av

def cr (h : G.api_Hist) (l : List G.api_Choice) : Bool := right h && l.all (one h)
theorem cr_iff {h : G.api_Hist} {l : List G.api_Choice} : cr h l = true ↔ right h = true ∧ ∀ c ∈ l, one h c = true := by simp [cr]
end Pl
end

section
/- The first open pair, and the choices that an order makes: what the program answers. -/
namespace Pl
open Go Go.Av

theorem pHasCC {l : List G.api_Choice} (hl : l.length < 9223372036854775807) (v : G.api_Choice) : G.slices_Contains_api_Choice_api_Choice l v = some (l.any (fun c => decide (v = c))) := by
  unfold G.slices_Contains_api_Choice_api_Choice G.slices_Index_api_Choice_api_Choice
  rw [find_loop l (fun x => decide (v = x)) (fun k => (k : Int)) (some (-1)) (fuel_gt (by omega)) (fun k hk => ?_) ?_, pos_some]
  · rw [Option.bind_some, contains_of_find]
  · simp [G.slices_Index_api_Choice_api_Choice_b1, G.slices_Index_api_Choice_api_Choice_j1]
  · simp only [G.slices_Index_api_Choice_api_Choice_b1, dec_lt, hk, decide_true, if_true, idx_at hk, Option.bind_some, w64_succ (show k < 9223372036854775807 by omega)]
    rfl
def undec (l : List G.api_Choice) (p : G.api_Choice) : Bool := !(l.any (fun c => decide (p = c))) && !(l.any (fun c => decide (back p = c)))
def openO (h : G.api_Hist) (l : List G.api_Choice) : Option G.api_Choice := if cr h l then (pairs h).find? (undec l) else none
def openB (h : G.api_Hist) (l : List G.api_Choice) : G.api_Choice × Bool := match openO h l with | some p => (p, true) | none => (⟨0, 0, 0⟩, false)
theorem find_elim {α β : Type} (p : α → Bool) (d : α) (A : α → β) (X : β) : ∀ l : List α, (l.findIdx? p).elim (some X) (fun k => some (A (l.getD k d))) = some (match l.find? p with | some x => A x | none => X)
  | [] => rfl
  | x :: l => by
    rw [List.findIdx?_cons, List.find?_cons]
    cases hp : p x with
    | true => simp [List.getD]
    | false =>
      have ih := find_elim p d A X l
      simp only [Bool.false_eq_true, if_false]
      rw [← ih]
      cases l.findIdx? p <;> simp [List.getD]
theorem pairs_le {h : G.api_Hist} (hr : right h = true) : (pairs h).length ≤ 20000 := by
  have hn := right_le hr
  have h1 := pairs_len (h := h)
  have h2 : h.Txns.length * h.Txns.length ≤ 32 * 32 := Nat.mul_le_mul hn hn
  omega
theorem pOpen {h : G.api_Hist} (hf : Fits h) {l : List G.api_Choice} (hl : l.length ≤ 20000) : G.choice_Open h l = some (openB h l) := by
  unfold G.choice_Open openB openO
  rw [pChoice hf hl]
  simp only [Option.bind_some]
  rw [show (right h && l.all (one h)) = cr h l from rfl]
  cases hc : cr h l with
  | false => rfl
  | true =>
    obtain ⟨hr, _⟩ := cr_iff.1 hc
    have hpl := pairs_le hr
    simp only [Bool.not_true, Bool.false_eq_true, if_false, if_true, pPairs hf, Option.bind_some]
    rw [find_loop (pairs h) (undec l) (fun k => ((pairs h).getD k default, true)) (some (⟨0, 0, 0⟩, false)) (fuel_gt (by omega)) (fun k hk => ?_) ?_]
    · rw [find_elim (undec l) default (fun x => (x, true)) (⟨0, 0, 0⟩, false) (pairs h)]
      cases (pairs h).find? (undec l) <;> rfl
    · simp only [G.choice_Open_b1, dec_lt, Nat.lt_irrefl, decide_false, Bool.false_eq_true, if_false, G.choice_Open_j1]
    · have h4 : (pairs h).getD k default = (pairs h)[k] := by simp [List.getD, List.getElem?_eq_getElem hk]
      simp only [G.choice_Open_b1, dec_lt, hk, decide_true, if_true, idx_at hk, Option.bind_some, pHasCC (show l.length < 9223372036854775807 by omega), G.choice_Open_j2, w64_succ (show k < 9223372036854775807 by omega), h4, Sh.exit, Sh.next, Option.map_some]
      rw [show G.api_Choice.mk ((pairs h)[k]).Key ((pairs h)[k]).B ((pairs h)[k]).A = back ((pairs h)[k]) from rfl]
      unfold undec
      cases l.any (fun c => decide ((pairs h)[k] = c)) <;> cases l.any (fun c => decide (back ((pairs h)[k]) = c)) <;> rfl

def plc (order : List Int) (n : Int) : Int := pos order (fun x => decide (x = n))
theorem pIdxP {l : List Int} (hl : l.length < 9223372036854775808) (v : Int) : G.slices_Index_int_int l v = some (plc l v) := by
  rw [pIdx hl]
  unfold plc
  congr 2
  funext x; congr 1; exact propext ⟨fun e => e.symm, fun e => e.symm⟩
def permB (order : List Int) (n : Nat) : Bool := decide (order.length = n) && (List.range n).all fun i : Nat => decide (0 ≤ plc order (i : Int))
def turnC (order : List Int) (c : G.api_Choice) : G.api_Choice := if plc order c.B < plc order c.A then back c else c
def ofB (h : G.api_Hist) (order : List Int) : List G.api_Choice := if right h && permB order h.Txns.length then (pairs h).map (turnC order) else []
theorem pOf {h : G.api_Hist} (hf : Fits h) {order : List Int} (ho : order.length < 9223372036854775807) : G.choice_Of h order = some (ofB h order) := by
  unfold G.choice_Of ofB
  rw [pRight hf]
  simp only [Option.bind_some]
  cases hr : right h with
  | false => rfl
  | true =>
    have hn := right_le hr
    simp only [Bool.not_true, Bool.false_eq_true, if_false, Bool.true_and, G.choice_Of_j1]
    by_cases hlen0 : ¬ order.length = h.Txns.length
    · have hlen := hlen0
      have : (Sh.len order) ≠ (Sh.len h.Txns) := by simp only [Sh.len]; omega
      have e : permB order h.Txns.length = false := by unfold permB; rw [decide_eq_false hlen]; rfl
      rw [decide_eq_true this, e]; rfl
    have hlen := Classical.not_not.1 hlen0
    have heq : ¬ (Sh.len order) ≠ (Sh.len h.Txns) := by simp only [Sh.len]; omega
    rw [decide_eq_false heq]
    simp only [Bool.false_eq_true, if_false]
    rw [show (Sh.len order) = ((h.Txns.length : Nat) : Int) by simp only [Sh.len]; omega, mk_ok (by omega) (by omega)]
    simp only [Option.bind_some]
    have st : ∀ k, k < h.Txns.length → ((List.range k).map (fun i : Nat => plc order (i : Int)) ++ List.replicate (h.Txns.length - k) 0)[k]? = some 0 := fun k hk => by
      rw [List.getElem?_append_right (by simp), List.getElem?_replicate]
      simp only [List.length_map, List.length_range, Nat.sub_self]
      rw [if_pos (by omega)]
    by_cases hall : ∃ k, k < h.Txns.length ∧ plc order (k : Int) < 0
    · obtain ⟨k, ⟨hk, hneg⟩, hmin⟩ := exists_least _ hall
      have e : permB order h.Txns.length = false := by
        unfold permB
        rw [Bool.and_eq_false_iff, List.all_eq_false]
        exact .inr ⟨k, List.mem_range.2 hk, by simp; omega⟩
      rw [e]
      simp only [Bool.false_eq_true, if_false]
      refine run_exit (fun i => ((List.range i).map (fun i : Nat => plc order (i : Int)) ++ List.replicate (h.Txns.length - i) 0, (i : Int))) k _ (fuel_gt (by omega)) (fun i hi => ?_) ?_ (by simp)
      · have hpos : ¬ plc order (i : Int) < 0 := fun hc => by have := hmin i ⟨by omega, hc⟩; omega
        have hil : i < h.Txns.length := by omega
        have hg := st i hil
        have hl2 : i < ((List.range i).map (fun i : Nat => plc order (i : Int)) ++ List.replicate (h.Txns.length - i) 0).length := by simp; omega
        have hset : Sh.set ((List.range i).map (fun i : Nat => plc order (i : Int)) ++ List.replicate (h.Txns.length - i) 0) (i : Int) (plc order (i : Int)) = (List.range (i + 1)).map (fun i : Nat => plc order (i : Int)) ++ List.replicate (h.Txns.length - (i + 1)) 0 := by
          rw [set_at, List.set_append_right _ _ (by simp), List.range_succ, List.map_append, List.append_assoc]
          congr 1
          simp only [List.length_map, List.length_range, Nat.sub_self]
          rw [show h.Txns.length - i = (h.Txns.length - (i + 1)) + 1 by omega, List.replicate_succ]
          simp
        have hl3 : i < (Sh.set ((List.range i).map (fun i : Nat => plc order (i : Int)) ++ List.replicate (h.Txns.length - i) 0) (i : Int) (plc order (i : Int))).length := by simp [Sh.set]; omega
        have hx : (Sh.set ((List.range i).map (fun i : Nat => plc order (i : Int)) ++ List.replicate (h.Txns.length - i) 0) (i : Int) (plc order (i : Int)))[i] = plc order (i : Int) := by simp [Sh.set]
        have hmade : Sh.len (List.replicate h.Txns.length (0 : Int)) = ((h.Txns.length : Nat) : Int) := by simp [Sh.len]
        simp only [G.choice_Of_b2, hmade, dec_lt, hil, decide_true, if_true, pIdxP (show order.length < 9223372036854775808 by omega), Option.bind_some, idx_at hl2, idx_at hl3, hx, hpos, decide_false, Bool.false_eq_true, if_false, w64_succ (show i < 9223372036854775807 by omega), Sh.next]
        rw [hset]
      · have hl2 : k < ((List.range k).map (fun i : Nat => plc order (i : Int)) ++ List.replicate (h.Txns.length - k) 0).length := by simp; omega
        have hl3 : k < (Sh.set ((List.range k).map (fun i : Nat => plc order (i : Int)) ++ List.replicate (h.Txns.length - k) 0) (k : Int) (plc order (k : Int))).length := by simp [Sh.set]; omega
        have hx : (Sh.set ((List.range k).map (fun i : Nat => plc order (i : Int)) ++ List.replicate (h.Txns.length - k) 0) (k : Int) (plc order (k : Int)))[k] = plc order (k : Int) := by simp [Sh.set]
        have hmade : Sh.len (List.replicate h.Txns.length (0 : Int)) = ((h.Txns.length : Nat) : Int) := by simp [Sh.len]
        simp only [G.choice_Of_b2, hmade, dec_lt, hk, decide_true, if_true, pIdxP (show order.length < 9223372036854775808 by omega), Option.bind_some, idx_at hl2, idx_at hl3, hx, hneg]
    · have hpos : ∀ k, k < h.Txns.length → 0 ≤ plc order (k : Int) := fun k hk => by
        rcases Int.lt_or_le (plc order (k : Int)) 0 with h1 | h1
        · exact absurd ⟨k, hk, h1⟩ hall
        · exact h1
      have e : permB order h.Txns.length = true := by
        unfold permB
        rw [Bool.and_eq_true, decide_eq_true_eq, List.all_eq_true]
        exact ⟨hlen, fun k hk => by simpa using hpos k (List.mem_range.1 hk)⟩
      rw [e]
      simp only [if_true]
      refine run_exit (fun i => ((List.range i).map (fun i : Nat => plc order (i : Int)) ++ List.replicate (h.Txns.length - i) 0, (i : Int))) h.Txns.length _ (fuel_gt (by omega)) (fun i hil => ?_) ?_ (by simp)
      · have hp := hpos i hil
        have hl2 : i < ((List.range i).map (fun i : Nat => plc order (i : Int)) ++ List.replicate (h.Txns.length - i) 0).length := by simp; omega
        have hset : Sh.set ((List.range i).map (fun i : Nat => plc order (i : Int)) ++ List.replicate (h.Txns.length - i) 0) (i : Int) (plc order (i : Int)) = (List.range (i + 1)).map (fun i : Nat => plc order (i : Int)) ++ List.replicate (h.Txns.length - (i + 1)) 0 := by
          rw [set_at, List.set_append_right _ _ (by simp), List.range_succ, List.map_append, List.append_assoc]
          congr 1
          simp only [List.length_map, List.length_range, Nat.sub_self]
          rw [show h.Txns.length - i = (h.Txns.length - (i + 1)) + 1 by omega, List.replicate_succ]
          simp
        have hl3 : i < (Sh.set ((List.range i).map (fun i : Nat => plc order (i : Int)) ++ List.replicate (h.Txns.length - i) 0) (i : Int) (plc order (i : Int))).length := by simp [Sh.set]; omega
        have hx : (Sh.set ((List.range i).map (fun i : Nat => plc order (i : Int)) ++ List.replicate (h.Txns.length - i) 0) (i : Int) (plc order (i : Int)))[i] = plc order (i : Int) := by simp [Sh.set]
        have hmade : Sh.len (List.replicate h.Txns.length (0 : Int)) = ((h.Txns.length : Nat) : Int) := by simp [Sh.len]
        have hnn : ¬ plc order (i : Int) < 0 := by omega
        simp only [G.choice_Of_b2, hmade, dec_lt, hil, decide_true, if_true, pIdxP (show order.length < 9223372036854775808 by omega), Option.bind_some, idx_at hl2, idx_at hl3, hx, hnn, decide_false, Bool.false_eq_true, if_false, w64_succ (show i < 9223372036854775807 by omega), Sh.next]
        rw [hset]
      · have hmade : Sh.len (List.replicate h.Txns.length (0 : Int)) = ((h.Txns.length : Nat) : Int) := by simp [Sh.len]
        simp only [G.choice_Of_b2, hmade, dec_lt, Nat.lt_irrefl, decide_false, Bool.false_eq_true, if_false, Nat.sub_self, List.replicate_zero, List.append_nil, G.choice_Of_j2, pPairs hf, Option.bind_some]
        congr 1
        have hpl := pairs_le hr
        have pidx : ∀ a : Nat, a < h.Txns.length → Sh.idx ((List.range h.Txns.length).map (fun i : Nat => plc order (i : Int))) (a : Int) = some (plc order (a : Int)) := fun a ha => by
          rw [idx_at (by simpa using ha)]; simp
        refine count_exit (fun i => ((pairs h).take i).map (turnC order) ++ (pairs h).drop i) (pairs h).length _ (fuel_gt (by omega)) (fun i hi => ?_) ?_ (by simp)
        · obtain ⟨a, b, ea, eb, ha, hb, _⟩ := one_nat (pairs_one hr (List.getElem_mem hi))
          have hl1 : i < (((pairs h).take i).map (turnC order) ++ (pairs h).drop i).length := by simp; omega
          have hx : (((pairs h).take i).map (turnC order) ++ (pairs h).drop i)[i] = (pairs h)[i] := by
            rw [List.getElem_append_right (by simp; omega)]
            have : i - (((pairs h).take i).map (turnC order)).length = 0 := by simp; omega
            simp only [this, List.getElem_drop, Nat.add_zero]
          have fin : ∀ c : G.api_Choice, c = turnC order (pairs h)[i] → (((pairs h).take i).map (turnC order) ++ (pairs h).drop i).set i c = ((pairs h).take (i + 1)).map (turnC order) ++ (pairs h).drop (i + 1) := fun c hc => by
            rw [List.set_append_right _ _ (by simp; omega), List.take_add_one, List.getElem?_eq_getElem hi, Option.toList_some, List.map_append, List.append_assoc, List.drop_eq_getElem_cons hi]
            have : i - (((pairs h).take i).map (turnC order)).length = 0 := by simp; omega
            rw [this, hc]; rfl
          simp only [G.choice_Of_b1, dec_lt, hi, decide_true, if_true, idx_at hl1, hx, Option.bind_some, ea, eb, pidx a ha, pidx b hb]
          have hj4 : ∀ L, G.choice_Of_j4 (i : Int) L = some (.inl (L, ((i + 1 : Nat) : Int))) := fun L => by
            unfold G.choice_Of_j4; rw [w64_succ (show i < 9223372036854775807 by omega)]; rfl
          by_cases hc : plc order (b : Int) < plc order (a : Int)
          · have ht : turnC order (pairs h)[i] = back (pairs h)[i] := by unfold turnC; rw [ea, eb, if_pos hc]
            rw [decide_eq_true hc]
            simp only [if_true, set_at]
            have hl3 : i < ((((pairs h).take i).map (turnC order) ++ (pairs h).drop i).set i (G.api_Choice.mk ((pairs h)[i]).Key (b : Int) (b : Int))).length := by simp; omega
            rw [idx_at hl3]
            simp only [Option.bind_some, List.getElem_set_self, hj4, List.set_set]
            rw [fin _ (by rw [ht]; unfold back; rw [ea, eb])]
          · have ht : turnC order (pairs h)[i] = (pairs h)[i] := by unfold turnC; rw [ea, eb, if_neg hc]
            rw [decide_eq_false hc]
            simp only [Bool.false_eq_true, if_false, hj4]
            have := fin (pairs h)[i] ht.symm
            rw [← this]
            congr 3
            have hs : (((pairs h).take i).map (turnC order) ++ (pairs h).drop i).set i (((pairs h).take i).map (turnC order) ++ (pairs h).drop i)[i] = ((pairs h).take i).map (turnC order) ++ (pairs h).drop i := List.set_getElem_self _
            rw [hx] at hs
            rw [hs]
        · simp only [G.choice_Of_b1, dec_lt, Nat.lt_irrefl, decide_false, Bool.false_eq_true, if_false, List.take_length, List.drop_length, List.append_nil, G.choice_Of_j3]
end Pl
end

section
/- Law 18: what follows from choices. -/
namespace Pl
open Go Go.Av

theorem awake18 : G.inquestlaw18_awake = some true := by kernel_rfl
theorem few20 {h : G.api_Hist} {m : Int} (hF : few h m = true) : (h.Txns.length : Int) ≤ m := by
  simp only [few, Bool.and_eq_true, decide_eq_true_eq] at hF; exact hF.1

theorem r18_Back (c : G.api_Choice) : G.inquestref18_Back c = some (back c) := rfl
theorem r18_place {order : List Int} (ho : order.length < 9223372036854775807) (n : Int) : G.inquestref18_place order n = some (plc order n) := by
  unfold G.inquestref18_place plc
  rw [find_loop order (fun x => decide (x = n)) (fun k => (k : Int)) (some (-1)) (fuel_gt (by omega)) (fun k hk => ?_) ?_, pos_some]
  · simp [G.inquestref18_place_b1, G.inquestref18_place_j1]
  · simp only [G.inquestref18_place_b1, dec_lt, hk, decide_true, if_true, idx_at hk, Option.bind_some, w64_succ (show k < 9223372036854775807 by omega)]
    rfl
theorem r18_Perm {order : List Int} (ho : order.length < 9223372036854775807) (n : Nat) : G.inquestref18_Perm order (n : Int) = some (permB order n) := by
  unfold G.inquestref18_Perm permB
  by_cases hl : order.length = n
  · have h1 : ¬ (Sh.len order) ≠ (n : Int) := by simp only [Sh.len]; omega
    rw [decide_eq_false h1, decide_eq_true hl, Bool.true_and]
    simp only [Bool.false_eq_true, if_false]
    rw [scan_true (b := fun (p : Int) => G.inquestref18_Perm_b1 order n p) n (fun i => decide (0 ≤ plc order (i : Int))) (fuel_gt (by omega)) (fun k hk => ?_) ?_]
    · congr 1
      rw [Bool.eq_iff_iff, decide_eq_true_eq, List.all_eq_true]
      exact ⟨fun h i hi => h i (List.mem_range.1 hi), fun h i hi => h i (List.mem_range.2 hi)⟩
    · simp [G.inquestref18_Perm_b1, G.inquestref18_Perm_j1, Sh.exit]
    · simp only [G.inquestref18_Perm_b1, dec_lt, hk, decide_true, if_true, r18_place ho, Option.bind_some, w64_succ (show k < 9223372036854775807 by omega)]
      by_cases hp : 0 ≤ plc order (k : Int)
      · have : ¬ plc order (k : Int) < 0 := by omega
        rw [decide_eq_false this, decide_eq_true hp]; rfl
      · have : plc order (k : Int) < 0 := by omega
        rw [decide_eq_true this, decide_eq_false hp]; rfl
  · have h1 : (Sh.len order) ≠ (n : Int) := by simp only [Sh.len]; omega
    rw [decide_eq_true h1, decide_eq_false hl]; rfl
theorem r18_Of {h : G.api_Hist} (hf : Fits h) (hn : h.Txns.length ≤ 64) {order : List Int} (ho : order.length < 9223372036854775807) : G.inquestref18_Of h order = some (ofB h order) := by
  unfold G.inquestref18_Of ofB
  rw [rRight hf, show (Sh.len h.Txns) = ((h.Txns.length : Nat) : Int) from rfl, r18_Perm ho]
  simp only [Option.bind_some]
  cases hr : right h with
  | false => rfl
  | true =>
    simp only [Bool.not_true, Bool.false_eq_true, if_false, Bool.true_and]
    cases hp : permB order h.Txns.length with
    | false => rfl
    | true =>
      have hpl := pairs_le hr
      simp only [Bool.not_true, G.inquestref18_Of_j1, Bool.false_eq_true, if_false, if_true, r09_Pairs hf hn, Option.bind_some]
      refine count_exit (fun i => ((pairs h).take i).map (turnC order)) (pairs h).length _ (fuel_gt (by omega)) (fun i hi => ?_) ?_ rfl
      · have hj : ∀ c, c = turnC order (pairs h)[i] → G.inquestref18_Of_j3 (((pairs h).take i).map (turnC order)) i c = some (.inl (((pairs h).take (i + 1)).map (turnC order), ((i + 1 : Nat) : Int))) := fun c hc => by
          unfold G.inquestref18_Of_j3
          rw [app_ok (by simp; omega)]
          simp only [Option.bind_some, w64_succ (show i < 9223372036854775807 by omega), Sh.next]
          rw [List.take_add_one, List.getElem?_eq_getElem hi, Option.toList_some, List.map_append, hc]
          rfl
        simp only [G.inquestref18_Of_b1, dec_lt, hi, decide_true, if_true, idx_at hi, Option.bind_some, r18_place ho, r18_Back]
        by_cases hc : plc order ((pairs h)[i]).B < plc order ((pairs h)[i]).A
        · rw [decide_eq_true hc, if_pos rfl]
          exact hj _ (by unfold turnC; rw [if_pos hc])
        · rw [decide_eq_false hc, if_neg (by simp)]
          exact hj _ (by unfold turnC; rw [if_neg hc])
      · simp only [G.inquestref18_Of_b1, dec_lt, Nat.lt_irrefl, decide_false, Bool.false_eq_true, if_false, List.take_length, G.inquestref18_Of_j2]
theorem of_one {h : G.api_Hist} (hr : right h = true) {order : List Int} : ∀ c ∈ ofB h order, one h c = true := by
  intro c hc
  unfold ofB at hc
  split at hc
  · obtain ⟨p, hp, rfl⟩ := List.mem_map.1 hc
    have := pairs_one hr hp
    unfold turnC
    split
    · exact one_back this
    · exact this
  · cases hc
theorem of_len {h : G.api_Hist} {order : List Int} : (ofB h order).length ≤ (pairs h).length := by
  unfold ofB
  split <;> simp
theorem ChoiceOf (h : G.api_Hist) (order : List Int) : G.inquestlaw18_ChoiceOf h order = some true := by
  unfold G.inquestlaw18_ChoiceOf
  rw [awake18, rFew (by omega)]
  simp only [Option.bind_some, Bool.not_true, Bool.false_eq_true, if_false]
  cases hF : few h 20 with
  | false => rfl
  | true =>
    have hf := few_fits (by omega) hF
    have hn := few20 hF
    simp only [Bool.not_true, Bool.false_eq_true, if_false]
    by_cases hlen : (60 : Int) < Sh.len order
    · rw [decide_eq_true hlen]; rfl
    · rw [decide_eq_false hlen]
      have hl : order.length ≤ 60 := by simp [Sh.len] at hlen; omega
      have hpl := pairs_len (h := h)
      have hpl2 : h.Txns.length * h.Txns.length ≤ 40 * 40 := Nat.mul_le_mul (by omega) (by omega)
      have hol := of_len (h := h) (order := order)
      simp only [G.inquestlaw18_ChoiceOf_j1, Bool.false_eq_true, if_false, pOf hf (show order.length < 9223372036854775807 by omega), r18_Of hf (show h.Txns.length ≤ 64 by omega) (show order.length < 9223372036854775807 by omega), Option.bind_some, rSame (show (ofB h order).length ≤ 1000000 by omega), Bool.not_true, rRight hf]
      rw [show (Sh.len h.Txns) = ((h.Txns.length : Nat) : Int) from rfl, r18_Perm (show order.length < 9223372036854775807 by omega)]
      simp only [Option.bind_some]
      cases hr : right h with
      | false => rfl
      | true =>
        cases hp : permB order h.Txns.length with
        | false => rfl
        | true =>
          have hpl3 := pairs_le hr
          have hnot : ¬ (20000 : Int) < Sh.len (ofB h order) := by simp only [Sh.len]; omega
          have hc : cr h (ofB h order) = true := cr_iff.2 ⟨hr, of_one hr⟩
          have hop : openB h (ofB h order) = (⟨0, 0, 0⟩, false) := by
            unfold openB openO
            rw [if_pos hc]
            have : (pairs h).find? (undec (ofB h order)) = none := by
              rw [List.find?_eq_none]
              intro p hpm
              have hm : turnC order p ∈ ofB h order := by
                unfold ofB
                rw [if_pos (by rw [hr, hp]; rfl)]
                exact List.mem_map.2 ⟨p, hpm, rfl⟩
              unfold undec
              unfold turnC at hm
              split at hm
              · have : (ofB h order).any (fun c => decide (back p = c)) = true := by
                  simp only [List.any_eq_true, decide_eq_true_eq]; exact ⟨_, hm, rfl⟩
                rw [this]; simp
              · have : (ofB h order).any (fun c => decide (p = c)) = true := by
                  simp only [List.any_eq_true, decide_eq_true_eq]; exact ⟨_, hm, rfl⟩
                rw [this]; simp
            rw [this]
          rw [decide_eq_false hnot]
          simp only [Bool.not_true, Bool.false_eq_true, if_false, G.inquestlaw18_ChoiceOf_j2, pOpen hf (show (ofB h order).length ≤ 20000 by omega), hop, Option.bind_some, pChoice hf (show (ofB h order).length ≤ 20000 by omega)]
          rw [show (right h && (ofB h order).all (one h)) = cr h (ofB h order) from rfl, hc]
          rfl
end Pl
end
