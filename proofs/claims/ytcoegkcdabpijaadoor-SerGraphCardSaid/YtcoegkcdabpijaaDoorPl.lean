/- What the plain functions answer. -/
import Derived.Test.YtcoegkcdabpijaaDoorBase1
import Derived.Test.YtcoegkcdabpijaaDoorSh
import Derived.KernelRfl
set_option linter.unusedSimpArgs false
set_option linter.unusedVariables false
section
/- What is used to reason about the plain functions. -/
namespace Pl
open Go Go.Av

theorem w64_id {n : Int} (h1 : -9223372036854775808 ≤ n) (h2 : n < 9223372036854775808) : w64 n = n := i64_wrap h1 h2
theorem idx_at {α : Type} {l : List α} {k : Nat} (h : k < l.length) : Sh.idx l (k : Int) = some l[k] := by
  simp [Sh.idx, h]
theorem idx_of {α : Type} {l : List α} {i : Int} (h0 : 0 ≤ i) (h : i < l.length) : Sh.idx l i = some (l[i.toNat]'(by omega)) := by
  unfold Sh.idx
  rw [if_pos h0]
  exact List.getElem?_eq_getElem (by omega)
theorem app_ok {α : Type} {b : Nat} {l m : List α} (h : (l.length + m.length) * b ≤ 140737488355328) : Sh.app b l m = some (l ++ m) := by
  simp [Sh.app, h]
theorem mk_ok {α : Type} {b m : Nat} {z : α} (h : b * m ≤ 140737488355328) (h2 : m ≤ 4611686018427387904) : Sh.mk b (m : Int) (m : Int) z = some (List.replicate m z) := by
  have : ((b : Int) * (m : Int)) ≤ 140737488355328 := by
    rw [← Int.natCast_mul]; omega
  unfold Sh.mk
  rw [if_pos ⟨by omega, by omega, this, by omega⟩]
  simp
theorem sub_ok {α : Type} {l : List α} {m k : Nat} (h1 : m ≤ k) (h2 : k ≤ l.length) : Sh.sub l (m : Int) (k : Int) = some ((l.drop m).take (k - m)) := by
  unfold Sh.sub
  rw [if_pos ⟨by omega, by omega, by omega⟩]
  simp
theorem set_at {α : Type} (l : List α) (k : Nat) (x : α) : Sh.set l (k : Int) x = l.set k x := by simp [Sh.set]
theorem cpy_ok {α : Type} {l m : List α} (h : m.length = l.length) : Sh.cpy l m = some m := by simp [Sh.cpy, h]

theorem count {σ α : Type} {b : σ × Int → Option ((σ × Int) ⊕ α)} (S : Nat → σ) (m : Nat) (r : α) (hm : m < Sh.FUEL) (h : ∀ k, k < m → b (S k, (k : Int)) = some (.inl (S (k + 1), ((k + 1 : Nat) : Int)))) (hr : b (S m, (m : Int)) = some (.inr r)) {s : σ} (hs : s = S 0) :
    Sh.loop b (s, 0) = some r := by
  subst hs
  exact Sh.loop_run (fun k => (S k, (k : Int))) m r hm h hr
theorem next_some {σ α : Type} (s : σ) : Sh.next (α := α) s = some (.inl s) := rfl
theorem exit_some {σ α : Type} (x : α) : Sh.exit (σ := σ) (some x) = some (.inr x) := rfl
theorem fuel_gt {n : Nat} (h : n < 9223372036854775808) : n < Sh.FUEL := h
theorem w64_succ {k : Nat} (h : k < 9223372036854775807) : w64 ((k : Int) + 1) = ((k + 1 : Nat) : Int) := by
  rw [w64_id (by omega) (by omega)]; omega
theorem len_eq {α : Type} (l : List α) : Sh.len l = (l.length : Int) := rfl
theorem dec_lt {k n : Nat} : decide ((k : Int) < (n : Int)) = decide (k < n) := by
  congr 1; exact propext (by omega)
end Pl
namespace Pl
open Go Go.Av
theorem scan {α : Type} {b : Int → Option (Int ⊕ α)} (s m : Nat) (p : Nat → Bool) (A B : α) (hsm : s ≤ m) (hm : m < Sh.FUEL) (h : ∀ k, s ≤ k → k < m → b (k : Int) = if p k then some (.inl ((k + 1 : Nat) : Int)) else some (.inr B)) (hr : b (m : Int) = some (.inr A)) :
    Sh.loop b (s : Int) = some (if ∀ k, k < m → s ≤ k → p k = true then A else B) := by
  by_cases hall : ∀ k, k < m → s ≤ k → p k = true
  · rw [if_pos hall]
    refine Sh.loop_run (fun k => ((s + k : Nat) : Int)) (m - s) A (by omega) (fun k hk => ?_) ?_
    · rw [h (s + k) (by omega) (by omega), if_pos (hall _ (by omega) (by omega))]; rfl
    · rw [show s + (m - s) = m by omega]; exact hr
  · rw [if_neg hall]
    have hex : ∃ k, s ≤ k ∧ k < m ∧ p k = false := by
      apply Classical.byContradiction
      intro hn
      exact hall (fun k h2 h1 => by
        cases hp : p k with
        | true => rfl
        | false => exact absurd ⟨k, h1, h2, hp⟩ hn)
    obtain ⟨k, hk, hmin⟩ := exists_least _ hex
    refine Sh.loop_run (fun q => ((s + q : Nat) : Int)) (k - s) B (by omega) (fun q hq => ?_) ?_
    · have : p (s + q) = true := by
        cases hp : p (s + q) with
        | true => rfl
        | false => have := hmin (s + q) ⟨by omega, by omega, hp⟩; omega
      rw [h (s + q) (by omega) (by omega), if_pos this]; rfl
    · rw [show s + (k - s) = k by omega, h k hk.1 hk.2.1, if_neg (by rw [hk.2.2]; simp)]
theorem scan0 {α : Type} {b : Int → Option (Int ⊕ α)} (m : Nat) (p : Nat → Bool) (A B : α) (hm : m < Sh.FUEL) (h : ∀ k, k < m → b (k : Int) = if p k then some (.inl ((k + 1 : Nat) : Int)) else some (.inr B)) (hr : b (m : Int) = some (.inr A)) :
    Sh.loop b 0 = some (if ∀ k, k < m → p k = true then A else B) := by
  have := scan 0 m p A B (by omega) hm (fun k _ hk => h k hk) hr
  simpa using this
theorem scan_true {b : Int → Option (Int ⊕ Bool)} (m : Nat) (p : Nat → Bool) (hm : m < Sh.FUEL) (h : ∀ k, k < m → b (k : Int) = if p k then some (.inl ((k + 1 : Nat) : Int)) else some (.inr false)) (hr : b (m : Int) = some (.inr true)) :
    Sh.loop b 0 = some (decide (∀ k, k < m → p k = true)) := by
  rw [scan0 m p true false hm h hr]
  by_cases hq : ∀ k, k < m → p k = true
  · rw [if_pos hq, decide_eq_true hq]
  · rw [if_neg hq, decide_eq_false hq]
end Pl
namespace Pl
open Go Go.Av
theorem run_exit {σ α : Type} {b : σ → Option (σ ⊕ α)} (S : Nat → σ) (m : Nat) (X : Option α) (hm : m < Sh.FUEL) (h : ∀ k, k < m → b (S k) = some (.inl (S (k + 1)))) (hr : b (S m) = Sh.exit X) {s : σ} (hs : s = S 0) : Sh.loop b s = X := by
  subst hs
  unfold Sh.loop
  rw [show Sh.FUEL = m + ((Sh.FUEL - m - 1) + 1) by omega, Sh.iter_go S m h]
  simp only [Sh.iter, hr]
  cases X <;> rfl
theorem count_exit {σ α : Type} {b : σ × Int → Option ((σ × Int) ⊕ α)} (S : Nat → σ) (m : Nat) (X : Option α) (hm : m < Sh.FUEL) (h : ∀ k, k < m → b (S k, (k : Int)) = some (.inl (S (k + 1), ((k + 1 : Nat) : Int)))) (hr : b (S m, (m : Int)) = Sh.exit X) {s : σ} (hs : s = S 0) :
    Sh.loop b (s, 0) = X := run_exit (fun k => (S k, (k : Int))) m X hm h hr (by rw [hs]; rfl)
end Pl
end

section
/- Loops over lists. -/
namespace Pl
open Go Go.Av

def foldE {σ α β : Type} (step : Nat → σ → α → σ ⊕ β) (X : σ → Option β) : Nat → List α → σ → Option β
  | _, [], s => X s
  | k, x :: l, s => match step k s x with
    | .inl s' => foldE step X (k + 1) l s'
    | .inr r => some r

theorem loop_step {σ β : Type} {b : σ → Option (σ ⊕ β)} {n : Nat} {s s' : σ} (h : b s = some (.inl s')) : Sh.iter b (n + 1) s = Sh.iter b n s' := by simp [Sh.iter, h]
theorem loop_stop {σ β : Type} {b : σ → Option (σ ⊕ β)} {n : Nat} {s : σ} {r : β} (h : b s = some (.inr r)) : Sh.iter b (n + 1) s = some r := by simp [Sh.iter, h]
theorem loop_exit {σ β : Type} {b : σ → Option (σ ⊕ β)} {n : Nat} {s : σ} {X : Option β} (h : b s = Sh.exit X) : Sh.iter b (n + 1) s = X := by cases X <;> simp [Sh.iter, h, Sh.exit]

theorem iter_fold {σ τ α β : Type} {b : τ → Option (τ ⊕ β)} (S : σ → Nat → τ) (step : Nat → σ → α → σ ⊕ β) (X : σ → Option β) (l0 : List α)
    (h : ∀ (k : Nat) (s : σ) (hk : k < l0.length), b (S s k) = match step k s l0[k] with | .inl s' => some (.inl (S s' (k + 1))) | .inr r => some (.inr r))
    (he : ∀ s, b (S s l0.length) = Sh.exit (X s)) : ∀ (l : List α) (k n : Nat) (s : σ), l0.drop k = l → k ≤ l0.length → l.length < n → Sh.iter b n (S s k) = foldE step X k l s := by
  intro l
  induction l with
  | nil =>
    intro k n s hl hk hn
    have hk2 : k = l0.length := by
      have : (l0.drop k).length = 0 := by rw [hl]; rfl
      simp at this; omega
    subst hk2
    obtain ⟨n, rfl⟩ : ∃ m, n = m + 1 := ⟨n - 1, by simp at hn; omega⟩
    exact loop_exit (he s)
  | cons x l ih =>
    intro k n s hl hk hn
    have hlen : (l0.drop k).length = l.length + 1 := by rw [hl]; rfl
    have hk2 : k < l0.length := by simp at hlen; omega
    obtain ⟨n, rfl⟩ : ∃ m, n = m + 1 := ⟨n - 1, by simp at hn; omega⟩
    have hx : l0[k] = x ∧ l0.drop (k + 1) = l := by
      rw [List.drop_eq_getElem_cons hk2] at hl
      simp only [List.cons.injEq] at hl
      exact hl
    have hb := h k s hk2
    rw [hx.1] at hb
    simp only [foldE]
    cases hs : step k s x with
    | inl s' =>
      rw [hs] at hb
      rw [loop_step hb]
      exact ih (k + 1) n s' hx.2 hk2 (by simp at hn; omega)
    | inr r =>
      rw [hs] at hb
      exact loop_stop hb

theorem loop_fold {σ τ α β : Type} {b : τ → Option (τ ⊕ β)} (S : σ → Nat → τ) (step : Nat → σ → α → σ ⊕ β) (X : σ → Option β) (l : List α) (hm : l.length < Sh.FUEL)
    (h : ∀ (k : Nat) (s : σ) (hk : k < l.length), b (S s k) = match step k s l[k] with | .inl s' => some (.inl (S s' (k + 1))) | .inr r => some (.inr r))
    (he : ∀ s, b (S s l.length) = Sh.exit (X s)) (s : σ) {t : τ} (ht : t = S s 0) : Sh.loop b t = foldE step X 0 l s := by
  subst ht
  exact iter_fold S step X l h he l 0 Sh.FUEL s rfl (Nat.zero_le _) hm

theorem find_loop {α β : Type} {b : Int → Option (Int ⊕ β)} (l : List α) (p : α → Bool) (A : Nat → β) (X : Option β) (hm : l.length < Sh.FUEL)
    (h : ∀ (k : Nat) (hk : k < l.length), b (k : Int) = if p l[k] then some (.inr (A k)) else some (.inl ((k + 1 : Nat) : Int)))
    (he : b (l.length : Int) = Sh.exit X) : Sh.loop b 0 = (l.findIdx? p).elim X (fun k => some (A k)) := by
  rw [loop_fold (σ := Unit) (α := α) (fun _ k => (k : Int)) (fun k _ x => if p x then .inr (A k) else .inl ()) (fun _ => X) l hm (fun k s hk => ?_) (fun _ => he) () (t := (0 : Int)) rfl]
  · have key : ∀ (l : List α) (k : Nat), foldE (fun k (_ : Unit) x => if p x then Sum.inr (A k) else Sum.inl ()) (fun _ => X) k l () = (l.findIdx? p).elim X (fun i => some (A (k + i))) := by
      intro l
      induction l with
      | nil => intro k; simp [foldE]
      | cons x l ih =>
        intro k
        simp only [foldE, List.findIdx?_cons]
        cases hp : p x with
        | true => simp
        | false =>
          simp only [Bool.false_eq_true, if_false]
          rw [ih (k + 1)]
          cases l.findIdx? p with
          | none => rfl
          | some i => simp only [Option.map_some, Option.elim_some]; congr 2; omega
    rw [key l 0]
    simp
  · rw [h k hk]
    cases p l[k] <;> rfl

theorem any_loop {α β : Type} {b : Int → Option (Int ⊕ β)} (l : List α) (p : α → Bool) (A : β) (X : Option β) (hm : l.length < Sh.FUEL)
    (h : ∀ (k : Nat) (hk : k < l.length), b (k : Int) = if p l[k] then some (.inr A) else some (.inl ((k + 1 : Nat) : Int)))
    (he : b (l.length : Int) = Sh.exit X) : Sh.loop b 0 = if l.any p then some A else X := by
  rw [find_loop l p (fun _ => A) X hm h he]
  cases hf : l.findIdx? p with
  | none =>
    have : l.any p = false := by
      rw [List.findIdx?_eq_none_iff] at hf
      rw [List.any_eq_false]
      intro x hx
      simpa using hf x hx
    rw [this]; rfl
  | some i =>
    have : l.any p = true := by
      rw [List.any_eq_true]
      rw [List.findIdx?_eq_some_iff_getElem] at hf
      obtain ⟨hi, hp, _⟩ := hf
      exact ⟨l[i], List.getElem_mem hi, hp⟩
    rw [this]; rfl

def pos {α : Type} (l : List α) (p : α → Bool) : Int := (l.findIdx? p).elim (-1) (fun k => (k : Int))
theorem pos_some {α : Type} (l : List α) (p : α → Bool) : (l.findIdx? p).elim (some (-1 : Int)) (fun k => some (k : Int)) = some (pos l p) := by unfold pos; cases l.findIdx? p <;> rfl
theorem contains_of_find {α : Type} (l : List α) (p : α → Bool) : decide ((0 : Int) ≤ pos l p) = l.any p := by
  unfold pos
  cases hf : l.findIdx? p with
  | none =>
    have : l.any p = false := by
      rw [List.findIdx?_eq_none_iff] at hf
      rw [List.any_eq_false]
      intro x hx
      simpa using hf x hx
    rw [this]; rfl
  | some i =>
    have : l.any p = true := by
      rw [List.any_eq_true]
      rw [List.findIdx?_eq_some_iff_getElem] at hf
      obtain ⟨hi, hp, _⟩ := hf
      exact ⟨l[i], List.getElem_mem hi, hp⟩
    rw [this]; simp
end Pl
end

section
/- Whether a history may be. -/
namespace Pl
open Go Go.Av

theorem pIdx {l : List Int} (hl : l.length < 9223372036854775808) (v : Int) : G.slices_Index_int_int l v = some (pos l (fun x => decide (v = x))) := by
  unfold G.slices_Index_int_int
  rw [find_loop l (fun x => decide (v = x)) (fun k => (k : Int)) (some (-1)) (fuel_gt hl) (fun k hk => ?_) ?_, pos_some]
  · simp [G.slices_Index_int_int_b1, G.slices_Index_int_int_j1]
  · simp only [G.slices_Index_int_int_b1, dec_lt, hk, decide_true, if_true, idx_at hk, Option.bind_some, w64_succ (show k < 9223372036854775807 by omega)]
    rfl
theorem pHas {l : List Int} (hl : l.length < 9223372036854775808) (v : Int) : G.slices_Contains_int_int l v = some (l.any (fun x => decide (v = x))) := by
  unfold G.slices_Contains_int_int
  rw [pIdx hl, Option.bind_some, contains_of_find]

def rising : Int → List Int → Bool
  | _, [] => true
  | last, x :: l => decide (last < x) && decide (x < 16) && rising x l
def hasW (t : G.api_Txn) (k : Int) : Bool := t.Writes.any (fun x => decide (k = x))
def there (h : G.api_Hist) (n : Int) (x : G.api_Take) : Bool :=
  decide (x.From = -1) || (decide (0 ≤ x.From) && decide (x.From < (h.Txns.length : Int)) && decide (x.From ≠ n) && match h.Txns[x.From.toNat]? with | some t => hasW t x.Key | none => false)
def takes (h : G.api_Hist) (n : Int) : Int → List G.api_Take → Bool
  | _, [] => true
  | last, x :: l => decide (last < x.Key) && decide (x.Key < 16) && there h n x && takes h n x.Key l
def okT (h : G.api_Hist) (n : Int) (t : G.api_Txn) : Bool := rising (-1) t.Writes && takes h n (-1) t.Reads && decide (0 ≤ t.Session) && decide (t.Session < 8)
def okAll (h : G.api_Hist) : Nat → List G.api_Txn → Bool
  | _, [] => true
  | n, t :: l => okT h n t && okAll h (n + 1) l
def right (h : G.api_Hist) : Bool := decide (h.Txns.length ≤ 32) && okAll h 0 h.Txns

structure Fits (h : G.api_Hist) : Prop where
  txns : h.Txns.length < 9223372036854775807
  writes : ∀ t ∈ h.Txns, t.Writes.length < 9223372036854775807
  reads : ∀ t ∈ h.Txns, t.Reads.length < 9223372036854775807

theorem y1 (c y : Bool) : G.hist_Right__r c y = some (if y then (c, true) else (false, false)) := by cases y <;> rfl

theorem pThere {h : G.api_Hist} (hf : Fits h) (n : Int) (x : G.api_Take) {α : Type} (K : Bool → Option α) :
    (if decide (x.From = (-1)) then K true else if decide ((0 : Int) ≤ x.From) then if decide (x.From < (Sh.len h.Txns)) then if decide (x.From ≠ n) then (Sh.idx h.Txns x.From).bind fun x840 => (G.slices_Contains_int_int x840.Writes x.Key).bind fun r842 => K r842 else K false else K false else K false) = K (there h n x) := by
  unfold there
  by_cases h1 : x.From = -1
  · simp [h1]
  · by_cases h2 : 0 ≤ x.From
    · by_cases h3 : x.From < (h.Txns.length : Int)
      · by_cases h4 : x.From = n
        · subst h4; simp [h1, h2, h3]
        · have h5 : h.Txns[x.From.toNat]? = some (h.Txns[x.From.toNat]'(by omega)) := List.getElem?_eq_getElem (by omega)
          rw [idx_of h2 h3, h5]
          have := hf.writes _ (List.getElem_mem (show x.From.toNat < h.Txns.length by omega))
          have h6 := pHas (l := (h.Txns[x.From.toNat]'(by omega)).Writes) (by omega) x.Key
          simp [h1, h2, h3, h4, h6, hasW]
      · simp [h1, h2, h3]
    · simp [h1, h2]

theorem pReads {h : G.api_Hist} (hf : Fits h) (n : Int) (t : G.api_Txn) (ht : t ∈ h.Txns) (c : Bool) : G.hist_faults_1__hist_Right__r_j2 h n t c = if takes h n (-1) t.Reads then G.hist_faults_1__hist_Right__r_j3 n t c else some (.inr (false, false)) := by
  unfold G.hist_faults_1__hist_Right__r_j2
  have hl := hf.reads t ht
  rw [loop_fold (σ := Bool × Int) (fun s k => (s.1, s.2, (k : Int))) (fun _ s x => if decide (s.2 < x.Key) && decide (x.Key < 16) && there h n x then .inl (s.1, x.Key) else .inr (.inr (false, false))) (fun s => G.hist_faults_1__hist_Right__r_j3 n t s.1) t.Reads (fuel_gt (by omega)) (fun k s hk => ?_) (fun s => ?_) (c, -1) (t := (c, (-1 : Int), (0 : Int))) rfl]
  · have key : ∀ (l : List G.api_Take) (k : Nat) (last : Int), foldE (fun _ (s : Bool × Int) (x : G.api_Take) => if decide (s.2 < x.Key) && decide (x.Key < 16) && there h n x then Sum.inl (s.1, x.Key) else Sum.inr (.inr (false, false))) (fun s => G.hist_faults_1__hist_Right__r_j3 n t s.1) k l (c, last) = if takes h n last l then G.hist_faults_1__hist_Right__r_j3 n t c else some (.inr (false, false)) := by
      intro l
      induction l with
      | nil => intro k last; simp [foldE, takes]
      | cons x l ih =>
        intro k last
        simp only [foldE]
        rw [show takes h n last (x :: l) = (decide (last < x.Key) && decide (x.Key < 16) && there h n x && takes h n x.Key l) from rfl]
        by_cases hq : (decide (last < x.Key) && decide (x.Key < 16) && there h n x) = true
        · rw [if_pos hq, hq, Bool.true_and]; exact ih (k + 1) x.Key
        · rw [if_neg hq, Bool.eq_false_iff.2 hq]; simp
    exact key t.Reads 0 (-1)
  · obtain ⟨c, last⟩ := s
    simp only [G.hist_faults_1__hist_Right__r_b2, dec_lt, hk, decide_true, if_true, idx_at hk, Option.bind_some]
    rw [pThere hf n t.Reads[k] (fun b => G.hist_faults_1__hist_Right__r_j4 c last k t.Reads[k] b)]
    simp only [G.hist_faults_1__hist_Right__r_j4, y1, G.hist_faults_1__hist_Right__r_j5, w64_succ (show k < 9223372036854775807 by omega), Option.bind_some]
    by_cases h1 : last < t.Reads[k].Key
    · by_cases h2 : t.Reads[k].Key < 16
      · cases h3 : there h n t.Reads[k] <;> simp [h1, h2, Sh.exit, Sh.next]
      · simp [h1, h2, Sh.exit]
    · simp [h1, Sh.exit]
  · simp [G.hist_faults_1__hist_Right__r_b2]

theorem pWrites {h : G.api_Hist} (hf : Fits h) (n : Nat) (hn : n < 9223372036854775807) (t : G.api_Txn) (ht : t ∈ h.Txns) (c : Bool) :
    Sh.loop (fun (p : Bool × Int × Int) => G.hist_faults_1__hist_Right__r_b3 h n t p.1 p.2.1 p.2.2) (c, (-1), 0) = if okT h n t then some (.inl (c, ((n + 1 : Nat) : Int))) else some (.inr (false, false)) := by
  have hl := hf.writes t ht
  rw [loop_fold (σ := Bool × Int) (fun s k => (s.1, s.2, (k : Int))) (fun _ s x => if decide (s.2 < x) && decide (x < 16) then .inl (s.1, x) else .inr (.inr (false, false))) (fun s => G.hist_faults_1__hist_Right__r_j2 h n t s.1) t.Writes (fuel_gt (by omega)) (fun k s hk => ?_) (fun s => ?_) (c, -1) (t := (c, (-1 : Int), (0 : Int))) rfl]
  · have key : ∀ (l : List Int) (k : Nat) (last : Int), foldE (fun _ (s : Bool × Int) (x : Int) => if decide (s.2 < x) && decide (x < 16) then Sum.inl (s.1, x) else Sum.inr (.inr (false, false))) (fun s => G.hist_faults_1__hist_Right__r_j2 h n t s.1) k l (c, last) = if rising last l then G.hist_faults_1__hist_Right__r_j2 h n t c else some (.inr (false, false)) := by
      intro l
      induction l with
      | nil => intro k last; simp [foldE, rising]
      | cons x l ih =>
        intro k last
        simp only [foldE]
        rw [show rising last (x :: l) = (decide (last < x) && decide (x < 16) && rising x l) from rfl]
        by_cases hq : (decide (last < x) && decide (x < 16)) = true
        · rw [if_pos hq, hq, Bool.true_and]; exact ih (k + 1) x
        · rw [if_neg hq, Bool.eq_false_iff.2 hq]; simp
    rw [key t.Writes 0 (-1), pReads hf n t ht]
    unfold okT
    cases h1 : rising (-1) t.Writes
    · simp
    · cases h2 : takes h n (-1) t.Reads
      · simp
      · simp only [G.hist_faults_1__hist_Right__r_j3, y1, G.hist_faults_1__hist_Right__r_j1, w64_succ hn, Option.bind_some]
        by_cases h3 : 0 ≤ t.Session
        · by_cases h4 : t.Session < 8 <;> simp [h3, h4, Sh.exit, Sh.next]
        · simp [h3, Sh.exit]
  · obtain ⟨c, last⟩ := s
    simp only [G.hist_faults_1__hist_Right__r_b3, dec_lt, hk, decide_true, if_true, idx_at hk, Option.bind_some, y1, G.hist_faults_1__hist_Right__r_j6, w64_succ (show k < 9223372036854775807 by omega)]
    by_cases h1 : last < t.Writes[k]
    · by_cases h2 : t.Writes[k] < 16 <;> simp [h1, h2, Sh.exit, Sh.next]
    · simp [h1, Sh.exit]
  · simp [G.hist_faults_1__hist_Right__r_b3]

theorem pRight {h : G.api_Hist} (hf : Fits h) : G.hist_Right h = some (right h) := by
  have hl := hf.txns
  have hloop : ∀ c, Sh.loop (fun (p : Bool × Int) => G.hist_faults_1__hist_Right__r_b1 h p.1 p.2) (c, 0) = if okAll h 0 h.Txns then some (c, true) else some (false, false) := by
    intro c
    rw [loop_fold (σ := Bool) (fun s k => (s, (k : Int))) (fun k s x => if okT h k x then .inl s else .inr (false, false)) (fun s => some (s, true)) h.Txns (fuel_gt (by omega)) (fun k s hk => ?_) (fun s => ?_) c (t := (c, (0 : Int))) rfl]
    · have key : ∀ (l : List G.api_Txn) (k : Nat), foldE (fun k (s : Bool) (x : G.api_Txn) => if okT h (k : Nat) x then Sum.inl s else Sum.inr (false, false)) (fun s => some (s, true)) k l c = if okAll h k l then some (c, true) else some (false, false) := by
        intro l
        induction l with
        | nil => intro k; simp [foldE, okAll]
        | cons x l ih =>
          intro k
          simp only [foldE]
          rw [show okAll h k (x :: l) = (okT h (k : Nat) x && okAll h (k + 1) l) from rfl]
          by_cases hq : okT h (k : Nat) x = true
          · rw [if_pos hq, hq, Bool.true_and]; exact ih (k + 1)
          · rw [if_neg hq, Bool.eq_false_iff.2 hq]; simp
      exact key h.Txns 0
    · simp only [G.hist_faults_1__hist_Right__r_b1, dec_lt, hk, decide_true, if_true, idx_at hk, Option.bind_some]
      rw [pWrites hf k (by omega) _ (List.getElem_mem hk)]
      cases okT h k h.Txns[k] <;> rfl
    · simp [G.hist_faults_1__hist_Right__r_b1]
  unfold G.hist_Right G.hist_faults G.hist_faults_1__hist_Right__r right
  simp only [Option.bind_some, y1, len_eq]
  by_cases h1 : h.Txns.length ≤ 32
  · have h2 : ((h.Txns.length : Int) ≤ 32) := by omega
    simp only [h1, h2, decide_true, if_true, hloop, Bool.true_and]
    cases okAll h 0 h.Txns <;> simp
  · have h2 : ¬ ((h.Txns.length : Int) ≤ 32) := by omega
    simp [h1, h2]

end Pl
end

section
/- Edges, one by one: what the program and the reference answer. -/

namespace Pl
open Go Go.Av

def tx (h : G.api_Hist) (x : Int) : G.api_Txn := (h.Txns[x.toNat]?).getD default
def inr (h : G.api_Hist) (x : Int) : Bool := decide (0 ≤ x) && decide (x < (h.Txns.length : Int))
theorem inr_iff {h : G.api_Hist} {x : Int} : inr h x = true ↔ 0 ≤ x ∧ x < (h.Txns.length : Int) := by simp [inr]
theorem idx_tx {h : G.api_Hist} {x : Int} (hx : inr h x = true) : Sh.idx h.Txns x = some (tx h x) := by
  rw [inr_iff] at hx
  rw [idx_of hx.1 hx.2]
  simp [tx, List.getElem?_eq_getElem (show x.toNat < h.Txns.length by omega)]
theorem tx_mem {h : G.api_Hist} {x : Int} (hx : inr h x = true) : tx h x ∈ h.Txns := by
  rw [inr_iff] at hx
  simp only [tx, List.getElem?_eq_getElem (show x.toNat < h.Txns.length by omega), Option.getD_some]
  exact List.getElem_mem _

def isW (h : G.api_Hist) (x y : Int) (c : G.api_Choice) : Bool := decide (c.A = x) && decide (c.B = y) && decide (x ≠ y) && hasW (tx h x) c.Key && hasW (tx h y) c.Key
def dirS (h : G.api_Hist) (l : List G.api_Choice) (x y : Int) : Bool :=
  (decide (x < y) && decide ((tx h x).Session = (tx h y).Session)) || (tx h y).Reads.any (fun r => decide (r.From = x)) || l.any (isW h x y)
def isO (h : G.api_Hist) (l : List G.api_Choice) (y : Int) (r : G.api_Take) : Bool :=
  hasW (tx h y) r.Key && (decide (r.From < 0) || (decide (r.From ≠ y) && l.any (fun c => decide (G.api_Choice.mk r.Key r.From y = c))))
def antS (h : G.api_Hist) (l : List G.api_Choice) (x y : Int) : Bool := decide (x ≠ y) && (tx h x).Reads.any (isO h l y)
def two (h : G.api_Hist) (x y : Int) : Bool := right h && inr h x && inr h y
def direct (h : G.api_Hist) (l : List G.api_Choice) (x y : Int) : Bool := two h x y && dirS h l x y
def anti (h : G.api_Hist) (l : List G.api_Choice) (x y : Int) : Bool := two h x y && antS h l x y
def edge (h : G.api_Hist) (lev : Int) (l : List G.api_Choice) (x y : Int) : Bool :=
  if lev = 0 then direct h l x y || anti h l x y
  else if lev = 1 then (List.range h.Txns.length).any (fun m => direct h l x m && (decide ((m : Int) = y) || anti h l m y))
  else false
theorem right_reads {h : G.api_Hist} (hr : right h = true) {t : G.api_Txn} (ht : t ∈ h.Txns) : ∃ n : Int, takes h n (-1) t.Reads = true := by
  simp only [right, Bool.and_eq_true] at hr
  have key : ∀ (l : List G.api_Txn) (n : Nat), okAll h n l = true → ∀ t ∈ l, ∃ n : Int, okT h n t = true := by
    intro l
    induction l with
    | nil => intro n _ t ht; cases ht
    | cons x l ih =>
      intro n hn t ht
      rw [show okAll h n (x :: l) = (okT h (n : Nat) x && okAll h (n + 1) l) from rfl, Bool.and_eq_true] at hn
      rcases List.mem_cons.1 ht with rfl | ht
      · exact ⟨_, hn.1⟩
      · exact ih _ hn.2 t ht
  obtain ⟨n, hn⟩ := key _ 0 hr.2 t ht
  simp only [okT, Bool.and_eq_true] at hn
  exact ⟨n, hn.1.1.2⟩
theorem takes_there {h : G.api_Hist} {n : Int} : ∀ {l : List G.api_Take} {last : Int}, takes h n last l = true → ∀ r ∈ l, there h n r = true
  | [], _, _, r, hr => by cases hr
  | x :: l, last, ht, r, hr => by
    rw [show takes h n last (x :: l) = (decide (last < x.Key) && decide (x.Key < 16) && there h n x && takes h n x.Key l) from rfl] at ht
    simp only [Bool.and_eq_true] at ht
    rcases List.mem_cons.1 hr with rfl | hr
    · exact ht.1.2
    · exact takes_there ht.2 r hr
end Pl
end

section
/- Rings of edges, and what the reference answers of edges. -/
namespace Pl
open Go Go.Av

end Pl
end

section
/- The reference's word on histories: whether one may be, and whether it is small. -/
namespace Pl
open Go Go.Av

def climbs {α : Type} (key : α → Int) (ok : α → Bool) : Int → List α → Bool
  | _, [] => true
  | last, x :: l => decide (last < key x) && decide (key x < 16) && ok x && climbs key ok (key x) l
theorem rising_eq : ∀ (l : List Int) (last : Int), rising last l = climbs id (fun _ => true) last l
  | [], _ => rfl
  | x :: l, last => by
    rw [show rising last (x :: l) = (decide (last < x) && decide (x < 16) && rising x l) from rfl, rising_eq l x]
    simp [climbs]
theorem takes_eq (h : G.api_Hist) (n : Int) : ∀ (l : List G.api_Take) (last : Int), takes h n last l = climbs (·.Key) (there h n) last l
  | [], _ => rfl
  | x :: l, last => by
    rw [show takes h n last (x :: l) = (decide (last < x.Key) && decide (x.Key < 16) && there h n x && takes h n x.Key l) from rfl, takes_eq h n l x.Key]
    rfl
def step {α : Type} (key : α → Int) (ok : α → Bool) (l : List α) (k : Nat) : Bool :=
  match l[k]? with
  | none => true
  | some x => decide (0 ≤ key x) && decide (key x < 16) && ok x && (decide (k = 0) || match l[k - 1]? with | none => true | some y => decide (key y < key x))
theorem okAll_iff (h : G.api_Hist) : ∀ (l : List G.api_Txn) (n : Nat), okAll h n l = decide (∀ k (hk : k < l.length), okT h ((n + k : Nat) : Int) l[k] = true)
  | [], n => by simp [okAll]
  | t :: l, n => by
    rw [show okAll h n (t :: l) = (okT h (n : Nat) t && okAll h (n + 1) l) from rfl, okAll_iff h l (n + 1), Bool.eq_iff_iff, Bool.and_eq_true, decide_eq_true_eq, decide_eq_true_eq]
    constructor
    · rintro ⟨h1, h2⟩ k hk
      cases k with
      | zero => simpa using h1
      | succ k =>
        have := h2 k (by simpa using hk)
        rw [show n + 1 + k = n + (k + 1) by omega] at this
        simpa using this
    · intro h1
      refine ⟨h1 0 (by simp), fun k hk => ?_⟩
      have := h1 (k + 1) (by simpa using hk)
      rw [show n + 1 + k = n + (k + 1) by omega]
      simpa using this
theorem dec_len_gt {α : Type} (l : List α) : decide ((20 : Int) < Sh.len l) = !decide (l.length ≤ 20) := by
  by_cases h : l.length ≤ 20 <;> simp [h, Sh.len] <;> omega
def few (h : G.api_Hist) (m : Int) : Bool := decide ((h.Txns.length : Int) ≤ m) && h.Txns.all (fun t => decide (t.Writes.length ≤ 20) && decide (t.Reads.length ≤ 20))
theorem rFew {h : G.api_Hist} {m : Int} (hm : m < 9223372036854775807) : G.inquestref08_Few h m = some (few h m) := by
  unfold G.inquestref08_Few few
  by_cases h1 : (h.Txns.length : Int) ≤ m
  · have h2 : ¬ m < (h.Txns.length : Int) := by omega
    simp only [Sh.len, h2, decide_false, Bool.false_eq_true, if_false, h1, decide_true, Bool.true_and]
    rw [any_loop h.Txns (fun t => !(decide (t.Writes.length ≤ 20) && decide (t.Reads.length ≤ 20))) false (some true) (fuel_gt (by omega)) (fun k hk => ?_) ?_]
    · rw [List.any_eq_not_all_not]
      simp only [Bool.not_not]
      cases h.Txns.all (fun t => decide (t.Writes.length ≤ 20) && decide (t.Reads.length ≤ 20)) <;> rfl
    · simp [G.inquestref08_Few_b1, G.inquestref08_Few_j1]
    · simp only [G.inquestref08_Few_b1, dec_lt, hk, decide_true, if_true, idx_at hk, Option.bind_some, dec_len_gt, G.inquestref08_Few_j2, w64_succ (show k < 9223372036854775807 by omega), Sh.exit, Sh.next, Option.map_some]
      by_cases a : (h.Txns[k]).Writes.length ≤ 20 <;> by_cases b : (h.Txns[k]).Reads.length ≤ 20 <;> simp [a, b]
  · have h2 : m < (h.Txns.length : Int) := by omega
    simp [Sh.len, h2, h1]
theorem few_fits {h : G.api_Hist} {m : Int} (hm : m < 9223372036854775807) (hf : few h m = true) : Fits h := by
  simp only [few, Bool.and_eq_true, decide_eq_true_eq, List.all_eq_true] at hf
  exact ⟨by omega, fun t ht => by have := (hf.2 t ht).1; omega, fun t ht => by have := (hf.2 t ht).2; omega⟩
end Pl
end

section
/- Law 19, first half: edges as the reference sees them; what one more choice adds. -/
namespace Pl
open Go Go.Av

def one (h : G.api_Hist) (c : G.api_Choice) : Bool := decide (c.A ≠ c.B) && inr h c.A && inr h c.B && hasW (tx h c.A) c.Key && hasW (tx h c.B) c.Key
theorem pOne1 {h : G.api_Hist} (hf : Fits h) (x k : Int) : G.choice_Right_1__1 x k h = some (inr h x && hasW (tx h x) k) := by
  unfold G.choice_Right_1__1
  by_cases hx : inr h x = true
  · obtain ⟨a, b⟩ := inr_iff.1 hx
    have := hf.writes _ (tx_mem hx)
    rw [if_pos (by simpa using a), if_pos (by simpa [Sh.len] using b), idx_tx hx, Option.bind_some, pHas (by omega), Option.bind_some, hx]
    rfl
  · have h1 : inr h x = false := by simpa using hx
    rw [h1]
    unfold inr at h1
    by_cases a : 0 ≤ x <;> by_cases b : x < (h.Txns.length : Int) <;> simp [a, b, Sh.len] at h1 ⊢
theorem pOne2 {h : G.api_Hist} (hf : Fits h) (c : G.api_Choice) : G.choice_Right_2__1 c h = some (!one h c) := by
  unfold G.choice_Right_2__1 one
  rw [pOne1 hf, pOne1 hf]
  simp only [Option.bind_some]
  by_cases a : c.A = c.B
  · simp [a]
  · simp only [a, decide_false, Bool.false_eq_true, if_false, ne_eq, not_false_eq_true, decide_true, Bool.true_and]
    cases inr h c.A <;> cases hasW (tx h c.A) c.Key <;> cases inr h c.B <;> cases hasW (tx h c.B) c.Key <;> rfl
theorem pChoice {h : G.api_Hist} (hf : Fits h) {l : List G.api_Choice} (hl : l.length ≤ 20000) : G.choice_Right h l = some (right h && l.all (one h)) := by
  unfold G.choice_Right G.choice_Right_j1
  rw [pRight hf]
  simp only [Option.bind_some]
  have hd : decide ((20000 : Int) < Sh.len l) = false := by simp [Sh.len]; omega
  rw [hd]
  have : G.slices_ContainsFunc_api_Choice_api_Choice__choice_Right_2 l h = some (!(l.all (one h))) := by
    unfold G.slices_ContainsFunc_api_Choice_api_Choice__choice_Right_2 G.slices_IndexFunc_api_Choice_api_Choice__choice_Right_2
    rw [find_loop l (fun c => !one h c) (fun k => (k : Int)) (some (-1)) (fuel_gt (by omega)) (fun k hk => ?_) ?_, pos_some, Option.bind_some, contains_of_find]
    · rw [List.any_eq_not_all_not]; simp
    · simp [G.slices_IndexFunc_api_Choice_api_Choice__choice_Right_2_b1, G.slices_IndexFunc_api_Choice_api_Choice__choice_Right_2_j1]
    · simp only [G.slices_IndexFunc_api_Choice_api_Choice__choice_Right_2_b1, dec_lt, hk, decide_true, if_true, idx_at hk, Option.bind_some, pOne2 hf, w64_succ (show k < 9223372036854775807 by omega)]
      rfl
  rw [this]
  cases right h <;> simp

theorem from_ok {h : G.api_Hist} (hr : right h = true) {t : G.api_Txn} (ht : t ∈ h.Txns) {r : G.api_Take} (hm : r ∈ t.Reads) (h0 : ¬ r.From < 0) : inr h r.From = true ∧ hasW (tx h r.From) r.Key = true := by
  obtain ⟨n, hn⟩ := right_reads hr ht
  have := takes_there hn r hm
  simp only [there, Bool.or_eq_true, Bool.and_eq_true, decide_eq_true_eq] at this
  rcases this with h1 | h1
  · omega
  · obtain ⟨⟨⟨a, b⟩, _⟩, d⟩ := h1
    refine ⟨inr_iff.2 ⟨a, b⟩, ?_⟩
    unfold tx
    have hi : r.From.toNat < h.Txns.length := by omega
    rw [List.getElem?_eq_getElem hi] at d ⊢
    exact d
end Pl
end

section
/- Facts: what follows from what; the program's answer and the reference's. -/



namespace Pl
open Go Go.Av

def back (c : G.api_Choice) : G.api_Choice := ⟨c.Key, c.B, c.A⟩
def may (h : G.api_Hist) (lev : Int) : Bool := right h && (decide (lev = 0) || decide (lev = 1))
theorem pHasT {l : List G.api_Take} (hl : l.length < 9223372036854775807) (v : G.api_Take) : G.slices_Contains_api_Take_api_Take l v = some (l.any (fun c => decide (v = c))) := by
  unfold G.slices_Contains_api_Take_api_Take G.slices_Index_api_Take_api_Take
  rw [find_loop l (fun c => decide (v = c)) (fun k => (k : Int)) (some (-1)) (fuel_gt (by omega)) (fun k hk => ?_) ?_, pos_some, Option.bind_some, contains_of_find]
  · simp [G.slices_Index_api_Take_api_Take_b1, G.slices_Index_api_Take_api_Take_j1]
  · simp only [G.slices_Index_api_Take_api_Take_b1, dec_lt, hk, decide_true, if_true, idx_at hk, Option.bind_some, w64_succ (show k < 9223372036854775807 by omega)]
    rfl
def fromR (h : G.api_Hist) (t key : Int) : Option Int :=
  if right h && inr h t then ((tx h t).Reads.findIdx? (fun r => decide (r.Key = key))).map (fun k => ((tx h t).Reads.getD k default).From) else none
theorem takes_gt {h : G.api_Hist} {n : Int} : ∀ {l : List G.api_Take} {last : Int}, takes h n last l = true → ∀ r ∈ l, last < r.Key
  | [], _, _, r, hr => by cases hr
  | x :: l, last, ht, r, hr => by
    rw [show takes h n last (x :: l) = (decide (last < x.Key) && decide (x.Key < 16) && there h n x && takes h n x.Key l) from rfl] at ht
    simp only [Bool.and_eq_true, decide_eq_true_eq] at ht
    rcases List.mem_cons.1 hr with rfl | hr
    · exact ht.1.1.1
    · have := takes_gt ht.2 r hr; have := ht.1.1.1; omega
theorem takes_one {h : G.api_Hist} {n : Int} : ∀ {l : List G.api_Take} {last : Int}, takes h n last l = true → ∀ r ∈ l, ∀ s ∈ l, r.Key = s.Key → r = s
  | [], _, _, r, hr, _, _, _ => by cases hr
  | x :: l, last, ht, r, hr, s, hs, he => by
    rw [show takes h n last (x :: l) = (decide (last < x.Key) && decide (x.Key < 16) && there h n x && takes h n x.Key l) from rfl] at ht
    simp only [Bool.and_eq_true, decide_eq_true_eq] at ht
    rcases List.mem_cons.1 hr with h1 | h1
    · rcases List.mem_cons.1 hs with h2 | h2
      · rw [h1, h2]
      · have := takes_gt ht.2 s h2; rw [h1] at he; omega
    · rcases List.mem_cons.1 hs with h2 | h2
      · have := takes_gt ht.2 r h1; rw [h2] at he; omega
      · exact takes_one ht.2 r h1 s h2 he
theorem fromR_iff {h : G.api_Hist} (hr : right h = true) {t key v : Int} (hx : inr h t = true) : fromR h t key = some v ↔ (tx h t).Reads.any (fun r => decide (G.api_Take.mk key v = r)) = true := by
  obtain ⟨n, hn⟩ := right_reads hr (tx_mem hx)
  unfold fromR
  rw [hr, hx]
  simp only [Bool.and_self, if_true, List.any_eq_true, decide_eq_true_eq]
  constructor
  · intro h1
    cases hfi : (tx h t).Reads.findIdx? (fun r => decide (r.Key = key)) with
    | none => rw [hfi] at h1; cases h1
    | some k =>
      rw [hfi] at h1
      rw [List.findIdx?_eq_some_iff_getElem] at hfi
      obtain ⟨hk, hp, _⟩ := hfi
      simp only [Option.map_some, Option.some.injEq, List.getD, List.getElem?_eq_getElem hk, Option.getD_some] at h1
      refine ⟨_, List.getElem_mem hk, ?_⟩
      simp only [decide_eq_true_eq] at hp
      cases hc : (tx h t).Reads[k] with
      | mk K F => rw [hc] at hp h1; simp at hp h1; rw [hp, h1]
  · rintro ⟨r, hm, rfl⟩
    cases hfi : (tx h t).Reads.findIdx? (fun r => decide (r.Key = key)) with
    | none =>
      rw [List.findIdx?_eq_none_iff] at hfi
      have := hfi _ hm
      simp at this
    | some k =>
      rw [List.findIdx?_eq_some_iff_getElem] at hfi
      obtain ⟨hk, hp, _⟩ := hfi
      simp only [decide_eq_true_eq] at hp
      have := takes_one hn _ (List.getElem_mem hk) _ hm hp
      simp [List.getD, List.getElem?_eq_getElem hk, this]
end Pl
end

section
/- Sets of numbers as bits: the program's functions, and the reference's, say the same. -/

namespace Pl
open Go Go.Av

@[simp] theorem bits_bit (i : Int) : G.bits_bit i = some (Bv.bit i) := by
  unfold G.bits_bit G.bits_bit_j1 Bv.bit
  by_cases h : i < 0
  · simp [h]; omega
  · by_cases h2 : 64 ≤ i
    · simp [h, h2]; omega
    · simp [h, h2, Sh.shl, show 0 ≤ i by omega, show i < 64 by omega]
@[simp] theorem bits_With (s : BitVec 64) (i : Int) : G.bits_With s i = some (s ||| Bv.bit i) := by simp [G.bits_With]
theorem has_bit (s : BitVec 64) (i : Int) : decide ((s &&& Bv.bit i) ≠ 0#64) = Bv.has s i := by
  unfold Bv.bit Bv.has
  by_cases h : 0 ≤ i ∧ i < 64
  · rw [if_pos h]
    simp only [h.1, h.2, decide_true, Bool.true_and]
    obtain ⟨k, rfl⟩ : ∃ k : Nat, i = k := ⟨i.toNat, by omega⟩
    have hk : k < 64 := by omega
    simp only [Int.toNat_natCast]
    cases hb : s.getLsbD k with
    | true =>
      rw [decide_eq_true_eq]
      intro h0
      have := congrArg (fun x : BitVec 64 => x.getLsbD k) h0
      simp only [BitVec.getLsbD_and, BitVec.getLsbD_shiftLeft, hk, hb, BitVec.getLsbD_zero] at this
      simp [BitVec.getLsbD_one] at this
    | false =>
      rw [decide_eq_false_iff_not]
      refine not_not_intro ?_
      apply Bv.ext
      intro j hj
      simp only [BitVec.getLsbD_and, BitVec.getLsbD_shiftLeft, hj, decide_true, Bool.true_and, BitVec.getLsbD_zero]
      by_cases hjk : j = k
      · subst hjk; simp [hb]
      · by_cases hlt : j < k
        · simp [hlt]
        · simp [hlt, BitVec.getLsbD_one]; omega
  · rw [if_neg h]
    simp only [BitVec.and_zero, ne_eq, not_true_eq_false, decide_false]
    by_cases h0 : 0 ≤ i
    · have : ¬ i < 64 := fun h1 => h ⟨h0, h1⟩
      simp [this]
    · simp [h0]
@[simp] theorem bits_Has (s : BitVec 64) (i : Int) : G.bits_Has s i = some (Bv.has s i) := by
  simp only [G.bits_Has, bits_bit, Option.bind_some, has_bit]
@[simp] theorem bits_Sub (a b : BitVec 64) : G.bits_Sub a b = some (decide (a &&& ~~~b = 0#64)) := rfl

def join (l : List (BitVec 64)) : BitVec 64 := l.foldl (· ||| ·) 0#64
theorem join_take (l : List (BitVec 64)) (k : Nat) (h : k < l.length) : join (l.take (k+1)) = join (l.take k) ||| l[k] := by
  unfold join
  rw [List.take_succ_eq_append_getElem h, List.foldl_append]; rfl
theorem bits_Join (l : List (BitVec 64)) (hl : l.length < 9223372036854775808) : G.bits_Join l = some (join l) := by
  unfold G.bits_Join
  refine count (fun k => join (l.take k)) l.length _ hl (fun k hk => ?_) ?_ rfl
  · simp only [G.bits_Join_b1, len_eq, dec_lt, hk, decide_true, if_true, idx_at hk, Option.bind_some, Sh.next, join_take l k hk, w64_succ (show k < 9223372036854775807 by omega)]
  · simp [G.bits_Join_b1, len_eq, G.bits_Join_j1, Sh.exit]
theorem join_two (a b : BitVec 64) : G.bits_Join [a, b] = some (a ||| b) := by
  rw [bits_Join _ (by simp)]; simp [join]

theorem shr_nat (a : BitVec 64) (n : Nat) : Sh.shr a (n : Int) = some (a >>> n) := by simp [Sh.shr]
theorem ctz_zero : Bv.ctz 0#64 = 64 := by decide
theorem tab_at (s : BitVec 64) (h2 : Bv.ctz s < 64) : Sh.idx Sh.tab8 ((((1#64 <<< Bv.ctz s) * Bv.dB) >>> 58).toNat : Int) = some ((Bv.ctz s : Nat) : Int) := by
  have h4 := Bv.tab_ok ⟨Bv.ctz s, h2⟩
  simp only [Sh.idx, Sh.tab8, List.getElem?_map]
  rw [if_pos (by omega), Int.toNat_natCast, h4]
  rfl
@[simp] theorem tz (s : BitVec 64) : G.bits_TrailingZeros64 s = some (Bv.ctz s : Int) := by
  unfold G.bits_TrailingZeros64
  by_cases h : s = 0#64
  · subst h
    rw [if_pos (decide_eq_true rfl), ctz_zero]; rfl
  · obtain ⟨_, h2, h3⟩ := Bv.list_cons s h
    rw [if_neg (by simpa using h), h3]
    have h5 : Sh.shr ((1#64 <<< Bv.ctz s) * 285870213051353865#64) ((58 : Nat) : Int) = some (((1#64 <<< Bv.ctz s) * 285870213051353865#64) >>> 58) := shr_nat _ _
    have e2 : (((58#64).toNat : Nat) : Int) = ((58 : Nat) : Int) := rfl
    rw [e2, h5]
    have h6 := tab_at s h2
    unfold Bv.dB at h6
    rw [Option.bind_some, h6, Option.bind_some]
    rw [w64_id (by omega) (by omega)]

def ilist (s : BitVec 64) : List Int := (Bv.list s).map fun (k : Nat) => (k : Int)
theorem list_iter : ∀ (n : Nat) (s : BitVec 64) (acc : List Int), (Bv.list s).length < n → acc.length + (Bv.list s).length ≤ 64 →
    Sh.iter (fun (p : (BitVec 64) × (List Int)) => G.bits_List_b1 p.1 p.2) n (s, acc) = some (acc ++ ilist s) := by
  intro n
  induction n with
  | zero => intro s acc h; omega
  | succ n ih =>
    intro s acc h1 h2
    by_cases h : s = 0#64
    · subst h
      simp [Sh.iter, G.bits_List_b1, G.bits_List_j1, Sh.exit, ilist, Bv.list_zero]
    · obtain ⟨e, _, _⟩ := Bv.list_cons s h
      have hl : (Bv.list s).length = (Bv.list (s &&& (s - 1#64))).length + 1 := by rw [e]; simp
      have ha : Sh.app 8 acc [((Bv.ctz s : Nat) : Int)] = some (acc ++ [((Bv.ctz s : Nat) : Int)]) := app_ok (by simp; omega)
      have hb : G.bits_List_b1 s acc = some (.inl (s &&& (s - 1#64), acc ++ [((Bv.ctz s : Nat) : Int)])) := by
        simp only [G.bits_List_b1, h, ne_eq, not_false_eq_true, decide_true, if_true, tz, Option.bind_some, ha, Sh.next]
      simp only [Sh.iter, hb]
      rw [ih _ _ (by omega) (by simp; omega)]
      simp only [ilist, Option.some.injEq]
      rw [e]; simp
@[simp] theorem bits_List (s : BitVec 64) : G.bits_List s = some (ilist s) := by
  have := Bv.list_length_le s
  have h := list_iter Sh.FUEL s [] (Nat.lt_of_le_of_lt this (fuel_gt (by omega))) (by simpa using this)
  simpa [G.bits_List, Sh.loop] using h
theorem has_nat (s : BitVec 64) {k : Nat} (hk : k < 64) : Bv.has s (k : Int) = s.getLsbD k := by
  unfold Bv.has
  have h1 : (0 : Int) ≤ (k : Int) := by omega
  have h2 : (k : Int) < 64 := by omega
  simp [h2]
theorem sub_iff (a b : BitVec 64) : a &&& ~~~b = 0#64 ↔ ∀ i, a.getLsbD i = true → b.getLsbD i = true := by
  constructor
  · intro h i hi
    have hi64 : i < 64 := by
      rcases Nat.lt_or_ge i 64 with h | h
      · exact h
      · simp [BitVec.getLsbD_of_ge a i h] at hi
    have := congrArg (fun x : BitVec 64 => x.getLsbD i) h
    simp only [BitVec.getLsbD_and, BitVec.getLsbD_not, hi64, decide_true, Bool.true_and, BitVec.getLsbD_zero, hi] at this
    simpa using this
  · intro h
    apply Bv.ext
    intro i hi
    simp only [BitVec.getLsbD_and, BitVec.getLsbD_not, hi, decide_true, Bool.true_and, BitVec.getLsbD_zero]
    cases ha : a.getLsbD i with
    | true => simp [h i ha]
    | false => rfl
end Pl
namespace Pl
open Go Go.Av
end Pl
end

section
/- Graphs as rows of bits: the program's functions and the reference's, over the edges. -/

namespace Pl
open Go Go.Av

def row : Nat → (Nat → Bool) → BitVec 64
  | 0, _ => 0#64
  | n + 1, p => if p n then row n p ||| (1#64 <<< n) else row n p
theorem shift_get (k i : Nat) (hk : k < 64) : (1#64 <<< k).getLsbD i = decide (i = k) := by
  by_cases hi : i < 64
  · simp only [BitVec.getLsbD_shiftLeft, hi, decide_true, Bool.true_and]
    by_cases hik : i = k
    · subst hik; simp
    · by_cases hlt : i < k
      · simp [hlt, hik]
      · simp [hlt, hik, BitVec.getLsbD_one]; omega
  · have : ¬ i = k := by omega
    simp [BitVec.getLsbD_of_ge _ i (show 64 ≤ i by omega), this]
theorem row_get {n : Nat} (hn : n ≤ 64) (p : Nat → Bool) (i : Nat) : (row n p).getLsbD i = (decide (i < n) && p i) := by
  induction n with
  | zero => simp [row]
  | succ n ih =>
    have ih := ih (by omega)
    unfold row
    by_cases hp : p n = true
    · rw [if_pos hp, BitVec.getLsbD_or, ih, shift_get n i (by omega)]
      by_cases h : i = n
      · subst h; simp [hp]
      · by_cases h2 : i < n
        · simp [h, h2, show i < n + 1 by omega]
        · simp [h, h2, show ¬ i < n + 1 by omega]
    · rw [if_neg hp, ih]
      by_cases h : i = n
      · subst h; simp [hp]
      · by_cases h2 : i < n
        · simp [h2, show i < n + 1 by omega]
        · simp [h2, show ¬ i < n + 1 by omega]
def rows (n : Nat) (f : Nat → Nat → Bool) : List (BitVec 64) := (List.range n).map fun x => row n (f x)
@[simp] theorem rows_len (n : Nat) (f : Nat → Nat → Bool) : (rows n f).length = n := by simp [rows]
theorem rows_at {n : Nat} {f : Nat → Nat → Bool} {x : Nat} (h : x < (rows n f).length) : (rows n f)[x] = row n (f x) := by simp [rows]
theorem rows_idx {n : Nat} {f : Nat → Nat → Bool} {x : Nat} (h : x < n) : Sh.idx (rows n f) (x : Int) = some (row n (f x)) := by
  rw [idx_at (by simpa using h), rows_at]
abbrev gr (n : Nat) (f : Nat → Nat → Bool) : G.graph_Graph := ⟨(n : Int), rows n f⟩
theorem row_ext {n : Nat} (hn : n ≤ 64) {p q : Nat → Bool} : row n p = row n q ↔ ∀ i, i < n → p i = q i := by
  constructor
  · intro h i hi
    have := congrArg (fun x : BitVec 64 => x.getLsbD i) h
    simpa [row_get hn, hi] using this
  · intro h
    apply Bv.ext
    intro i _
    rw [row_get hn, row_get hn]
    by_cases hi : i < n
    · simp [hi, h i hi]
    · simp [hi]
theorem rows_ext {n : Nat} (hn : n ≤ 64) {f h : Nat → Nat → Bool} : rows n f = rows n h ↔ ∀ x y, x < n → y < n → f x y = h x y := by
  constructor
  · intro e x y hx hy
    have h1 : (rows n f)[x]? = (rows n h)[x]? := by rw [e]
    rw [List.getElem?_eq_getElem (by simpa using hx), List.getElem?_eq_getElem (by simpa using hx), rows_at, rows_at] at h1
    exact (row_ext hn).1 (Option.some.inj h1) y hy
  · intro e
    unfold rows
    apply List.map_congr_left
    intro x hx
    exact (row_ext hn).2 (fun y hy => e x y (by simpa using hx) hy)
def rightB (N : Int) (R : List (BitVec 64)) : Bool := decide (0 ≤ N ∧ N ≤ 64 ∧ (R.length : Int) = N ∧ ∀ r ∈ R, ∀ i : Nat, i < 64 → N ≤ (i : Int) → r.getLsbD i = false)
theorem right_rows {n : Nat} (hn : n ≤ 64) (f : Nat → Nat → Bool) : rightB (n : Int) (rows n f) = true := by
  refine decide_eq_true ⟨by omega, by omega, by simp, fun r hr i _ hi => ?_⟩
  simp only [rows, List.mem_map] at hr
  obtain ⟨x, _, rfl⟩ := hr
  rw [row_get hn]
  have : ¬ i < n := by omega
  simp [this]
theorem nodes_get (n : Nat) (hn : n ≤ 64) (i : Nat) (hi : i < 64) : ((1#64 <<< n) - 1#64).getLsbD i = decide (i < n) := by
  rcases Nat.lt_or_ge n 64 with h | h
  · have e : ((1#64 <<< n) - 1#64).toNat = 2 ^ n - 1 := by
      have h1 : 2 ^ n < 2 ^ 64 := Nat.pow_lt_pow_right (by omega) h
      have h2 : 0 < 2 ^ n := Nat.pow_pos (by omega)
      rw [BitVec.toNat_sub]
      simp only [BitVec.toNat_shiftLeft, BitVec.toNat_ofNat, Nat.shiftLeft_eq]
      omega
    simp only [BitVec.getLsbD, e, Nat.testBit_two_pow_sub_one]
  · have : n = 64 := by omega
    subst this
    have e : (1#64 <<< 64) - 1#64 = BitVec.allOnes 64 := by decide
    rw [e, BitVec.getLsbD_allOnes]
theorem join_get (l : List (BitVec 64)) (i : Nat) : (join l).getLsbD i = l.any (·.getLsbD i) := by
  have key : ∀ (l : List (BitVec 64)) (a : BitVec 64), (l.foldl (· ||| ·) a).getLsbD i = (a.getLsbD i || l.any (·.getLsbD i)) := by
    intro l
    induction l with
    | nil => intro a; simp
    | cons x l ih => intro a; simp [ih, Bool.or_assoc]
  simp [join, key]
theorem graph_Right (g : G.graph_Graph) (hl : g.Rows.length < 9223372036854775808) : G.graph_Right g = some (rightB g.N g.Rows) := by
  unfold G.graph_Right G.graph_nodes rightB
  by_cases h1 : 0 ≤ g.N
  · by_cases h2 : g.N ≤ 64
    · by_cases h3 : (g.Rows.length : Int) = g.N
      · have hs : Sh.shl 1#64 g.N = some (1#64 <<< g.N.toNat) := by simp [Sh.shl, h1]
        simp only [h1, h2, h3, decide_true, if_true, bits_Join _ hl, hs, Option.bind_some, bits_Sub, true_and, Option.some.injEq]
        congr 1
        apply propext
        rw [sub_iff]
        constructor
        · intro h r hr i hi hN
          cases hb : r.getLsbD i with
          | false => rfl
          | true =>
            have := h i (by rw [join_get, List.any_eq_true]; exact ⟨r, hr, hb⟩)
            rw [nodes_get _ (by omega) i hi] at this
            have := of_decide_eq_true this
            omega
        · intro h i hi
          have hi64 : i < 64 := by
            rcases Nat.lt_or_ge i 64 with h' | h'
            · exact h'
            · rw [BitVec.getLsbD_of_ge _ i h'] at hi; cases hi
          rw [nodes_get _ (by omega) i hi64]
          apply decide_eq_true
          rw [join_get, List.any_eq_true] at hi
          obtain ⟨r, hr, hb⟩ := hi
          rcases Nat.lt_or_ge i g.N.toNat with h' | h'
          · exact h'
          · rw [h r hr i hi64 (by omega)] at hb; cases hb
      · simp [h1, h2, h3]
    · simp [h1, h2]
  · simp [h1]
@[simp] theorem Right_gr {n : Nat} (hn : n ≤ 64) (f : Nat → Nat → Bool) : G.graph_Right (gr n f) = some true := by
  rw [graph_Right _ (by simp; omega)]
  exact congrArg some (right_rows hn f)
theorem graph_New (n : Nat) (hn : n ≤ 64) : G.graph_New (n : Int) = some (⟨(n : Int), List.replicate n 0#64⟩, 0) := by
  unfold G.graph_New G.graph_New_j1
  have h1 : ¬ (n : Int) < 0 := by omega
  have h2 : ¬ (64 : Int) < (n : Int) := by omega
  simp only [h1, h2, decide_false, Bool.false_eq_true, if_false, mk_ok (show 8 * n ≤ 140737488355328 by omega) (show n ≤ 4611686018427387904 by omega), Option.bind_some]
theorem zero_rows (n : Nat) : List.replicate n 0#64 = rows n (fun _ _ => false) := by
  unfold rows
  apply List.ext_getElem (by simp)
  intro x h1 h2
  simp only [List.getElem_replicate, List.getElem_map]
  have : ∀ m, row m (fun _ => false) = 0#64 := fun m => by
    induction m with
    | zero => rfl
    | succ m ih => simp [row, ih]
  rw [this]
theorem row_with {n : Nat} (hn : n ≤ 64) (p : Nat → Bool) {k : Nat} (hk : k < n) : row n p ||| Bv.bit (k : Int) = row n (fun i => p i || decide (i = k)) := by
  apply Bv.ext
  intro i hi
  rw [row_get hn, BitVec.getLsbD_or, row_get hn]
  have hb : Bv.bit (k : Int) = 1#64 <<< k := by unfold Bv.bit; rw [if_pos ⟨by omega, by omega⟩]; simp
  rw [hb]
  simp only [BitVec.getLsbD_shiftLeft, hi, decide_true, Bool.true_and]
  by_cases hik : i = k
  · subst hik; simp [hk]
  · by_cases hlt : i < k
    · simp [hlt, hik]
    · simp [hlt, hik, BitVec.getLsbD_one]; omega
theorem rows_set {n : Nat} (f : Nat → Nat → Bool) {x : Nat} (_hx : x < n) (p : Nat → Bool) : (rows n f).set x (row n p) = rows n (fun a => if a = x then p else f a) := by
  apply List.ext_getElem (by simp)
  intro a h1 h2
  rw [List.getElem_set, rows_at, rows_at]
  by_cases ha : x = a
  · subst ha; simp
  · simp [ha, Ne.symm ha]
def addF (f : Nat → Nat → Bool) (a b : Nat) : Nat → Nat → Bool := fun x y => f x y || decide (x = a ∧ y = b)
theorem graph_Add {n : Nat} (hn : n ≤ 64) (f : Nat → Nat → Bool) {a b : Nat} (ha : a < n) (hb : b < n) : G.graph_Add (gr n f) (a : Int) (b : Int) = some (gr n (addF f a b), 0) := by
  unfold G.graph_Add G.graph_Add_j1
  have h1 : ¬ (a : Int) < 0 := by omega
  have h2 : ¬ (n : Int) ≤ (a : Int) := by omega
  have h3 : ¬ (b : Int) < 0 := by omega
  have h4 : ¬ (n : Int) ≤ (b : Int) := by omega
  simp only [Right_gr hn, Option.bind_some, Bool.not_true, Bool.false_eq_true, if_false, h1, h2, h3, h4, decide_false, graph_New n hn, cpy_ok (show (rows n f).length = (List.replicate n 0#64).length by simp), rows_idx ha, bits_With, row_with hn _ hb, set_at, rows_set f ha]
  have e : rows n (fun x => if x = a then (fun i => f a i || decide (i = b)) else f x) = rows n (addF f a b) := by
    rw [rows_ext hn]
    intro x y _ _
    unfold addF
    by_cases hx : x = a
    · subst hx; simp
    · simp [hx]
  rw [e]
def mixF (f h : Nat → Nat → Bool) (k : Nat) : Nat → Nat → Bool := fun x y => if x < k then h x y else f x y
theorem mix_zero {n : Nat} (f h : Nat → Nat → Bool) : rows n (mixF f h 0) = rows n f := by
  unfold rows mixF; simp
theorem mix_all {n : Nat} (hn : n ≤ 64) (f h : Nat → Nat → Bool) : rows n (mixF f h n) = rows n h := by
  rw [rows_ext hn]; intro x y hx _; simp [mixF, hx]
theorem mix_set {n : Nat} (hn : n ≤ 64) (f h : Nat → Nat → Bool) {k : Nat} (hk : k < n) : (rows n (mixF f h k)).set k (row n (h k)) = rows n (mixF f h (k + 1)) := by
  rw [rows_set _ hk, rows_ext hn]
  intro x y _ _
  unfold mixF
  by_cases hx : x = k
  · subst hx; simp
  · by_cases hlt : x < k
    · simp [hx, hlt, show x < k + 1 by omega]
    · simp [hx, hlt, show ¬ x < k + 1 by omega]
theorem row_or {n : Nat} (hn : n ≤ 64) (p q : Nat → Bool) : row n p ||| row n q = row n (fun i => p i || q i) := by
  apply Bv.ext
  intro i _
  rw [BitVec.getLsbD_or, row_get hn, row_get hn, row_get hn]
  by_cases hi : i < n <;> simp [hi]

def orF (f h : Nat → Nat → Bool) : Nat → Nat → Bool := fun x y => f x y || h x y
theorem like_gr {n m : Nat} (hn : n ≤ 64) (hm : m ≤ 64) (f h : Nat → Nat → Bool) : G.graph_like (gr n f) (gr m h) = some (decide (n = m)) := by
  unfold G.graph_like
  simp [Right_gr hn, Right_gr hm, Int.ofNat_inj]
theorem graph_Union {n : Nat} (hn : n ≤ 64) (f h : Nat → Nat → Bool) : G.graph_Union (gr n f) (gr n h) = some (gr n (orF f h), 0) := by
  unfold G.graph_Union
  simp only [like_gr hn hn, decide_true, Option.bind_some, Bool.not_true, Bool.false_eq_true, if_false, graph_New n hn]
  refine count (fun k => rows n (mixF (fun _ _ => false) (orF f h) k)) n _ (fuel_gt (by omega)) (fun k hk => ?_) ?_ (by rw [mix_zero, zero_rows])
  · simp only [G.graph_Union_b1, len_eq, List.length_replicate, dec_lt, hk, decide_true, if_true, rows_idx hk, Option.bind_some, join_two, row_or hn, set_at, Sh.next, w64_succ (show k < 9223372036854775807 by omega)]
    have := mix_set hn (fun _ _ => false) (orF f h) hk
    rw [← this]; rfl
  · simp only [G.graph_Union_b1, len_eq, List.length_replicate, Int.lt_irrefl, decide_false, Bool.false_eq_true, if_false, G.graph_Union_j1, exit_some, mix_all hn]
theorem ilist_at {s : BitVec 64} {k : Nat} (h : k < (Bv.list s).length) : Sh.idx (ilist s) (k : Int) = some (((Bv.list s)[k] : Nat) : Int) := by
  have h' : k < (ilist s).length := by simpa [ilist] using h
  rw [idx_at h']; simp [ilist]
theorem list_row {n : Nat} (hn : n ≤ 64) (p : Nat → Bool) {i : Nat} : i ∈ Bv.list (row n p) ↔ i < n ∧ p i = true := by
  rw [Bv.mem_list, row_get hn]; simp
theorem list_mem_lt {n : Nat} (hn : n ≤ 64) (p : Nat → Bool) {k : Nat} (h : k < (Bv.list (row n p)).length) : (Bv.list (row n p))[k] < n := ((list_row hn p).1 (List.getElem_mem h)).1
theorem any_take {l : List Nat} {k : Nat} (h : k < l.length) (q : Nat → Bool) : (l.take (k + 1)).any q = ((l.take k).any q || q l[k]) := by
  rw [List.take_succ_eq_append_getElem h, List.any_append]; simp
def compF (n : Nat) (f h : Nat → Nat → Bool) : Nat → Nat → Bool := fun x y => (List.range n).any fun z => f x z && h z y
theorem comp_row {n : Nat} (hn : n ≤ 64) (f h : Nat → Nat → Bool) (x : Nat) : row n (fun y => (Bv.list (row n (f x))).any fun z => h z y) = row n (compF n f h x) := by
  rw [row_ext hn]
  intro y _
  unfold compF
  rw [Bool.eq_iff_iff, List.any_eq_true, List.any_eq_true]
  constructor
  · rintro ⟨z, h1, h2⟩
    obtain ⟨h3, h4⟩ := (list_row hn _).1 h1
    exact ⟨z, by simpa using h3, by simp [h4, h2]⟩
  · rintro ⟨z, h1, h2⟩
    simp only [Bool.and_eq_true] at h2
    exact ⟨z, (list_row hn _).2 ⟨by simpa using h1, h2.1⟩, h2.2⟩
theorem comp_inner {n : Nat} (hn : n ≤ 64) (h : Nat → Nat → Bool) (F : Nat → Nat → Bool) {x : Nat} (hx : x < n) (p : Nat → Bool) (hF : ∀ y, y < n → F x y = false) :
    Sh.loop (fun (q : (List (BitVec 64)) × Int) => G.graph_Compose_b2 (gr n h) (x : Int) (ilist (row n p)) q.1 q.2) (rows n F, 0) =
      some (.inl ((rows n F).set x (row n (fun y => (Bv.list (row n p)).any fun z => h z y)), ((x + 1 : Nat) : Int))) := by
  refine count (fun k => (rows n F).set x (row n (fun y => ((Bv.list (row n p)).take k).any fun z => h z y))) (Bv.list (row n p)).length _ (fuel_gt (by have := Bv.list_length_le (row n p); omega)) (fun k hk => ?_) ?_ ?_
  · have hz := list_mem_lt hn p hk
    have hl : Sh.len (ilist (row n p)) = ((Bv.list (row n p)).length : Int) := by simp [ilist, Sh.len]
    have hs : ∀ r : BitVec 64, Sh.idx ((rows n F).set x r) (x : Int) = some r := fun r => by
      rw [idx_at (by simpa using hx)]; simp
    simp only [G.graph_Compose_b2, hl, dec_lt, hk, decide_true, if_true, ilist_at hk, Option.bind_some, hs, rows_idx hz, join_two, row_or hn, set_at, List.set_set, Sh.next, w64_succ (show k < 9223372036854775807 by have := Bv.list_length_le (row n p); omega)]
    congr 5
    funext y
    rw [any_take hk]
  · have hl : Sh.len (ilist (row n p)) = ((Bv.list (row n p)).length : Int) := by simp [ilist, Sh.len]
    simp only [G.graph_Compose_b2, hl, Int.lt_irrefl, decide_false, Bool.false_eq_true, if_false, G.graph_Compose_j2, next_some, exit_some, List.take_length, w64_succ (show x < 9223372036854775807 by omega)]
  · rw [rows_set _ hx, rows_ext hn]
    intro a y _ hy
    by_cases ha : a = x
    · subst ha; simp [hF y hy]
    · simp [ha]
theorem graph_Compose {n : Nat} (hn : n ≤ 64) (f h : Nat → Nat → Bool) : G.graph_Compose (gr n f) (gr n h) = some (gr n (compF n f h), 0) := by
  unfold G.graph_Compose
  simp only [like_gr hn hn, decide_true, Option.bind_some, Bool.not_true, Bool.false_eq_true, if_false, graph_New n hn]
  refine count (fun k => rows n (mixF (fun _ _ => false) (compF n f h) k)) n _ (fuel_gt (by omega)) (fun k hk => ?_) ?_ (by rw [mix_zero, zero_rows])
  · simp only [G.graph_Compose_b1, len_eq, List.length_replicate, dec_lt, hk, decide_true, if_true, rows_idx hk, Option.bind_some, bits_List]
    rw [comp_inner hn h (mixF (fun _ _ => false) (compF n f h) k) hk (f k) (fun y _ => by simp [mixF]), comp_row hn, mix_set hn _ _ hk]
  · simp only [G.graph_Compose_b1, len_eq, List.length_replicate, Int.lt_irrefl, decide_false, Bool.false_eq_true, if_false, G.graph_Compose_j1, exit_some, mix_all hn]
def turnF (f : Nat → Nat → Bool) : Nat → Nat → Bool := fun x y => f y x
end Pl
end

section
/- The reference's graphs. -/
namespace Pl
open Go Go.Av

end Pl
namespace Pl
open Go Go.Av
end Pl
end

section
/- Where ways lead. -/


namespace Pl
open Go Go.Av

inductive Way (n : Nat) (f : Nat → Nat → Bool) : Nat → Nat → Prop
  | edge {x y : Nat} : x < n → y < n → f x y = true → Way n f x y
  | cons {x y z : Nat} : x < n → y < n → f x y = true → Way n f y z → Way n f x z

theorem Way.trans {n : Nat} {f : Nat → Nat → Bool} {x y z : Nat} (h : Way n f x y) (k : Way n f y z) : Way n f x z := by
  induction h with
  | edge hx hy hf => exact .cons hx hy hf k
  | cons hx hy hf _ ih => exact .cons hx hy hf (ih k)
theorem Way.left {n : Nat} {f : Nat → Nat → Bool} {x y : Nat} (h : Way n f x y) : x < n := by cases h <;> assumption
theorem Way.right {n : Nat} {f : Nat → Nat → Bool} {x y : Nat} (h : Way n f x y) : y < n := by
  induction h with
  | edge _ hy _ => exact hy
  | cons _ _ _ _ ih => exact ih
theorem Way.mono {n : Nat} {f h : Nat → Nat → Bool} (hm : ∀ x y, x < n → y < n → f x y = true → Way n h x y) {x y : Nat} (w : Way n f x y) : Way n h x y := by
  induction w with
  | edge hx hy hf => exact hm _ _ hx hy hf
  | cons hx hy hf _ ih => exact (hm _ _ hx hy hf).trans ih
theorem Way.last {n : Nat} {f : Nat → Nat → Bool} {x z : Nat} (h : Way n f x z) : ∃ y, y < n ∧ f y z = true ∧ (y = x ∨ Way n f x y) := by
  induction h with
  | edge hx hy hf => exact ⟨_, hx, hf, .inl rfl⟩
  | cons hx hy hf _ ih =>
    obtain ⟨y, h1, h2, h3⟩ := ih
    refine ⟨y, h1, h2, .inr ?_⟩
    rcases h3 with rfl | h3
    · exact .edge hx hy hf
    · exact .cons hx hy hf h3

noncomputable def wayF (n : Nat) (f : Nat → Nat → Bool) : Nat → Nat → Bool := fun x y => @decide (Way n f x y) (Classical.propDecidable _)
theorem way_iff {n : Nat} {f : Nat → Nat → Bool} {x y : Nat} : wayF n f x y = true ↔ Way n f x y := by
  unfold wayF; exact @decide_eq_true_iff _ (Classical.propDecidable _)

theorem bit_get (k i : Nat) (hk : k < 64) : (Bv.bit (k : Int)).getLsbD i = decide (i = k) := by
  have hb : Bv.bit (k : Int) = 1#64 <<< k := by unfold Bv.bit; rw [if_pos ⟨by omega, by omega⟩]; simp
  rw [hb, shift_get k i hk]
noncomputable def cycB (n : Nat) (f : Nat → Nat → Bool) : Bool := @decide (∃ x, Way n f x x) (Classical.propDecidable _)
theorem cyc_iff {n : Nat} {f : Nat → Nat → Bool} : cycB n f = true ↔ ∃ x, Way n f x x := by
  unfold cycB; exact @decide_eq_true_iff _ (Classical.propDecidable _)
end Pl
end

section
/- The statements on graphs. -/

namespace Pl
open Go Go.Av

end Pl
end

section
/- The statements on where ways lead. -/

namespace Pl
open Go Go.Av

end Pl
end

section
/- The reference's graphs of a history: what must come ahead of what. -/

namespace Pl
open Go Go.Av

theorem inr_nat {h : G.api_Hist} {x : Nat} : inr h (x : Int) = true ↔ x < h.Txns.length := by rw [inr_iff]; omega
theorem idx_nat {h : G.api_Hist} {x : Nat} (hx : x < h.Txns.length) : Sh.idx h.Txns (x : Int) = some (tx h x) := idx_tx (inr_nat.2 hx)
theorem tx_in {h : G.api_Hist} {x : Nat} (hx : x < h.Txns.length) : tx h x ∈ h.Txns := tx_mem (inr_nat.2 hx)
def soF (h : G.api_Hist) (x y : Nat) : Bool := decide (x < y) && decide ((tx h x).Session = (tx h y).Session)
def wrF (h : G.api_Hist) (x y : Nat) : Bool := (tx h y).Reads.any (fun r => decide (r.From = (x : Int)))
def iniC (h : G.api_Hist) (r : G.api_Take) (y : Nat) : Bool := decide (r.From = -1) && hasW (tx h y) r.Key
def iniF (h : G.api_Hist) (x y : Nat) : Bool := decide (y ≠ x) && (tx h x).Reads.any (fun r => iniC h r y)
def wwF (l : List G.api_Choice) (x y : Nat) : Bool := l.any (fun c => decide (c.A = (x : Int)) && decide (c.B = (y : Int)))
def rwC (h : G.api_Hist) (c : G.api_Choice) (x y : Nat) : Bool := decide (c.B = (y : Int)) && decide (x ≠ y) && decide (fromR h x c.Key = some c.A)
def rwF (h : G.api_Hist) (l : List G.api_Choice) (x y : Nat) : Bool := iniF h x y || l.any (fun c => rwC h c x y)


theorem take_any {α : Type} {l : List α} {k : Nat} (h : k < l.length) (q : α → Bool) : (l.take (k + 1)).any q = ((l.take k).any q || q l[k]) := by
  rw [List.take_add_one, List.getElem?_eq_getElem h, Option.toList_some, List.any_append, List.any_cons, List.any_nil, Bool.or_false]
theorem from_in {h : G.api_Hist} (hr : right h = true) {t : Nat} (ht : t < h.Txns.length) {r : G.api_Take} (hm : r ∈ (tx h t).Reads) (h0 : ¬ r.From < 0) : ∃ x : Nat, r.From = (x : Int) ∧ x < h.Txns.length := by
  have := (from_ok hr (tx_in ht) hm h0).1
  obtain ⟨a, b⟩ := inr_iff.1 this
  exact ⟨r.From.toNat, by omega, by omega⟩
theorem one_nat {h : G.api_Hist} {c : G.api_Choice} (h1 : one h c = true) : ∃ a b : Nat, c.A = (a : Int) ∧ c.B = (b : Int) ∧ a < h.Txns.length ∧ b < h.Txns.length ∧ a ≠ b ∧ hasW (tx h a) c.Key = true ∧ hasW (tx h b) c.Key = true := by
  simp only [one, Bool.and_eq_true, decide_eq_true_eq] at h1
  obtain ⟨⟨⟨⟨d, e⟩, f⟩, g⟩, k⟩ := h1
  have e' := inr_iff.1 e
  have f' := inr_iff.1 f
  have ea : c.A = ((c.A.toNat : Nat) : Int) := by omega
  have eb : c.B = ((c.B.toNat : Nat) : Int) := by omega
  refine ⟨c.A.toNat, c.B.toNat, ea, eb, by omega, by omega, by omega, ?_, ?_⟩
  · rw [← ea]; exact g
  · rw [← eb]; exact k
def readers (h : G.api_Hist) (key frm : Int) : List Nat := (List.range h.Txns.length).filter fun t : Nat => decide (fromR h t key = some frm)
theorem readers_lt {h : G.api_Hist} {key frm : Int} {t : Nat} (ht : t ∈ readers h key frm) : t < h.Txns.length ∧ fromR h t key = some frm := by
  unfold readers at ht
  simpa using ht
theorem readers_len {h : G.api_Hist} {key frm : Int} : (readers h key frm).length ≤ h.Txns.length := by
  have := List.length_filter_le (fun t : Nat => decide (fromR h t key = some frm)) (List.range h.Txns.length); simpa [readers] using this
def dF (h : G.api_Hist) (l : List G.api_Choice) : Nat → Nat → Bool := orF (orF (soF h) (wrF h)) (wwF l)
def fullF (h : G.api_Hist) (lev : Int) (l : List G.api_Choice) : Nat → Nat → Bool :=
  orF (dF h l) (if lev = 1 then compF h.Txns.length (dF h l) (rwF h l) else rwF h l)
end Pl
end

section
/- What follows must be so: whoever chooses all pairs, and lets nothing lead back, chooses it too. -/
namespace Pl
open Go Go.Av

end Pl
end

section
/- All pairs, and all ways to choose them. -/

namespace Pl
open Go Go.Av

def writers (h : G.api_Hist) (key : Int) : List Int := if right h then ((List.range h.Txns.length).filter fun t : Nat => hasW (tx h t) key).map fun t : Nat => (t : Int) else []
theorem writers_len {h : G.api_Hist} {key : Int} : (writers h key).length ≤ h.Txns.length := by
  unfold writers
  split
  · have := List.length_filter_le (fun t : Nat => hasW (tx h t) key) (List.range h.Txns.length); simpa using this
  · simp
theorem mem_writers {h : G.api_Hist} (hr : right h = true) {key x : Int} : x ∈ writers h key ↔ inr h x = true ∧ hasW (tx h x) key = true := by
  unfold writers
  rw [if_pos hr]
  simp only [List.mem_map, List.mem_filter, List.mem_range]
  constructor
  · rintro ⟨t, ⟨h1, h2⟩, rfl⟩; exact ⟨inr_nat.2 h1, h2⟩
  · rintro ⟨h1, h2⟩
    obtain ⟨a, b⟩ := inr_iff.1 h1
    refine ⟨x.toNat, ⟨by omega, ?_⟩, by omega⟩
    rw [show ((x.toNat : Nat) : Int) = x by omega]; exact h2
theorem writers_sorted {h : G.api_Hist} {key : Int} : (writers h key).Pairwise (· < ·) := by
  unfold writers
  split
  · rw [List.pairwise_map]
    refine List.Pairwise.imp (R := fun a b : Nat => a < b) (fun {a b} hab => by omega) ?_
    exact List.Pairwise.filter _ List.pairwise_lt_range
  · exact .nil

def pairsI (key : Int) (ws : List Int) (i : Nat) : List G.api_Choice := (ws.drop (i + 1)).map fun w => ⟨key, ws.getD i 0, w⟩
def pairsK (key : Int) (ws : List Int) : List G.api_Choice := (List.range ws.length).flatMap (pairsI key ws)
def pairs (h : G.api_Hist) : List G.api_Choice := (List.range 16).flatMap fun k : Nat => pairsK k (writers h k)
theorem flat_len {α : Type} (f : Nat → List α) (b : Nat) (hb : ∀ k, (f k).length ≤ b) : ∀ n, ((List.range n).flatMap f).length ≤ n * b := by
  intro n
  induction n with
  | zero => simp
  | succ n ih =>
    rw [List.range_succ, List.flatMap_append, List.length_append]
    have := hb n
    simp only [List.flatMap_cons, List.flatMap_nil, List.append_nil]
    rw [Nat.add_mul, Nat.one_mul]; omega
theorem pairsI_len (key : Int) (ws : List Int) (i : Nat) : (pairsI key ws i).length ≤ ws.length := by simp [pairsI]
theorem pairsK_len (key : Int) (ws : List Int) : (pairsK key ws).length ≤ ws.length * ws.length := flat_len _ _ (pairsI_len key ws) _
theorem flat_succ {α : Type} (f : Nat → List α) (k : Nat) : (List.range (k + 1)).flatMap f = (List.range k).flatMap f ++ f k := by
  rw [List.range_succ, List.flatMap_append]; simp
theorem pairs_one {h : G.api_Hist} (hr : right h = true) {c : G.api_Choice} (hc : c ∈ pairs h) : one h c = true := by
  unfold pairs pairsK pairsI at hc
  simp only [List.mem_flatMap, List.mem_range, List.mem_map] at hc
  obtain ⟨k, hk, i, hi, w, hw, rfl⟩ := hc
  have hd : (writers h (k : Int)).getD i 0 = (writers h (k : Int))[i] := by simp [List.getD, List.getElem?_eq_getElem hi]
  have m1 := (mem_writers hr).1 (List.getElem_mem hi)
  have m2 := (mem_writers hr).1 (List.mem_of_mem_drop hw)
  have hlt : (writers h (k : Int))[i] < w := by
    have hs := writers_sorted (h := h) (key := (k : Int))
    rw [List.pairwise_iff_getElem] at hs
    obtain ⟨j, hj, rfl⟩ := List.getElem_of_mem hw
    rw [List.getElem_drop]
    simp only [List.length_drop] at hj
    exact hs i (i + 1 + j) hi (by omega) (by omega)
  unfold one
  rw [hd]
  simp only [m1.1, m1.2, m2.1, m2.2, Bool.and_true, decide_eq_true_eq]
  omega
theorem hasW_lt {h : G.api_Hist} (hr : right h = true) {t : G.api_Txn} (ht : t ∈ h.Txns) {k : Int} (hw : hasW t k = true) : 0 ≤ k ∧ k < 16 := by
  have key : ∀ (l : List G.api_Txn) (n : Nat), okAll h n l = true → ∀ t ∈ l, rising (-1) t.Writes = true := by
    intro l
    induction l with
    | nil => intro n _ t ht; cases ht
    | cons x l ih =>
      intro n hn t ht
      rw [show okAll h n (x :: l) = (okT h (n : Nat) x && okAll h (n + 1) l) from rfl, Bool.and_eq_true] at hn
      rcases List.mem_cons.1 ht with rfl | ht
      · have := hn.1
        simp only [okT, Bool.and_eq_true] at this
        exact this.1.1.1
      · exact ih _ hn.2 t ht
  have hri : rising (-1) t.Writes = true := by
    simp only [right, Bool.and_eq_true] at hr
    exact key _ 0 hr.2 t ht
  have bd : ∀ (l : List Int) (last : Int), rising last l = true → ∀ x ∈ l, last < x ∧ x < 16 := by
    intro l
    induction l with
    | nil => intro _ _ x hx; cases hx
    | cons y l ih =>
      intro last hl x hx
      rw [show rising last (y :: l) = (decide (last < y) && decide (y < 16) && rising y l) from rfl] at hl
      simp only [Bool.and_eq_true, decide_eq_true_eq] at hl
      rcases List.mem_cons.1 hx with rfl | hx
      · exact ⟨hl.1.1, hl.1.2⟩
      · have := ih _ hl.2 x hx; omega
  unfold hasW at hw
  simp only [List.any_eq_true, decide_eq_true_eq] at hw
  obtain ⟨x, hx, rfl⟩ := hw
  have := bd _ _ hri _ hx
  omega
theorem pairs_all {h : G.api_Hist} (hr : right h = true) {c : G.api_Choice} (hc : one h c = true) : c ∈ pairs h ∨ back c ∈ pairs h := by
  have mk : ∀ (K x y : Int), inr h x = true → inr h y = true → hasW (tx h x) K = true → hasW (tx h y) K = true → x < y → (⟨K, x, y⟩ : G.api_Choice) ∈ pairs h := by
    intro K x y hx hy wx wy hlt
    obtain ⟨k0, k1⟩ := hasW_lt hr (tx_mem hx) wx
    have ek : K = ((K.toNat : Nat) : Int) := by omega
    generalize K.toNat = k at ek
    subst ek
    have mx := (mem_writers hr).2 ⟨hx, wx⟩
    have my := (mem_writers hr).2 ⟨hy, wy⟩
    obtain ⟨i, hi, ei⟩ := List.getElem_of_mem mx
    obtain ⟨j, hj, ej⟩ := List.getElem_of_mem my
    have hs := writers_sorted (h := h) (key := (k : Int))
    rw [List.pairwise_iff_getElem] at hs
    have hij : i < j := by
      rcases Nat.lt_trichotomy i j with h1 | h1 | h1
      · exact h1
      · subst h1; omega
      · have := hs j i hj hi h1; omega
    unfold pairs pairsK pairsI
    simp only [List.mem_flatMap, List.mem_range, List.mem_map]
    refine ⟨k, by omega, i, hi, y, ?_, ?_⟩
    · rw [List.mem_iff_getElem]
      refine ⟨j - (i + 1), by simp; omega, ?_⟩
      rw [List.getElem_drop]
      rw [← ej]
      congr 1
      omega
    · have hd : (writers h (k : Int)).getD i 0 = (writers h (k : Int))[i] := by simp [List.getD, List.getElem?_eq_getElem hi]
      rw [hd, ei]
  simp only [one, Bool.and_eq_true, decide_eq_true_eq] at hc
  obtain ⟨⟨⟨⟨d, e⟩, f⟩, g⟩, k⟩ := hc
  by_cases hlt : c.A < c.B
  · exact .inl (mk c.Key c.A c.B e f g k hlt)
  · exact .inr (mk c.Key c.B c.A f e k g (by omega))

inductive Sel : List G.api_Choice → List G.api_Choice → Prop
  | nil : Sel [] []
  | so {x : G.api_Choice} {r s : List G.api_Choice} : Sel r s → Sel (x :: r) (x :: s)
  | not {x : G.api_Choice} {r s : List G.api_Choice} : Sel r s → Sel (x :: r) (back x :: s)
theorem Sel.len {r s : List G.api_Choice} (h : Sel r s) : s.length = r.length := by induction h <;> simp_all
theorem Sel.mem {r s : List G.api_Choice} (h : Sel r s) : ∀ c ∈ r, c ∈ s ∨ back c ∈ s := by
  induction h with
  | nil => intro c hc; cases hc
  | so _ ih =>
    intro c hc
    rcases List.mem_cons.1 hc with rfl | hc
    · exact .inl (List.mem_cons_self ..)
    · exact (ih c hc).imp (List.mem_cons_of_mem _) (List.mem_cons_of_mem _)
  | not _ ih =>
    intro c hc
    rcases List.mem_cons.1 hc with rfl | hc
    · exact .inr (List.mem_cons_self ..)
    · exact (ih c hc).imp (List.mem_cons_of_mem _) (List.mem_cons_of_mem _)
theorem Sel.all {r s : List G.api_Choice} (h : Sel r s) {p : G.api_Choice → Prop} (h1 : ∀ c ∈ r, p c) (h2 : ∀ c, p c → p (back c)) : ∀ c ∈ s, p c := by
  induction h with
  | nil => intro c hc; cases hc
  | so _ ih =>
    intro c hc
    rcases List.mem_cons.1 hc with rfl | hc
    · exact h1 _ (List.mem_cons_self ..)
    · exact ih (fun c hc => h1 c (List.mem_cons_of_mem _ hc)) c hc
  | not _ ih =>
    intro c hc
    rcases List.mem_cons.1 hc with rfl | hc
    · exact h2 _ (h1 _ (List.mem_cons_self ..))
    · exact ih (fun c hc => h1 c (List.mem_cons_of_mem _ hc)) c hc
theorem one_back {h : G.api_Hist} {c : G.api_Choice} (h1 : one h c = true) : one h (back c) = true := by
  simp only [one, back, Bool.and_eq_true, decide_eq_true_eq] at *
  obtain ⟨⟨⟨⟨d, e⟩, f⟩, g⟩, k⟩ := h1
  refine ⟨⟨⟨⟨?_, f⟩, e⟩, k⟩, g⟩
  exact decide_eq_true (fun h => d h.symm)
end Pl
end

section
/- What is left of sorted numbers when what comes twice is left out. -/
namespace Pl
open Go Go.Av

theorem asc_ext : ∀ {a b : List Int}, a.Pairwise (· < ·) → b.Pairwise (· < ·) → (∀ x, x ∈ a ↔ x ∈ b) → a = b
  | [], [], _, _, _ => rfl
  | [], y :: b, _, _, h => absurd ((h y).2 (List.mem_cons_self ..)) (by simp)
  | x :: a, [], _, _, h => absurd ((h x).1 (List.mem_cons_self ..)) (by simp)
  | x :: a, y :: b, ha, hb, h => by
    rw [List.pairwise_cons] at ha hb
    have hxy : x = y := by
      rcases List.mem_cons.1 ((h x).1 (List.mem_cons_self ..)) with e | e
      · exact e
      · rcases List.mem_cons.1 ((h y).2 (List.mem_cons_self ..)) with e2 | e2
        · exact e2.symm
        · have h1 := hb.1 x e
          have h2 := ha.1 y e2
          omega
    subst hxy
    have : a = b := asc_ext ha.2 hb.2 fun z => ⟨fun hz => by
      rcases List.mem_cons.1 ((h z).1 (List.mem_cons_of_mem _ hz)) with e | e
      · subst e; have := ha.1 z hz; omega
      · exact e, fun hz => by
      rcases List.mem_cons.1 ((h z).2 (List.mem_cons_of_mem _ hz)) with e | e
      · subst e; have := hb.1 z hz; omega
      · exact e⟩
    rw [this]

theorem compact_mem (l : List Int) (x : Int) : x ∈ Lib.compact l ↔ x ∈ l := by
  unfold Lib.compact Lib.compactUpTo
  simp only [List.mem_map, List.mem_filter, List.mem_range]
  constructor
  · rintro ⟨j, ⟨hj, _⟩, rfl⟩
    simp [hj]
  · intro hx
    obtain ⟨i, hi, hix⟩ := List.getElem_of_mem hx
    have hex : ∃ i, i < l.length ∧ l.toArray[i]! = x := ⟨i, hi, by simp [hi, hix]⟩
    obtain ⟨k, ⟨hk, hkx⟩, hmin⟩ := exists_least _ hex
    refine ⟨k, ⟨hk, ?_⟩, hkx⟩
    unfold Lib.keeps
    rw [decide_eq_true_eq]
    by_cases h0 : k = 0
    · exact .inl h0
    · refine .inr fun he => ?_
      have := hmin (k - 1) ⟨by omega, by rw [← he]; exact hkx⟩
      omega
theorem compact_sorted (l : List Int) (hs : l.Pairwise (· ≤ ·)) : (Lib.compact l).Pairwise (· < ·) := by
  unfold Lib.compact Lib.compactUpTo
  rw [List.pairwise_map]
  refine List.Pairwise.imp_of_mem (R := fun a b : Nat => a < b) (fun {a b} ha hb hab => ?_) (List.Pairwise.filter _ List.pairwise_lt_range)
  simp only [List.mem_filter, List.mem_range] at ha hb
  have hk := hb.2
  unfold Lib.keeps at hk
  rw [decide_eq_true_eq] at hk
  have hk2 := hk.resolve_left (by omega)
  have e1 : l.toArray[a]! = l[a] := by simp [ha.1]
  have e2 : l.toArray[b]! = l[b] := by simp [hb.1]
  have e3 : l.toArray[b - 1]! = l[b - 1]'(by omega) := by simp [show b - 1 < l.length by omega]
  rw [e2, e3] at hk2
  rw [e1, e2]
  have le : ∀ i j (hi : i < l.length) (hj : j < l.length), i ≤ j → l[i] ≤ l[j] := fun i j hi hj hij => by
    rcases Nat.lt_or_ge i j with h | h
    · exact List.pairwise_iff_getElem.1 hs i j hi hj h
    · have : i = j := by omega
      subst this; exact Int.le_refl _
  have h1 := le a (b - 1) (by omega) (by omega) (by omega)
  have h2 := le (b - 1) b (by omega) hb.1 (by omega)
  omega
theorem sort_compact (l r : List Int) (hr : r.Pairwise (· < ·)) (hm : ∀ x, x ∈ r ↔ x ∈ l) : Lib.compact (l.mergeSort fun x y => decide (x ≤ y)) = r := by
  refine asc_ext (compact_sorted _ ?_) hr fun x => ?_
  · have h := List.pairwise_mergeSort (le := fun x y : Int => decide (x ≤ y)) (fun a b c h1 h2 => by simp at h1 h2 ⊢; omega) (fun a b => by simp; omega) l
    exact h.imp fun {a b} hab => by simpa using hab
  · rw [compact_mem, List.mem_mergeSort, hm]
theorem sort_ok {l : List Int} (h : l.length < 4611686018427387904) : Sh.sort l = some (l.mergeSort fun x y => decide (x ≤ y)) := by rw [← Sh.isort_eq]; exact if_pos h
theorem compact_ok {l : List Int} (h : l.length < 4611686018427387904) : Sh.compact l = some (Lib.compact l) := if_pos h
end Pl
end

section
/- Who writes, and who reads, each key: what the program answers. -/
namespace Pl
open Go Go.Av

theorem right_le {h : G.api_Hist} (hr : right h = true) : h.Txns.length ≤ 32 := by
  simp only [right, Bool.and_eq_true, decide_eq_true_eq] at hr; exact hr.1
theorem right_txn {h : G.api_Hist} (hr : right h = true) {t : G.api_Txn} (ht : t ∈ h.Txns) : ∃ n : Int, okT h n t = true := by
  simp only [right, Bool.and_eq_true] at hr
  have key : ∀ (l : List G.api_Txn) (n : Nat), okAll h n l = true → ∀ t ∈ l, ∃ n : Int, okT h n t = true := by
    intro l
    induction l with
    | nil => intro n _ t ht; cases ht
    | cons x l ih =>
      intro n hn t ht
      rw [show okAll h n (x :: l) = (okT h (n : Nat) x && okAll h (n + 1) l) from rfl, Bool.and_eq_true] at hn
      rcases List.mem_cons.1 ht with rfl | ht
      · exact ⟨_, hn.1⟩
      · exact ih _ hn.2 t ht
  exact key _ 0 hr.2 t ht
theorem rising_len : ∀ {l : List Int} {last : Int}, rising last l = true → last ≤ 15 → (l.length : Int) ≤ 15 - last
  | [], last, _, h => by simp; omega
  | x :: l, last, hr, h => by
    rw [show rising last (x :: l) = (decide (last < x) && decide (x < 16) && rising x l) from rfl] at hr
    simp only [Bool.and_eq_true, decide_eq_true_eq] at hr
    have := rising_len hr.2 (by omega)
    simp only [List.length_cons]; omega
theorem rising_mem : ∀ {l : List Int} {last : Int}, rising last l = true → ∀ x ∈ l, last < x ∧ x < 16
  | [], _, _, x, hx => by cases hx
  | y :: l, last, hr, x, hx => by
    rw [show rising last (y :: l) = (decide (last < y) && decide (y < 16) && rising y l) from rfl] at hr
    simp only [Bool.and_eq_true, decide_eq_true_eq] at hr
    rcases List.mem_cons.1 hx with rfl | hx
    · exact hr.1
    · have := rising_mem hr.2 x hx; omega
theorem takes_len {h : G.api_Hist} {n : Int} : ∀ {l : List G.api_Take} {last : Int}, takes h n last l = true → last ≤ 15 → (l.length : Int) ≤ 15 - last
  | [], last, _, h => by simp; omega
  | x :: l, last, hr, h2 => by
    rw [show takes h n last (x :: l) = (decide (last < x.Key) && decide (x.Key < 16) && there h n x && takes h n x.Key l) from rfl] at hr
    simp only [Bool.and_eq_true, decide_eq_true_eq] at hr
    have := takes_len hr.2 (by omega)
    simp only [List.length_cons]; omega
theorem right_writes {h : G.api_Hist} (hr : right h = true) {t : G.api_Txn} (ht : t ∈ h.Txns) : rising (-1) t.Writes = true ∧ t.Writes.length ≤ 16 := by
  obtain ⟨n, hn⟩ := right_txn hr ht
  simp only [okT, Bool.and_eq_true] at hn
  have := rising_len hn.1.1.1 (by omega)
  exact ⟨hn.1.1.1, by omega⟩
theorem right_takes {h : G.api_Hist} (hr : right h = true) {t : G.api_Txn} (ht : t ∈ h.Txns) : ∃ n : Int, takes h n (-1) t.Reads = true ∧ t.Reads.length ≤ 16 := by
  obtain ⟨n, hn⟩ := right_txn hr ht
  simp only [okT, Bool.and_eq_true] at hn
  have := takes_len hn.1.1.2 (by omega)
  exact ⟨n, hn.1.1.2, by omega⟩

theorem pWriters {h : G.api_Hist} (hf : Fits h) (key : Int) : G.index_Writers h key = some (writers h key) := by
  unfold G.index_Writers writers
  rw [pRight hf]
  simp only [Option.bind_some]
  cases hr : right h with
  | false => rfl
  | true =>
    have hn := right_le hr
    simp only [Bool.not_true, Bool.false_eq_true, if_false, if_true]
    refine count_exit (fun k => ((List.range k).filter fun t : Nat => hasW (tx h t) key).map fun t : Nat => (t : Int)) h.Txns.length _ (fuel_gt (by omega)) (fun k hk => ?_) ?_ rfl
    · have hle : ((List.range k).filter fun t : Nat => hasW (tx h t) key).length ≤ k := by
        have := List.length_filter_le (fun t : Nat => hasW (tx h t) key) (List.range k); simpa using this
      have hw := hf.writes _ (tx_in hk)
      simp only [G.index_Writers_b1, dec_lt, hk, decide_true, if_true, idx_nat hk, Option.bind_some]
      rw [pHas (by omega), List.range_succ, List.filter_append, List.map_append]
      simp only [Option.bind_some]
      have e : (tx h (k : Int)).Writes.any (fun x => decide (key = x)) = hasW (tx h (k : Int)) key := rfl
      rw [e]
      cases hw : hasW (tx h k) key with
      | false => simp [G.index_Writers_j2, w64_succ (show k < 9223372036854775807 by omega), Sh.next, hw]
      | true =>
        simp only [if_true]
        rw [app_ok (by simp; omega)]
        simp [G.index_Writers_j2, w64_succ (show k < 9223372036854775807 by omega), Sh.next, hw]
    · simp [G.index_Writers_b1, G.index_Writers_j1, Sh.len]

def readersI (h : G.api_Hist) (key frm : Int) : List Int := if right h then (readers h key frm).map fun t : Nat => (t : Int) else []
theorem takes_filter {h : G.api_Hist} {n : Int} (key frm : Int) : ∀ {l : List G.api_Take} {last : Int}, takes h n last l = true →
    l.filter (fun r => decide (r.Key = key) && decide (r.From = frm)) = if l.any (fun r => decide (G.api_Take.mk key frm = r)) then [⟨key, frm⟩] else []
  | [], _, _ => by simp
  | x :: l, last, hr => by
    rw [show takes h n last (x :: l) = (decide (last < x.Key) && decide (x.Key < 16) && there h n x && takes h n x.Key l) from rfl] at hr
    simp only [Bool.and_eq_true, decide_eq_true_eq] at hr
    have ih := takes_filter key frm hr.2
    rw [List.filter_cons, List.any_cons]
    by_cases hx : G.api_Take.mk key frm = x
    · subst hx
      have hnone : l.filter (fun r => decide (r.Key = key) && decide (r.From = frm)) = [] := by
        rw [List.filter_eq_nil_iff]
        intro r hrm
        have := takes_gt hr.2 r hrm
        simp only [Bool.and_eq_true, decide_eq_true_eq, not_and]
        intro h1
        exact absurd h1 (by simp at this; omega)
      rw [hnone]; simp
    · have hq : (decide (x.Key = key) && decide (x.From = frm)) = false := by
        rw [Bool.and_eq_false_iff, decide_eq_false_iff_not, decide_eq_false_iff_not]
        apply Classical.byContradiction
        intro hno
        simp only [not_or, Classical.not_not] at hno
        apply hx
        rw [← hno.1, ← hno.2]
      rw [hq, ih, decide_eq_false hx]; simp
theorem pReaders_inner {h : G.api_Hist} (hf : Fits h) (key frm : Int) {t : Nat} (ht : t < h.Txns.length) (c : List Int) (hc : c.length ≤ 1000) (hl : (tx h t).Reads.length ≤ 16) :
    Sh.loop (fun (p : (List Int) × Int) => G.index_reads_1__index_Readers__r_b2 key frm t (tx h t) p.1 p.2) (c, 0) = some (.inl (c ++ ((tx h t).Reads.filter (fun r => decide (r.Key = key) && decide (r.From = frm))).map (fun _ => (t : Int)), ((t + 1 : Nat) : Int))) := by
  refine count_exit (fun i => c ++ (((tx h t).Reads.take i).filter (fun r => decide (r.Key = key) && decide (r.From = frm))).map (fun _ => (t : Int))) (tx h t).Reads.length _ (fuel_gt (by omega)) (fun i hi => ?_) ?_ (by simp)
  · have hle : (((tx h t).Reads.take i).filter (fun r => decide (r.Key = key) && decide (r.From = frm))).length ≤ i := by
      have := List.length_filter_le (fun r : G.api_Take => decide (r.Key = key) && decide (r.From = frm)) ((tx h t).Reads.take i); simp at this; omega
    simp only [G.index_reads_1__index_Readers__r_b2, dec_lt, hi, decide_true, if_true, idx_at hi, Option.bind_some, G.index_Readers__r, G.index_Readers__r_j1, w64_succ (show i < 9223372036854775807 by omega)]
    rw [List.take_add_one, List.getElem?_eq_getElem hi, Option.toList_some, List.filter_append, List.map_append, ← List.append_assoc]
    by_cases h1 : ((tx h t).Reads[i]).Key = key
    · by_cases h2 : ((tx h t).Reads[i]).From = frm
      · simp only [h1, h2, decide_true, if_true]
        rw [app_ok (by simp; omega)]
        simp [h1, h2, Sh.next]
      · simp [h1, h2, Sh.next]
    · simp [h1, Sh.next]
  · simp [G.index_reads_1__index_Readers__r_b2, G.index_reads_1__index_Readers__r_j1, w64_succ (show t < 9223372036854775807 by have := hf.txns; omega), Sh.next]
theorem pReaders {h : G.api_Hist} (hf : Fits h) (key frm : Int) : G.index_Readers h key frm = some (readersI h key frm) := by
  unfold G.index_Readers G.index_reads G.index_reads_1__index_Readers__r readersI
  simp only [Option.bind_some]
  rw [pRight hf]
  simp only [Option.bind_some]
  cases hr : right h with
  | false => rfl
  | true =>
    have hn := right_le hr
    simp only [Bool.not_true, Bool.false_eq_true, if_false, if_true]
    have e : Sh.loop (fun (p : (List Int) × Int) => G.index_reads_1__index_Readers__r_b1 key frm h p.1 p.2) ([], 0) = some ((readers h key frm).map fun t : Nat => (t : Int)) := by
      refine count_exit (fun k => ((List.range k).filter fun t : Nat => decide (fromR h t key = some frm)).map fun t : Nat => (t : Int)) h.Txns.length _ (fuel_gt (by omega)) (fun k hk => ?_) ?_ rfl
      · have hle : ((List.range k).filter fun t : Nat => decide (fromR h t key = some frm)).length ≤ k := by
          have := List.length_filter_le (fun t : Nat => decide (fromR h t key = some frm)) (List.range k); simpa using this
        obtain ⟨n, htk, hlen⟩ := right_takes hr (tx_in hk)
        simp only [G.index_reads_1__index_Readers__r_b1, dec_lt, hk, decide_true, if_true, idx_nat hk, Option.bind_some]
        rw [pReaders_inner hf key frm hk _ (by simp; omega) hlen, takes_filter key frm htk, List.range_succ, List.filter_append, List.map_append]
        congr 4
        have hiff := fromR_iff (t := (k : Int)) (key := key) (v := frm) hr (inr_nat.2 hk)
        cases hq : (tx h (k : Int)).Reads.any (fun r => decide (G.api_Take.mk key frm = r)) with
        | true => rw [hq] at hiff; simp [hiff.2 rfl]
        | false =>
          rw [hq] at hiff
          have : ¬ fromR h (k : Int) key = some frm := fun h1 => by have := hiff.1 h1; cases this
          simp [this]
      · simp only [G.index_reads_1__index_Readers__r_b1, dec_lt, Nat.lt_irrefl, decide_false, Bool.false_eq_true, if_false]; rfl
    rw [e]; rfl

def keysN (h : G.api_Hist) : List Nat := (List.range 16).filter fun k : Nat => h.Txns.any fun t => hasW t k
def keys (h : G.api_Hist) : List Int := if right h then (keysN h).map fun k : Nat => (k : Int) else []
theorem flatMap_take_len {α β : Type} (f : α → List β) (b : Nat) : ∀ (l : List α), (∀ x ∈ l, (f x).length ≤ b) → (l.flatMap f).length ≤ l.length * b
  | [], _ => by simp
  | x :: l, h => by
    have h1 := h x (List.mem_cons_self ..)
    have h2 := flatMap_take_len f b l fun y hy => h y (List.mem_cons_of_mem _ hy)
    simp only [List.flatMap_cons, List.length_append, List.length_cons, Nat.add_mul, Nat.one_mul]
    omega
theorem pKeys {h : G.api_Hist} (hf : Fits h) : G.index_Keys h = some (keys h) := by
  unfold G.index_Keys keys
  rw [pRight hf]
  simp only [Option.bind_some]
  cases hr : right h with
  | false => rfl
  | true =>
    have hn := right_le hr
    simp only [Bool.not_true, Bool.false_eq_true, if_false, if_true]
    have hwl : ∀ t ∈ h.Txns, t.Writes.length ≤ 16 := fun t ht => (right_writes hr ht).2
    refine count_exit (fun k => (h.Txns.take k).flatMap (·.Writes)) h.Txns.length _ (fuel_gt (by omega)) (fun k hk => ?_) ?_ rfl
    · have hle := flatMap_take_len (fun t : G.api_Txn => t.Writes) 16 (h.Txns.take k) fun t ht => hwl t (List.mem_of_mem_take ht)
      have hle2 := hwl _ (List.getElem_mem hk)
      have hl3 : (h.Txns.take k).length ≤ 32 := by simp; omega
      have hle3 : (h.Txns.take k).length * 16 ≤ 32 * 16 := Nat.mul_le_mul_right _ hl3
      simp only [G.index_Keys_b1, dec_lt, hk, decide_true, if_true, idx_at hk, Option.bind_some]
      rw [app_ok (by omega)]
      simp only [Option.bind_some, w64_succ (show k < 9223372036854775807 by omega), Sh.next]
      rw [List.take_add_one, List.getElem?_eq_getElem hk, Option.toList_some, List.flatMap_append]
      simp
    · simp only [G.index_Keys_b1, dec_lt, Nat.lt_irrefl, decide_false, Bool.false_eq_true, if_false, G.index_Keys_j1, List.take_length]
      have hle := flatMap_take_len (fun t : G.api_Txn => t.Writes) 16 h.Txns hwl
      have hle3 : h.Txns.length * 16 ≤ 32 * 16 := Nat.mul_le_mul_right _ hn
      rw [sort_ok (by omega)]
      simp only [Option.bind_some]
      rw [compact_ok (by simp only [List.length_mergeSort]; omega)]
      simp only [Option.bind_some]
      rw [sort_compact _ ((keysN h).map fun k : Nat => (k : Int)) ?_ ?_]
      · rw [List.pairwise_map]
        exact List.Pairwise.imp (R := fun a b : Nat => a < b) (fun {a b} hab => by omega) (List.Pairwise.filter _ List.pairwise_lt_range)
      · intro x
        simp only [List.mem_map, keysN, List.mem_filter, List.mem_range, List.any_eq_true, List.mem_flatMap]
        constructor
        · rintro ⟨k, ⟨h1, t, ht, hw⟩, rfl⟩
          refine ⟨t, ht, ?_⟩
          simp only [hasW, List.any_eq_true, decide_eq_true_eq] at hw
          obtain ⟨y, hy, rfl⟩ := hw; exact hy
        · rintro ⟨t, ht, hx⟩
          have := rising_mem (right_writes hr ht).1 x hx
          refine ⟨x.toNat, ⟨by omega, t, ht, ?_⟩, by omega⟩
          simp only [hasW, List.any_eq_true, decide_eq_true_eq]
          exact ⟨x, hx, by omega⟩

theorem writers_none {h : G.api_Hist} (hr : right h = true) {k : Nat} (hk : (h.Txns.any fun t => hasW t k) = false) : writers h (k : Int) = [] := by
  rw [List.eq_nil_iff_forall_not_mem]
  intro x hx
  obtain ⟨h1, h2⟩ := (mem_writers hr).1 hx
  rw [List.any_eq_false] at hk
  exact hk _ (tx_mem h1) h2
theorem flatMap_filter_nil {α : Type} (f : Nat → List α) (p : Nat → Bool) (l : List Nat) (h : ∀ k ∈ l, p k = false → f k = []) : (l.filter p).flatMap f = l.flatMap f := by
  induction l with
  | nil => rfl
  | cons x l ih =>
    rw [List.filter_cons]
    have h2 := ih fun k hk => h k (List.mem_cons_of_mem _ hk)
    cases hp : p x with
    | true => simp [h2]
    | false => simp [h2, h x (List.mem_cons_self ..) hp]
theorem pairs_keys {h : G.api_Hist} (hr : right h = true) : (keysN h).flatMap (fun k : Nat => pairsK k (writers h k)) = pairs h := by
  unfold keysN pairs
  refine flatMap_filter_nil _ _ _ fun k _ hk => ?_
  rw [writers_none hr hk]; rfl
theorem pPairs_inner (k : Int) (ws : List Int) (hw : ws.length ≤ 64) {i : Nat} (hi : i < ws.length) (acc : List G.api_Choice) (hacc : acc.length ≤ 100000) :
    Sh.loop (fun (p : (List G.api_Choice) × Int) => G.index_Pairs_b3 k i ws[i] (ws.drop (i + 1)) p.1 p.2) (acc, 0) = some (.inl (acc ++ pairsI k ws i, ((i + 1 : Nat) : Int))) := by
  have hg : ws.getD i 0 = ws[i] := by simp [List.getD, hi]
  refine count_exit (fun j => acc ++ ((ws.drop (i + 1)).take j).map fun w => (⟨k, ws[i], w⟩ : G.api_Choice)) (ws.drop (i + 1)).length _ (fuel_gt (by simp; omega)) (fun j hj => ?_) ?_ (by simp)
  · have hj2 : j < ws.length := by simp at hj; omega
    simp only [G.index_Pairs_b3, dec_lt, hj, decide_true, if_true, idx_at hj, Option.bind_some]
    rw [app_ok (by simp; omega)]
    simp only [Option.bind_some, w64_succ (show j < 9223372036854775807 by omega), Sh.next]
    rw [List.take_add_one, List.getElem?_eq_getElem hj, Option.toList_some, List.map_append]
    simp
  · simp only [G.index_Pairs_b3, dec_lt, Nat.lt_irrefl, decide_false, Bool.false_eq_true, if_false, G.index_Pairs_j3, w64_succ (show i < 9223372036854775807 by omega), Sh.next, List.take_length]
    unfold pairsI
    rw [hg]
theorem pPairs_mid (k : Int) (ws : List Int) (hw : ws.length ≤ 64) (v : Nat) (hv : v < 64) (acc : List G.api_Choice) (hacc : acc.length ≤ 80000) :
    Sh.loop (fun (p : (List G.api_Choice) × Int) => G.index_Pairs_b2 v k ws p.1 p.2) (acc, 0) = some (.inl (acc ++ pairsK k ws, ((v + 1 : Nat) : Int))) := by
  refine count_exit (fun i => acc ++ (List.range i).flatMap (pairsI k ws)) ws.length _ (fuel_gt (by omega)) (fun i hi => ?_) ?_ (by simp)
  · have hl := flat_len (pairsI k ws) ws.length (pairsI_len k ws) i
    have hl2 : i * ws.length ≤ 64 * 64 := Nat.mul_le_mul (by omega) hw
    simp only [G.index_Pairs_b2, dec_lt, hi, decide_true, if_true, idx_at hi, Option.bind_some, w64_succ (show i < 9223372036854775807 by omega)]
    rw [show (Sh.len ws) = ((ws.length : Nat) : Int) from rfl, sub_ok (by omega) (Nat.le_refl _)]
    simp only [Option.bind_some]
    have e : (ws.drop (i + 1)).take (ws.length - (i + 1)) = ws.drop (i + 1) := List.take_of_length_le (by simp)
    rw [e, pPairs_inner k ws hw hi _ (by simp only [List.length_append]; omega), flat_succ, List.append_assoc]
  · simp only [G.index_Pairs_b2, dec_lt, Nat.lt_irrefl, decide_false, Bool.false_eq_true, if_false, G.index_Pairs_j2, w64_succ (show v < 9223372036854775807 by omega), Sh.next]
    rfl
theorem pairs_len {h : G.api_Hist} : (pairs h).length ≤ 16 * (h.Txns.length * h.Txns.length) :=
  flat_len _ _ (fun _ => Nat.le_trans (pairsK_len _ _) (Nat.mul_le_mul writers_len writers_len)) 16
theorem pairs_no {h : G.api_Hist} (hr : right h = false) : pairs h = [] := by
  unfold pairs
  rw [List.flatMap_eq_nil_iff]
  intro k _
  have : writers h (k : Int) = [] := by unfold writers; rw [if_neg (by rw [hr]; simp)]
  rw [this]; rfl
theorem pPairs {h : G.api_Hist} (hf : Fits h) : G.index_Pairs h = some (pairs h) := by
  unfold G.index_Pairs
  rw [pKeys hf]
  simp only [Option.bind_some]
  cases hr : right h with
  | false =>
    have e : keys h = [] := by unfold keys; rw [if_neg (by rw [hr]; simp)]
    rw [e, pairs_no hr]
    refine count_exit (fun _ => []) 0 _ (by decide) (fun k hk => by omega) ?_ rfl
    simp [G.index_Pairs_b1, G.index_Pairs_j1]
  | true =>
    have hn := right_le hr
    have e : keys h = (keysN h).map fun k : Nat => (k : Int) := by unfold keys; rw [if_pos hr]
    have hkl : (keysN h).length ≤ 16 := by
      have := List.length_filter_le (fun k : Nat => h.Txns.any fun t => hasW t k) (List.range 16); simpa [keysN] using this
    rw [e]
    refine count_exit (fun i => ((keysN h).take i).flatMap fun k : Nat => pairsK k (writers h k)) (keysN h).length _ (fuel_gt (by omega)) (fun i hi => ?_) ?_ rfl
    · have hi2 : i < ((keysN h).map fun k : Nat => (k : Int)).length := by simpa using hi
      have hwl : ∀ k : Nat, (pairsK (k : Int) (writers h k)).length ≤ 1024 := fun _ => Nat.le_trans (pairsK_len _ _) (Nat.mul_le_mul (Nat.le_trans writers_len hn) (Nat.le_trans writers_len hn))
      have hacc := flatMap_take_len (fun k : Nat => pairsK k (writers h k)) 1024 ((keysN h).take i) fun k _ => hwl k
      have h3 : ((keysN h).take i).length ≤ 16 := by simp; omega
      have h4 : ((keysN h).take i).length * 1024 ≤ 16 * 1024 := Nat.mul_le_mul_right _ h3
      simp only [G.index_Pairs_b1, Sh.len, List.length_map, dec_lt, hi, decide_true, if_true, idx_at hi2, Option.bind_some, List.getElem_map, pWriters hf]
      rw [pPairs_mid _ _ (Nat.le_trans writers_len (by omega)) i (by omega) _ (by omega), List.take_add_one, List.getElem?_eq_getElem hi, Option.toList_some, List.flatMap_append]
      simp
    · simp only [G.index_Pairs_b1, Sh.len, List.length_map, dec_lt, Nat.lt_irrefl, decide_false, Bool.false_eq_true, if_false, G.index_Pairs_j1, List.take_length, pairs_keys hr]
end Pl
end

section
/- What is known of a history's order, and what follows from choices: the graphs that the program makes. -/
namespace Pl
open Go Go.Av

theorem gr_ext {n : Nat} (hn : n ≤ 64) {f g : Nat → Nat → Bool} (h : ∀ x y, x < n → y < n → f x y = g x y) : gr n f = gr n g := by
  have := (rows_ext hn (f := f) (h := g)).2 h
  unfold gr
  rw [this]
def addL (f : Nat → Nat → Bool) (l : List (Nat × Nat)) : Nat → Nat → Bool := fun x y => f x y || l.any fun e => decide (e.1 ≠ e.2) && decide (e.1 = x) && decide (e.2 = y)
theorem addL_nil (f : Nat → Nat → Bool) : addL f [] = f := by funext x y; simp [addL]
theorem addL_snoc {n : Nat} (hn : n ≤ 64) (f : Nat → Nat → Bool) (l : List (Nat × Nat)) {a b : Nat} (hab : a ≠ b) : gr n (addF (addL f l) a b) = gr n (addL f (l ++ [(a, b)])) := by
  refine gr_ext hn fun x y _ _ => ?_
  unfold addF addL
  rw [List.any_append, List.any_cons, List.any_nil, Bool.or_false, Bool.or_assoc]
  congr 2
  rw [Bool.eq_iff_iff]
  simp only [decide_eq_true_eq, Bool.and_eq_true]
  constructor
  · rintro ⟨rfl, rfl⟩; exact ⟨⟨hab, rfl⟩, rfl⟩
  · rintro ⟨⟨_, h1⟩, h2⟩; exact ⟨h1.symm, h2.symm⟩
theorem addL_same {n : Nat} (hn : n ≤ 64) (f : Nat → Nat → Bool) (l : List (Nat × Nat)) (a : Nat) : gr n (addL f l) = gr n (addL f (l ++ [(a, a)])) := by
  refine gr_ext hn fun x y _ _ => ?_
  unfold addL
  rw [List.any_append]; simp
theorem pLaid {n : Nat} (hn : n ≤ 64) (f : Nat → Nat → Bool) (l : List (Nat × Nat)) {a b : Nat} (ha : a < n) (hb : b < n) : G.known_laid_1__2 a b (gr n (addL f l)) = some (gr n (addL f (l ++ [(a, b)]))) := by
  unfold G.known_laid_1__2 G.known_laid_1__2_j1
  have h0 : (0 : Int) ≤ (a : Int) := by omega
  simp only [h0, decide_true, if_true]
  by_cases hab : a = b
  · subst hab
    simp only [ne_eq, not_true_eq_false, decide_false, Bool.false_eq_true, if_false]
    rw [← addL_same hn]
  · have h1 : ((a : Int) ≠ (b : Int)) := by omega
    simp only [h1, ne_eq, not_false_eq_true, decide_true, if_true, graph_Add hn _ ha hb, Option.bind_some]
    rw [addL_snoc hn f l hab]
theorem pLaid_neg {a b : Int} (g : G.graph_Graph) (h : a < 0) : G.known_laid_1__2 a b g = some g := by
  unfold G.known_laid_1__2 G.known_laid_1__2_j1
  have h0 : ¬ (0 : Int) ≤ a := by omega
  simp [h0]
def no0 : Nat → Nat → Bool := fun _ _ => false
theorem gr_zero (n : Nat) : (⟨(n : Int), List.replicate n 0#64⟩ : G.graph_Graph) = gr n (addL no0 []) := by
  rw [addL_nil, zero_rows]; rfl
def g0 : G.graph_Graph := ⟨0, []⟩

def soL (h : G.api_Hist) (t : Nat) : List (Nat × Nat) := ((List.range t).filter fun j : Nat => decide ((tx h j).Session = (tx h t).Session)).map fun j => (j, t)
theorem take_idx {h : G.api_Hist} {t j : Nat} (ht : t < h.Txns.length) (hj : j < t) : Sh.idx (h.Txns.take t) (j : Int) = some (tx h j) := by
  have h1 : j < (h.Txns.take t).length := by simp; omega
  rw [idx_at h1]
  have h2 := idx_nat (h := h) (x := j) (by omega)
  rw [idx_at (show j < h.Txns.length by omega)] at h2
  rw [← h2]; simp
theorem pSo_loop {h : G.api_Hist} (hn : h.Txns.length ≤ 32) : G.known_So_1__known_laid_1_2 h (gr h.Txns.length (addL no0 [])) = some (gr h.Txns.length (addL no0 ((List.range h.Txns.length).flatMap (soL h)))) := by
  unfold G.known_So_1__known_laid_1_2
  refine count_exit (fun k => gr h.Txns.length (addL no0 ((List.range k).flatMap (soL h)))) h.Txns.length _ (fuel_gt (by omega)) (fun t ht => ?_) ?_ rfl
  · simp only [G.known_So_1__known_laid_1_2_b1, dec_lt, ht, decide_true, if_true, idx_nat ht, Option.bind_some]
    rw [show Sh.sub h.Txns 0 (t : Int) = some (h.Txns.take t) by have := sub_ok (l := h.Txns) (m := 0) (k := t) (by omega) (by omega); simpa using this]
    simp only [Option.bind_some]
    refine count_exit (fun i => gr h.Txns.length (addL no0 ((List.range t).flatMap (soL h) ++ (((List.range i).filter fun j : Nat => decide ((tx h j).Session = (tx h t).Session)).map fun j => (j, t))))) t _ (fuel_gt (by omega)) (fun j hj => ?_) ?_ (by simp)
    · have hl : (Sh.len (h.Txns.take t)) = ((t : Nat) : Int) := by simp [Sh.len]; omega
      simp only [G.known_So_1__known_laid_1_2_b2, hl, dec_lt, hj, decide_true, if_true, take_idx ht hj, Option.bind_some, G.known_So_1__known_laid_1_2_j2, w64_succ (show j < 9223372036854775807 by omega), Sh.next]
      rw [List.range_succ, List.filter_append, List.map_append, ← List.append_assoc]
      by_cases hs : (tx h j).Session = (tx h t).Session
      · simp only [hs, decide_true, if_true, pLaid (show h.Txns.length ≤ 64 by omega) _ _ (show j < h.Txns.length by omega) ht, Option.bind_some]
        simp [hs]
      · simp [hs]
    · have hl : (Sh.len (h.Txns.take t)) = ((t : Nat) : Int) := by simp [Sh.len]; omega
      simp only [G.known_So_1__known_laid_1_2_b2, hl, dec_lt, Nat.lt_irrefl, decide_false, Bool.false_eq_true, if_false, G.known_So_1__known_laid_1_2_j1, w64_succ (show t < 9223372036854775807 by omega), Sh.next, flat_succ]
      rfl
  · simp only [G.known_So_1__known_laid_1_2_b1, dec_lt, Nat.lt_irrefl, decide_false, Bool.false_eq_true, if_false]
theorem so_eq {h : G.api_Hist} (hn : h.Txns.length ≤ 64) : gr h.Txns.length (addL no0 ((List.range h.Txns.length).flatMap (soL h))) = gr h.Txns.length (soF h) := by
  refine gr_ext hn fun x y hx hy => ?_
  unfold addL soF soL no0
  rw [Bool.false_or, Bool.eq_iff_iff]
  simp only [List.any_eq_true, List.mem_flatMap, List.mem_range, List.mem_map, List.mem_filter, decide_eq_true_eq, Bool.and_eq_true]
  constructor
  · rintro ⟨e, ⟨t, ht, j, ⟨hj, hs⟩, rfl⟩, ⟨h1, h2⟩, h3⟩
    simp only at h1 h2 h3
    subst h2 h3
    exact ⟨hj, hs⟩
  · rintro ⟨h1, h2⟩
    exact ⟨(x, y), ⟨y, hy, x, ⟨h1, h2⟩, rfl⟩, ⟨by simp; omega, rfl⟩, rfl⟩
def soG (h : G.api_Hist) : G.graph_Graph := if right h then gr h.Txns.length (soF h) else g0
theorem pSo {h : G.api_Hist} (hf : Fits h) : G.known_So h = some (soG h) := by
  unfold G.known_So G.known_laid__known_So_1 soG
  rw [pRight hf]
  simp only [Option.bind_some]
  cases hr : right h with
  | false => rfl
  | true =>
    have hn := right_le hr
    simp only [Bool.not_true, Bool.false_eq_true, if_false, if_true]
    rw [show (Sh.len h.Txns) = ((h.Txns.length : Nat) : Int) from rfl, graph_New _ (by omega)]
    simp only [Option.bind_some]
    rw [gr_zero, pSo_loop hn]
    simp only [Option.bind_some]
    rw [so_eq (by omega)]

theorem right_okT {h : G.api_Hist} (hr : right h = true) {t : Nat} (ht : t < h.Txns.length) : okT h (t : Int) (tx h t) = true := by
  simp only [right, Bool.and_eq_true] at hr
  have h2 := hr.2
  rw [okAll_iff, decide_eq_true_eq] at h2
  have := h2 t ht
  have e : tx h (t : Int) = h.Txns[t] := by simp [tx, ht]
  rw [e]
  simpa using this
theorem from_self {h : G.api_Hist} (hr : right h = true) {t : Nat} (ht : t < h.Txns.length) {r : G.api_Take} (hm : r ∈ (tx h t).Reads) : r.From ≠ (t : Int) := by
  have h1 := right_okT hr ht
  simp only [okT, Bool.and_eq_true] at h1
  have h2 := takes_there h1.1.1.2 r hm
  simp only [there, Bool.or_eq_true, Bool.and_eq_true, decide_eq_true_eq] at h2
  rcases h2 with h2 | h2
  · omega
  · exact h2.1.2
def wrL (h : G.api_Hist) (t : Nat) : List (Nat × Nat) := ((tx h t).Reads.filter fun r => decide (0 ≤ r.From)).map fun r => (r.From.toNat, t)
theorem pKWr_loop {h : G.api_Hist} (hr : right h = true) : G.known_Wr_1__known_laid_1_2 h (gr h.Txns.length (addL no0 [])) = some (gr h.Txns.length (addL no0 ((List.range h.Txns.length).flatMap (wrL h)))) := by
  have hn := right_le hr
  unfold G.known_Wr_1__known_laid_1_2
  refine count_exit (fun k => gr h.Txns.length (addL no0 ((List.range k).flatMap (wrL h)))) h.Txns.length _ (fuel_gt (by omega)) (fun t ht => ?_) ?_ rfl
  · simp only [G.known_Wr_1__known_laid_1_2_b1, dec_lt, ht, decide_true, if_true, idx_nat ht, Option.bind_some]
    obtain ⟨_, _, hlen⟩ := right_takes hr (tx_in ht)
    refine count_exit (fun i => gr h.Txns.length (addL no0 ((List.range t).flatMap (wrL h) ++ ((((tx h t).Reads.take i).filter fun r => decide (0 ≤ r.From)).map fun r => (r.From.toNat, t))))) (tx h t).Reads.length _ (fuel_gt (by omega)) (fun i hi => ?_) ?_ (by simp)
    · simp only [G.known_Wr_1__known_laid_1_2_b2, dec_lt, hi, decide_true, if_true, idx_at hi, Option.bind_some, w64_succ (show i < 9223372036854775807 by omega), Sh.next]
      rw [List.take_add_one, List.getElem?_eq_getElem hi, Option.toList_some, List.filter_append, List.map_append, ← List.append_assoc]
      by_cases h0 : ((tx h t).Reads[i]).From < 0
      · have h1 : ¬ 0 ≤ ((tx h t).Reads[i]).From := by omega
        rw [pLaid_neg _ h0]
        simp [h1]
      · have h1 : 0 ≤ ((tx h t).Reads[i]).From := by omega
        obtain ⟨x, hx, hxn⟩ := from_in hr ht (List.getElem_mem hi) h0
        rw [hx, pLaid (show h.Txns.length ≤ 64 by omega) _ _ hxn ht]
        simp [hx]
    · simp only [G.known_Wr_1__known_laid_1_2_b2, dec_lt, Nat.lt_irrefl, decide_false, Bool.false_eq_true, if_false, G.known_Wr_1__known_laid_1_2_j1, w64_succ (show t < 9223372036854775807 by omega), Sh.next, flat_succ, List.take_length]
      rfl
  · simp only [G.known_Wr_1__known_laid_1_2_b1, dec_lt, Nat.lt_irrefl, decide_false, Bool.false_eq_true, if_false]
theorem wr_eq {h : G.api_Hist} (hr : right h = true) : gr h.Txns.length (addL no0 ((List.range h.Txns.length).flatMap (wrL h))) = gr h.Txns.length (wrF h) := by
  have hn := right_le hr
  refine gr_ext (by omega) fun x y hx hy => ?_
  unfold addL wrF wrL no0
  rw [Bool.false_or, Bool.eq_iff_iff]
  simp only [List.any_eq_true, List.mem_flatMap, List.mem_range, List.mem_map, List.mem_filter, decide_eq_true_eq, Bool.and_eq_true]
  constructor
  · rintro ⟨e, ⟨t, ht, r, ⟨hm, hp⟩, rfl⟩, ⟨h1, h2⟩, h3⟩
    simp only at h1 h2 h3
    subst h2 h3
    exact ⟨r, hm, by omega⟩
  · rintro ⟨r, hm, h1⟩
    have := from_self hr hy hm
    exact ⟨(x, y), ⟨y, hy, r, ⟨hm, by omega⟩, by rw [h1]; simp⟩, ⟨by simp; omega, rfl⟩, rfl⟩
def wrG (h : G.api_Hist) : G.graph_Graph := if right h then gr h.Txns.length (wrF h) else g0
theorem pKWr {h : G.api_Hist} (hf : Fits h) : G.known_Wr h = some (wrG h) := by
  unfold G.known_Wr G.known_laid__known_Wr_1 wrG
  rw [pRight hf]
  simp only [Option.bind_some]
  cases hr : right h with
  | false => rfl
  | true =>
    have hn := right_le hr
    simp only [Bool.not_true, Bool.false_eq_true, if_false, if_true]
    rw [show (Sh.len h.Txns) = ((h.Txns.length : Nat) : Int) from rfl, graph_New _ (by omega)]
    simp only [Option.bind_some]
    rw [gr_zero, pKWr_loop hr]
    simp only [Option.bind_some]
    rw [wr_eq hr]
def pastG (h : G.api_Hist) : G.graph_Graph := if right h then gr h.Txns.length (orF (soF h) (wrF h)) else g0
theorem union_g0 : G.graph_Union g0 g0 = some (g0, 0) := by
  have := graph_Union (n := 0) (by omega) no0 no0
  exact this
theorem pPast {h : G.api_Hist} (hf : Fits h) : G.known_Past h = some (pastG h) := by
  unfold G.known_Past
  rw [pSo hf, pKWr hf]
  simp only [Option.bind_some]
  unfold soG wrG pastG
  cases hr : right h with
  | false => simp only [Bool.false_eq_true, if_false]; rw [union_g0]; rfl
  | true =>
    have hn := right_le hr
    simp only [if_true]
    rw [graph_Union (by omega)]; rfl

def wN (h : G.api_Hist) (key : Int) : List Nat := (List.range h.Txns.length).filter fun t : Nat => hasW (tx h t) key
theorem writers_wN {h : G.api_Hist} (hr : right h = true) (key : Int) : writers h key = (wN h key).map fun t : Nat => (t : Int) := by
  unfold writers wN; rw [if_pos hr]
theorem wN_lt {h : G.api_Hist} {key : Int} {t : Nat} (ht : t ∈ wN h key) : t < h.Txns.length ∧ hasW (tx h t) key = true := by
  unfold wN at ht; simpa using ht
theorem wN_len {h : G.api_Hist} {key : Int} : (wN h key).length ≤ h.Txns.length := by
  have := List.length_filter_le (fun t : Nat => hasW (tx h t) key) (List.range h.Txns.length); simpa [wN] using this
def iniL (h : G.api_Hist) (k : Nat) : List (Nat × Nat) := (readers h k (-1)).flatMap fun a => (wN h k).map fun b => (a, b)
theorem map_idx {l : List Nat} {i : Nat} (h : i < l.length) : Sh.idx (l.map fun t : Nat => (t : Int)) (i : Int) = some ((l[i] : Nat) : Int) := by
  rw [idx_at (by simpa using h)]; simp
theorem map_len (l : List Nat) : Sh.len (l.map fun t : Nat => (t : Int)) = ((l.length : Nat) : Int) := by simp [Sh.len]
theorem pInit_in {h : G.api_Hist} (hr : right h = true) (v a : Nat) (ha : a < h.Txns.length) (hv : v < 1000) (key : Int) (l : List (Nat × Nat)) :
    Sh.loop (fun (p : G.graph_Graph × Int) => G.known_Init_1__known_laid_1_2_b3 v a (writers h key) p.1 p.2) (gr h.Txns.length (addL no0 l), 0) = some (.inl (gr h.Txns.length (addL no0 (l ++ (wN h key).map fun b => (a, b))), ((v + 1 : Nat) : Int))) := by
  have hn := right_le hr
  have hw := wN_len (h := h) (key := key)
  rw [writers_wN hr]
  refine count_exit (fun i => gr h.Txns.length (addL no0 (l ++ ((wN h key).take i).map fun b => (a, b)))) (wN h key).length _ (fuel_gt (by omega)) (fun i hi => ?_) ?_ (by simp)
  · have hb := (wN_lt (List.getElem_mem hi)).1
    simp only [G.known_Init_1__known_laid_1_2_b3, map_len, dec_lt, hi, decide_true, if_true, map_idx hi, Option.bind_some, pLaid (show h.Txns.length ≤ 64 by omega) _ _ ha hb, w64_succ (show i < 9223372036854775807 by omega), Sh.next]
    rw [List.take_add_one, List.getElem?_eq_getElem hi, Option.toList_some, List.map_append, List.append_assoc]
    rfl
  · simp only [G.known_Init_1__known_laid_1_2_b3, map_len, dec_lt, Nat.lt_irrefl, decide_false, Bool.false_eq_true, if_false, G.known_Init_1__known_laid_1_2_j2, w64_succ (show v < 9223372036854775807 by omega), Sh.next, List.take_length]
theorem pInit_mid {h : G.api_Hist} (hf : Fits h) (hr : right h = true) (v k : Nat) (hv : v < 1000) (l : List (Nat × Nat)) :
    Sh.loop (fun (p : G.graph_Graph × Int) => G.known_Init_1__known_laid_1_2_b2 h v k ((readers h k (-1)).map fun t : Nat => (t : Int)) p.1 p.2) (gr h.Txns.length (addL no0 l), 0) = some (.inl (gr h.Txns.length (addL no0 (l ++ iniL h k)), ((v + 1 : Nat) : Int))) := by
  have hn := right_le hr
  have hrl := readers_len (h := h) (key := (k : Int)) (frm := -1)
  refine count_exit (fun i => gr h.Txns.length (addL no0 (l ++ ((readers h k (-1)).take i).flatMap fun a => (wN h k).map fun b => (a, b)))) (readers h k (-1)).length _ (fuel_gt (by omega)) (fun i hi => ?_) ?_ (by simp)
  · have ha := (readers_lt (List.getElem_mem hi)).1
    simp only [G.known_Init_1__known_laid_1_2_b2, map_len, dec_lt, hi, decide_true, if_true, map_idx hi, Option.bind_some, pWriters hf]
    rw [pInit_in hr i _ ha (by omega), List.take_add_one, List.getElem?_eq_getElem hi, Option.toList_some, List.flatMap_append, List.append_assoc]
    simp
  · simp only [G.known_Init_1__known_laid_1_2_b2, map_len, dec_lt, Nat.lt_irrefl, decide_false, Bool.false_eq_true, if_false, G.known_Init_1__known_laid_1_2_j1, w64_succ (show v < 9223372036854775807 by omega), Sh.next, List.take_length]
    rfl
theorem keysN_len (h : G.api_Hist) : (keysN h).length ≤ 16 := by
  have := List.length_filter_le (fun k : Nat => h.Txns.any fun t => hasW t k) (List.range 16); simpa [keysN] using this
theorem pInit_loop {h : G.api_Hist} (hf : Fits h) (hr : right h = true) : G.known_Init_1__known_laid_1_2 h (gr h.Txns.length (addL no0 [])) = some (gr h.Txns.length (addL no0 ((keysN h).flatMap (iniL h)))) := by
  have hn := right_le hr
  have hk := keysN_len h
  unfold G.known_Init_1__known_laid_1_2
  rw [pKeys hf]
  simp only [Option.bind_some]
  rw [show keys h = (keysN h).map (fun k : Nat => (k : Int)) by unfold keys; rw [if_pos hr]]
  refine count_exit (fun i => gr h.Txns.length (addL no0 (((keysN h).take i).flatMap (iniL h)))) (keysN h).length _ (fuel_gt (by omega)) (fun i hi => ?_) ?_ (by simp)
  · simp only [G.known_Init_1__known_laid_1_2_b1, map_len, dec_lt, hi, decide_true, if_true, map_idx hi, Option.bind_some, pReaders hf]
    rw [show readersI h ((keysN h)[i] : Nat) (-1) = (readers h ((keysN h)[i] : Nat) (-1)).map (fun t : Nat => (t : Int)) by unfold readersI; rw [if_pos hr]]
    rw [pInit_mid hf hr i _ (by omega), List.take_add_one, List.getElem?_eq_getElem hi, Option.toList_some, List.flatMap_append]
    simp
  · simp only [G.known_Init_1__known_laid_1_2_b1, map_len, dec_lt, Nat.lt_irrefl, decide_false, Bool.false_eq_true, if_false, List.take_length]
theorem mem_keysN {h : G.api_Hist} (hr : right h = true) {y : Nat} (hy : y < h.Txns.length) {k : Int} (hw : hasW (tx h y) k = true) : 0 ≤ k ∧ k.toNat ∈ keysN h := by
  obtain ⟨h0, h1⟩ := hasW_lt hr (tx_in hy) hw
  refine ⟨h0, ?_⟩
  unfold keysN
  simp only [List.mem_filter, List.mem_range, List.any_eq_true]
  exact ⟨by omega, _, tx_in hy, by rw [show ((k.toNat : Nat) : Int) = k by omega]; exact hw⟩
theorem ini_eq {h : G.api_Hist} (hr : right h = true) : gr h.Txns.length (addL no0 ((keysN h).flatMap (iniL h))) = gr h.Txns.length (iniF h) := by
  have hn := right_le hr
  refine gr_ext (by omega) fun x y hx hy => ?_
  unfold addL iniF iniL no0 iniC
  rw [Bool.false_or, Bool.eq_iff_iff]
  simp only [List.any_eq_true, List.mem_flatMap, List.mem_map, decide_eq_true_eq, Bool.and_eq_true]
  constructor
  · rintro ⟨e, ⟨k, hk, a, ha, b, hb, rfl⟩, ⟨h1, h2⟩, h3⟩
    simp only at h1 h2 h3
    subst h2 h3
    obtain ⟨_, hfr⟩ := readers_lt ha
    have := (fromR_iff hr (inr_nat.2 hx)).1 hfr
    simp only [List.any_eq_true, decide_eq_true_eq] at this
    obtain ⟨r, hm, rfl⟩ := this
    exact ⟨fun he => h1 he.symm, _, hm, rfl, (wN_lt hb).2⟩
  · rintro ⟨hne, r, hm, hf1, hw⟩
    obtain ⟨h0, hk⟩ := mem_keysN hr hy hw
    have e : ((r.Key.toNat : Nat) : Int) = r.Key := by omega
    refine ⟨(x, y), ⟨r.Key.toNat, hk, x, ?_, y, ?_, rfl⟩, ⟨fun he => hne he.symm, rfl⟩, rfl⟩
    · unfold readers
      simp only [List.mem_filter, List.mem_range, decide_eq_true_eq]
      refine ⟨hx, (fromR_iff hr (inr_nat.2 hx)).2 ?_⟩
      simp only [List.any_eq_true, decide_eq_true_eq]
      exact ⟨r, hm, by rw [e, ← hf1]⟩
    · unfold wN
      simp only [List.mem_filter, List.mem_range]
      exact ⟨hy, by rw [e]; exact hw⟩
def iniG (h : G.api_Hist) : G.graph_Graph := if right h then gr h.Txns.length (iniF h) else g0
theorem pInit {h : G.api_Hist} (hf : Fits h) : G.known_Init h = some (iniG h) := by
  unfold G.known_Init G.known_laid__known_Init_1 iniG
  rw [pRight hf]
  simp only [Option.bind_some]
  cases hr : right h with
  | false => rfl
  | true =>
    have hn := right_le hr
    simp only [Bool.not_true, Bool.false_eq_true, if_false, if_true]
    rw [show (Sh.len h.Txns) = ((h.Txns.length : Nat) : Int) from rfl, graph_New _ (by omega)]
    simp only [Option.bind_some]
    rw [gr_zero, pInit_loop hf hr]
    simp only [Option.bind_some]
    rw [ini_eq hr]
end Pl
end

section
/- What follows from choices: the graphs that the program makes. -/
namespace Pl
open Go Go.Av

def cr (h : G.api_Hist) (l : List G.api_Choice) : Bool := right h && l.all (one h)
theorem cr_iff {h : G.api_Hist} {l : List G.api_Choice} : cr h l = true ↔ right h = true ∧ ∀ c ∈ l, one h c = true := by simp [cr]
theorem wwF_nil : wwF [] = no0 := by funext x y; simp [wwF, no0]
def wwG (h : G.api_Hist) (l : List G.api_Choice) : G.graph_Graph := if cr h l then gr h.Txns.length (wwF l) else g0
theorem pWw {h : G.api_Hist} (hf : Fits h) {l : List G.api_Choice} (hl : l.length ≤ 20000) : G.choice_Ww h l = some (wwG h l) := by
  unfold G.choice_Ww wwG
  rw [pChoice hf hl]
  simp only [Option.bind_some]
  cases hc : (right h && l.all (one h)) with
  | false => rw [show cr h l = false from hc]; rfl
  | true =>
    rw [show cr h l = true from hc]
    obtain ⟨hr, hone⟩ := cr_iff.1 hc
    have hn := right_le hr
    have hn64 : h.Txns.length ≤ 64 := by omega
    simp only [Bool.not_true, Bool.false_eq_true, if_false, if_true]
    rw [show (Sh.len h.Txns) = ((h.Txns.length : Nat) : Int) from rfl, graph_New _ hn64]
    simp only [Option.bind_some]
    refine run_exit (fun i => ((h.Txns.length : Int), rows h.Txns.length (wwF (l.take i)), (i : Int))) l.length _ (fuel_gt (by omega)) (fun i hi => ?_) ?_ ?_
    · obtain ⟨a, b, ea, eb, ha, hb, _⟩ := one_nat (hone _ (List.getElem_mem hi))
      simp only [G.choice_Ww_b1, dec_lt, hi, decide_true, if_true, idx_at hi, Option.bind_some, ea, eb]
      rw [show G.graph_Graph.mk (h.Txns.length : Int) (rows h.Txns.length (wwF (l.take i))) = gr h.Txns.length (wwF (l.take i)) from rfl, graph_Add hn64 _ ha hb]
      simp only [Option.bind_some, w64_succ (show i < 9223372036854775807 by omega), Sh.next]
      have e : rows h.Txns.length (addF (wwF (l.take i)) a b) = rows h.Txns.length (wwF (l.take (i + 1))) := by
        rw [rows_ext hn64]
        intro x y _ _
        unfold addF wwF
        rw [take_any hi, ea, eb]
        congr 1
        rw [Bool.eq_iff_iff]
        simp only [decide_eq_true_eq, Bool.and_eq_true]
        constructor
        · rintro ⟨rfl, rfl⟩; exact ⟨rfl, rfl⟩
        · rintro ⟨h1, h2⟩; exact ⟨by omega, by omega⟩
      simp only [e]
    · simp only [G.choice_Ww_b1, dec_lt, Nat.lt_irrefl, decide_false, Bool.false_eq_true, if_false, G.choice_Ww_j1, List.take_length]
    · rw [List.take_zero, wwF_nil, zero_rows]; rfl

def rwG (h : G.api_Hist) (l : List G.api_Choice) : G.graph_Graph := if cr h l then gr h.Txns.length (rwF h l) else g0
theorem pRw {h : G.api_Hist} (hf : Fits h) {l : List G.api_Choice} (hl : l.length ≤ 20000) : G.choice_Rw h l = some (rwG h l) := by
  unfold G.choice_Rw rwG
  rw [pChoice hf hl]
  simp only [Option.bind_some]
  cases hc : (right h && l.all (one h)) with
  | false => rw [show cr h l = false from hc]; rfl
  | true =>
    rw [show cr h l = true from hc]
    obtain ⟨hr, hone⟩ := cr_iff.1 hc
    have hn := right_le hr
    have hn64 : h.Txns.length ≤ 64 := by omega
    simp only [Bool.not_true, Bool.false_eq_true, if_false, if_true]
    rw [pInit hf]
    simp only [Option.bind_some]
    rw [show iniG h = gr h.Txns.length (iniF h) by unfold iniG; rw [if_pos hr]]
    refine count_exit (fun i => gr h.Txns.length (rwF h (l.take i))) l.length _ (fuel_gt (by omega)) (fun i hi => ?_) ?_ (by congr 2; funext x y; simp [rwF])
    · obtain ⟨a, b, ea, eb, ha, hb, _⟩ := one_nat (hone _ (List.getElem_mem hi))
      simp only [G.choice_Rw_b1, dec_lt, hi, decide_true, if_true, idx_at hi, Option.bind_some]
      refine count_exit (fun t => gr h.Txns.length (orF (rwF h (l.take i)) fun x y => decide (x < t) && rwC h l[i] x y)) h.Txns.length _ (fuel_gt (by omega)) (fun t ht => ?_) ?_ ?_
      · obtain ⟨_, _, hlen⟩ := right_takes hr (tx_in ht)
        have step : ∀ q : Bool, q = rwC h l[i] t b → G.choice_Rw_j4 l[i] (gr h.Txns.length (orF (rwF h (l.take i)) fun x y => decide (x < t) && rwC h l[i] x y)) t q = some (.inl (gr h.Txns.length (orF (rwF h (l.take i)) fun x y => decide (x < t + 1) && rwC h l[i] x y), ((t + 1 : Nat) : Int))) := by
          intro q hq
          unfold G.choice_Rw_j4 G.choice_Rw_j3
          rw [eb]
          have key : ∀ x y, x < h.Txns.length → y < h.Txns.length → ((orF (rwF h (l.take i)) fun x y => decide (x < t + 1) && rwC h l[i] x y) x y = ((orF (rwF h (l.take i)) fun x y => decide (x < t) && rwC h l[i] x y) x y || (decide (x = t ∧ y = b) && q))) := by
            intro x y _ _
            unfold orF
            rw [Bool.or_assoc]
            congr 1
            by_cases e1 : x = t
            · subst e1
              by_cases e2 : y = b
              · subst e2; simp [hq]
              · have : rwC h l[i] x y = false := by
                  unfold rwC
                  rw [eb]
                  have : ¬ (b : Int) = (y : Int) := by omega
                  simp [this]
                simp [this, e2]
            · have : (x < t + 1) ↔ (x < t) := by omega
              simp [e1, this]
          cases q with
          | true =>
            simp only [if_true, graph_Add hn64 _ ht hb, Option.bind_some, w64_succ (show t < 9223372036854775807 by omega), Sh.next]
            congr 3
            refine gr_ext hn64 fun x y hx hy => ?_
            rw [key x y hx hy]; simp [addF]
          | false =>
            simp only [Bool.false_eq_true, if_false, w64_succ (show t < 9223372036854775807 by omega), Sh.next]
            congr 3
            refine gr_ext hn64 fun x y hx hy => ?_
            rw [key x y hx hy]; simp
        simp only [G.choice_Rw_b2, dec_lt, ht, decide_true, if_true, idx_nat ht, Option.bind_some]
        have e3 : decide ((t : Int) ≠ l[i].B) = decide (t ≠ b) := by rw [eb]; congr 1; exact propext (by omega)
        rw [e3, pHasT (by omega)]
        simp only [Option.bind_some]
        have e4 : (tx h (t : Int)).Reads.any (fun c => decide (G.api_Take.mk l[i].Key l[i].A = c)) = decide (fromR h t l[i].Key = some l[i].A) := by
          have := fromR_iff (t := (t : Int)) (key := l[i].Key) (v := l[i].A) hr (inr_nat.2 ht)
          rw [Bool.eq_iff_iff, decide_eq_true_eq, this]
        by_cases e5 : t = b
        · subst e5
          simp only [ne_eq, not_true_eq_false, decide_false, Bool.false_eq_true, if_false]
          refine step false ?_
          unfold rwC; simp
        · simp only [ne_eq, e5, not_false_eq_true, decide_true, if_true]
          refine step _ ?_
          unfold rwC
          rw [e4, eb]; simp [e5]
      · simp only [G.choice_Rw_b2, dec_lt, Nat.lt_irrefl, decide_false, Bool.false_eq_true, if_false, G.choice_Rw_j2, w64_succ (show i < 9223372036854775807 by omega), Sh.next]
        congr 3
        refine congrArg (fun q => (q, ((i + 1 : Nat) : Int))) (gr_ext hn64 fun x y hx _ => ?_)
        unfold rwF orF
        rw [take_any hi]
        simp [hx, Bool.or_assoc]
      · congr 2
        funext x y; simp [orF]
    · simp only [G.choice_Rw_b1, dec_lt, Nat.lt_irrefl, decide_false, Bool.false_eq_true, if_false, G.choice_Rw_j1, List.take_length]

theorem pAll1 {n : Nat} (hn : n ≤ 64) (f g : Nat → Nat → Bool) : G.choice_all (gr n f) [gr n g] = some (gr n (orF f g)) := by
  unfold G.choice_all
  refine run_exit (fun i => if i = 0 then ((gr n f).N, (gr n f).Rows, 0) else ((n : Int), rows n (orF f g), 1)) 1 _ (by decide) (fun i hi => ?_) ?_ rfl
  · have : i = 0 := by omega
    subst this
    simp only [if_true, Nat.zero_add, G.choice_all_b1, Sh.len, List.length_cons, List.length_nil]
    rw [show G.graph_Graph.mk (gr n f).N (gr n f).Rows = gr n f from rfl]
    rw [show Sh.idx [gr n g] 0 = some (gr n g) from rfl]
    simp only [Option.bind_some, graph_Union hn]
    rfl
  · simp only [G.choice_all_b1, G.choice_all_j1]
    rfl
def lev2 (lev : Int) : Bool := decide (lev = 0) || decide (lev = 1)
def fullG (h : G.api_Hist) (lev : Int) (l : List G.api_Choice) : G.graph_Graph × Int := if cr h l && lev2 lev then (gr h.Txns.length (fullF h lev l), 0) else (g0, 1)
theorem pFull {h : G.api_Hist} (hf : Fits h) (lev : Int) {l : List G.api_Choice} (hl : l.length ≤ 20000) : G.choice_Full h lev l = some (fullG h lev l) := by
  unfold G.choice_Full fullG
  rw [pChoice hf hl]
  simp only [Option.bind_some]
  rw [show (right h && l.all (one h)) = cr h l from rfl]
  cases hc : cr h l with
  | false => rfl
  | true =>
    obtain ⟨hr, hone⟩ := cr_iff.1 hc
    have hn := right_le hr
    have hn64 : h.Txns.length ≤ 64 := by omega
    have e1 : pastG h = gr h.Txns.length (orF (soF h) (wrF h)) := by unfold pastG; rw [if_pos hr]
    have e2 : wwG h l = gr h.Txns.length (wwF l) := by unfold wwG; rw [if_pos hc]
    have e3 : rwG h l = gr h.Txns.length (rwF h l) := by unfold rwG; rw [if_pos hc]
    have body : G.choice_Full_j1 h lev l false = some (gr h.Txns.length (orF (dF h l) (if lev = 1 then compF h.Txns.length (dF h l) (rwF h l) else rwF h l)), 0) := by
      unfold G.choice_Full_j1 G.choice_Full_j2
      simp only [Bool.false_eq_true, if_false, pPast hf, pWw hf hl, pRw hf hl, Option.bind_some, e1, e2, e3, pAll1 hn64]
      by_cases hv : lev = 1
      · simp only [hv, decide_true, if_true, graph_Compose hn64, Option.bind_some, pAll1 hn64]; rfl
      · simp only [hv, decide_false, Bool.false_eq_true, if_false]
        rfl
    simp only [Bool.not_true, Bool.false_eq_true, if_false, Bool.true_and]
    unfold lev2
    by_cases h0 : lev = 0
    · subst h0
      simp only [ne_eq, not_true_eq_false, decide_false, Bool.false_eq_true, if_false, body, decide_true, Bool.true_or, if_true]
      rfl
    · by_cases h1 : lev = 1
      · subst h1
        simp only [ne_eq, h0, not_false_eq_true, decide_true, if_true, not_true_eq_false, decide_false, body, Bool.or_true]
        rfl
      · simp [h0, h1, G.choice_Full_j1, g0]
end Pl
end

section
/- Cycles: which lists are, and what is told of them. -/


namespace Pl
open Go Go.Av

end Pl
end

section
/- How far a node is from a node: what the search and the reference tell. -/
namespace Pl
open Go Go.Av

end Pl
end

section
/- What the reference tells of distances; which cycle is found. -/
namespace Pl
open Go Go.Av

end Pl
end

section
/- A cycle begins anywhere. -/

namespace Pl
open Go Go.Av

end Pl
end

section
/- Which cycle is found; the statements on cycles. -/
namespace Pl
open Go Go.Av

end Pl
end

section
/- Edges one by one are those of the whole graph of choices; what is found is a cycle. -/
namespace Pl
open Go Go.Av

end Pl
end

section
/- The first open pair, and the choices that an order makes: what the program answers. -/
namespace Pl
open Go Go.Av

theorem pairs_le {h : G.api_Hist} (hr : right h = true) : (pairs h).length ≤ 20000 := by
  have hn := right_le hr
  have h1 := pairs_len (h := h)
  have h2 : h.Txns.length * h.Txns.length ≤ 32 * 32 := Nat.mul_le_mul hn hn
  omega
def plc (order : List Int) (n : Int) : Int := pos order (fun x => decide (x = n))
theorem pIdxP {l : List Int} (hl : l.length < 9223372036854775808) (v : Int) : G.slices_Index_int_int l v = some (plc l v) := by
  rw [pIdx hl]
  unfold plc
  congr 2
  funext x; congr 1; exact propext ⟨fun e => e.symm, fun e => e.symm⟩
def permB (order : List Int) (n : Nat) : Bool := decide (order.length = n) && (List.range n).all fun i : Nat => decide (0 ≤ plc order (i : Int))
def turnC (order : List Int) (c : G.api_Choice) : G.api_Choice := if plc order c.B < plc order c.A then back c else c
def ofB (h : G.api_Hist) (order : List Int) : List G.api_Choice := if right h && permB order h.Txns.length then (pairs h).map (turnC order) else []
theorem pOf {h : G.api_Hist} (hf : Fits h) {order : List Int} (ho : order.length < 9223372036854775807) : G.choice_Of h order = some (ofB h order) := by
  unfold G.choice_Of ofB
  rw [pRight hf]
  simp only [Option.bind_some]
  cases hr : right h with
  | false => rfl
  | true =>
    have hn := right_le hr
    simp only [Bool.not_true, Bool.false_eq_true, if_false, Bool.true_and, G.choice_Of_j1]
    by_cases hlen0 : ¬ order.length = h.Txns.length
    · have hlen := hlen0
      have : (Sh.len order) ≠ (Sh.len h.Txns) := by simp only [Sh.len]; omega
      have e : permB order h.Txns.length = false := by unfold permB; rw [decide_eq_false hlen]; rfl
      rw [decide_eq_true this, e]; rfl
    have hlen := Classical.not_not.1 hlen0
    have heq : ¬ (Sh.len order) ≠ (Sh.len h.Txns) := by simp only [Sh.len]; omega
    rw [decide_eq_false heq]
    simp only [Bool.false_eq_true, if_false]
    rw [show (Sh.len order) = ((h.Txns.length : Nat) : Int) by simp only [Sh.len]; omega, mk_ok (by omega) (by omega)]
    simp only [Option.bind_some]
    have st : ∀ k, k < h.Txns.length → ((List.range k).map (fun i : Nat => plc order (i : Int)) ++ List.replicate (h.Txns.length - k) 0)[k]? = some 0 := fun k hk => by
      rw [List.getElem?_append_right (by simp), List.getElem?_replicate]
      simp only [List.length_map, List.length_range, Nat.sub_self]
      rw [if_pos (by omega)]
    by_cases hall : ∃ k, k < h.Txns.length ∧ plc order (k : Int) < 0
    · obtain ⟨k, ⟨hk, hneg⟩, hmin⟩ := exists_least _ hall
      have e : permB order h.Txns.length = false := by
        unfold permB
        rw [Bool.and_eq_false_iff, List.all_eq_false]
        exact .inr ⟨k, List.mem_range.2 hk, by simp; omega⟩
      rw [e]
      simp only [Bool.false_eq_true, if_false]
      refine run_exit (fun i => ((List.range i).map (fun i : Nat => plc order (i : Int)) ++ List.replicate (h.Txns.length - i) 0, (i : Int))) k _ (fuel_gt (by omega)) (fun i hi => ?_) ?_ (by simp)
      · have hpos : ¬ plc order (i : Int) < 0 := fun hc => by have := hmin i ⟨by omega, hc⟩; omega
        have hil : i < h.Txns.length := by omega
        have hg := st i hil
        have hl2 : i < ((List.range i).map (fun i : Nat => plc order (i : Int)) ++ List.replicate (h.Txns.length - i) 0).length := by simp; omega
        have hset : Sh.set ((List.range i).map (fun i : Nat => plc order (i : Int)) ++ List.replicate (h.Txns.length - i) 0) (i : Int) (plc order (i : Int)) = (List.range (i + 1)).map (fun i : Nat => plc order (i : Int)) ++ List.replicate (h.Txns.length - (i + 1)) 0 := by
          rw [set_at, List.set_append_right _ _ (by simp), List.range_succ, List.map_append, List.append_assoc]
          congr 1
          simp only [List.length_map, List.length_range, Nat.sub_self]
          rw [show h.Txns.length - i = (h.Txns.length - (i + 1)) + 1 by omega, List.replicate_succ]
          simp
        have hl3 : i < (Sh.set ((List.range i).map (fun i : Nat => plc order (i : Int)) ++ List.replicate (h.Txns.length - i) 0) (i : Int) (plc order (i : Int))).length := by simp [Sh.set]; omega
        have hx : (Sh.set ((List.range i).map (fun i : Nat => plc order (i : Int)) ++ List.replicate (h.Txns.length - i) 0) (i : Int) (plc order (i : Int)))[i] = plc order (i : Int) := by simp [Sh.set]
        have hmade : Sh.len (List.replicate h.Txns.length (0 : Int)) = ((h.Txns.length : Nat) : Int) := by simp [Sh.len]
        simp only [G.choice_Of_b2, hmade, dec_lt, hil, decide_true, if_true, pIdxP (show order.length < 9223372036854775808 by omega), Option.bind_some, idx_at hl2, idx_at hl3, hx, hpos, decide_false, Bool.false_eq_true, if_false, w64_succ (show i < 9223372036854775807 by omega), Sh.next]
        rw [hset]
      · have hl2 : k < ((List.range k).map (fun i : Nat => plc order (i : Int)) ++ List.replicate (h.Txns.length - k) 0).length := by simp; omega
        have hl3 : k < (Sh.set ((List.range k).map (fun i : Nat => plc order (i : Int)) ++ List.replicate (h.Txns.length - k) 0) (k : Int) (plc order (k : Int))).length := by simp [Sh.set]; omega
        have hx : (Sh.set ((List.range k).map (fun i : Nat => plc order (i : Int)) ++ List.replicate (h.Txns.length - k) 0) (k : Int) (plc order (k : Int)))[k] = plc order (k : Int) := by simp [Sh.set]
        have hmade : Sh.len (List.replicate h.Txns.length (0 : Int)) = ((h.Txns.length : Nat) : Int) := by simp [Sh.len]
        simp only [G.choice_Of_b2, hmade, dec_lt, hk, decide_true, if_true, pIdxP (show order.length < 9223372036854775808 by omega), Option.bind_some, idx_at hl2, idx_at hl3, hx, hneg]
    · have hpos : ∀ k, k < h.Txns.length → 0 ≤ plc order (k : Int) := fun k hk => by
        rcases Int.lt_or_le (plc order (k : Int)) 0 with h1 | h1
        · exact absurd ⟨k, hk, h1⟩ hall
        · exact h1
      have e : permB order h.Txns.length = true := by
        unfold permB
        rw [Bool.and_eq_true, decide_eq_true_eq, List.all_eq_true]
        exact ⟨hlen, fun k hk => by simpa using hpos k (List.mem_range.1 hk)⟩
      rw [e]
      simp only [if_true]
      refine run_exit (fun i => ((List.range i).map (fun i : Nat => plc order (i : Int)) ++ List.replicate (h.Txns.length - i) 0, (i : Int))) h.Txns.length _ (fuel_gt (by omega)) (fun i hil => ?_) ?_ (by simp)
      · have hp := hpos i hil
        have hl2 : i < ((List.range i).map (fun i : Nat => plc order (i : Int)) ++ List.replicate (h.Txns.length - i) 0).length := by simp; omega
        have hset : Sh.set ((List.range i).map (fun i : Nat => plc order (i : Int)) ++ List.replicate (h.Txns.length - i) 0) (i : Int) (plc order (i : Int)) = (List.range (i + 1)).map (fun i : Nat => plc order (i : Int)) ++ List.replicate (h.Txns.length - (i + 1)) 0 := by
          rw [set_at, List.set_append_right _ _ (by simp), List.range_succ, List.map_append, List.append_assoc]
          congr 1
          simp only [List.length_map, List.length_range, Nat.sub_self]
          rw [show h.Txns.length - i = (h.Txns.length - (i + 1)) + 1 by omega, List.replicate_succ]
          simp
        have hl3 : i < (Sh.set ((List.range i).map (fun i : Nat => plc order (i : Int)) ++ List.replicate (h.Txns.length - i) 0) (i : Int) (plc order (i : Int))).length := by simp [Sh.set]; omega
        have hx : (Sh.set ((List.range i).map (fun i : Nat => plc order (i : Int)) ++ List.replicate (h.Txns.length - i) 0) (i : Int) (plc order (i : Int)))[i] = plc order (i : Int) := by simp [Sh.set]
        have hmade : Sh.len (List.replicate h.Txns.length (0 : Int)) = ((h.Txns.length : Nat) : Int) := by simp [Sh.len]
        have hnn : ¬ plc order (i : Int) < 0 := by omega
        simp only [G.choice_Of_b2, hmade, dec_lt, hil, decide_true, if_true, pIdxP (show order.length < 9223372036854775808 by omega), Option.bind_some, idx_at hl2, idx_at hl3, hx, hnn, decide_false, Bool.false_eq_true, if_false, w64_succ (show i < 9223372036854775807 by omega), Sh.next]
        rw [hset]
      · have hmade : Sh.len (List.replicate h.Txns.length (0 : Int)) = ((h.Txns.length : Nat) : Int) := by simp [Sh.len]
        simp only [G.choice_Of_b2, hmade, dec_lt, Nat.lt_irrefl, decide_false, Bool.false_eq_true, if_false, Nat.sub_self, List.replicate_zero, List.append_nil, G.choice_Of_j2, pPairs hf, Option.bind_some]
        congr 1
        have hpl := pairs_le hr
        have pidx : ∀ a : Nat, a < h.Txns.length → Sh.idx ((List.range h.Txns.length).map (fun i : Nat => plc order (i : Int))) (a : Int) = some (plc order (a : Int)) := fun a ha => by
          rw [idx_at (by simpa using ha)]; simp
        refine count_exit (fun i => ((pairs h).take i).map (turnC order) ++ (pairs h).drop i) (pairs h).length _ (fuel_gt (by omega)) (fun i hi => ?_) ?_ (by simp)
        · obtain ⟨a, b, ea, eb, ha, hb, _⟩ := one_nat (pairs_one hr (List.getElem_mem hi))
          have hl1 : i < (((pairs h).take i).map (turnC order) ++ (pairs h).drop i).length := by simp; omega
          have hx : (((pairs h).take i).map (turnC order) ++ (pairs h).drop i)[i] = (pairs h)[i] := by
            rw [List.getElem_append_right (by simp; omega)]
            have : i - (((pairs h).take i).map (turnC order)).length = 0 := by simp; omega
            simp only [this, List.getElem_drop, Nat.add_zero]
          have fin : ∀ c : G.api_Choice, c = turnC order (pairs h)[i] → (((pairs h).take i).map (turnC order) ++ (pairs h).drop i).set i c = ((pairs h).take (i + 1)).map (turnC order) ++ (pairs h).drop (i + 1) := fun c hc => by
            rw [List.set_append_right _ _ (by simp; omega), List.take_add_one, List.getElem?_eq_getElem hi, Option.toList_some, List.map_append, List.append_assoc, List.drop_eq_getElem_cons hi]
            have : i - (((pairs h).take i).map (turnC order)).length = 0 := by simp; omega
            rw [this, hc]; rfl
          simp only [G.choice_Of_b1, dec_lt, hi, decide_true, if_true, idx_at hl1, hx, Option.bind_some, ea, eb, pidx a ha, pidx b hb]
          have hj4 : ∀ L, G.choice_Of_j4 (i : Int) L = some (.inl (L, ((i + 1 : Nat) : Int))) := fun L => by
            unfold G.choice_Of_j4; rw [w64_succ (show i < 9223372036854775807 by omega)]; rfl
          by_cases hc : plc order (b : Int) < plc order (a : Int)
          · have ht : turnC order (pairs h)[i] = back (pairs h)[i] := by unfold turnC; rw [ea, eb, if_pos hc]
            rw [decide_eq_true hc]
            simp only [if_true, set_at]
            have hl3 : i < ((((pairs h).take i).map (turnC order) ++ (pairs h).drop i).set i (G.api_Choice.mk ((pairs h)[i]).Key (b : Int) (b : Int))).length := by simp; omega
            rw [idx_at hl3]
            simp only [Option.bind_some, List.getElem_set_self, hj4, List.set_set]
            rw [fin _ (by rw [ht]; unfold back; rw [ea, eb])]
          · have ht : turnC order (pairs h)[i] = (pairs h)[i] := by unfold turnC; rw [ea, eb, if_neg hc]
            rw [decide_eq_false hc]
            simp only [Bool.false_eq_true, if_false, hj4]
            have := fin (pairs h)[i] ht.symm
            rw [← this]
            congr 3
            have hs : (((pairs h).take i).map (turnC order) ++ (pairs h).drop i).set i (((pairs h).take i).map (turnC order) ++ (pairs h).drop i)[i] = ((pairs h).take i).map (turnC order) ++ (pairs h).drop i := List.set_getElem_self _
            rw [hx] at hs
            rw [hs]
        · simp only [G.choice_Of_b1, dec_lt, Nat.lt_irrefl, decide_false, Bool.false_eq_true, if_false, List.take_length, List.drop_length, List.append_nil, G.choice_Of_j3]
end Pl
end

section
/- Orders in which edges lead on. -/


namespace Pl
open Go Go.Av

theorem scanS {σ α : Type} {b : σ × Int → Option ((σ × Int) ⊕ α)} (S : Nat → σ) (m : Nat) (p : Nat → Bool) (A B : α) (hm : m < Sh.FUEL) (h : ∀ k, k < m → (∀ j, j < k → p j = true) → b (S k, (k : Int)) = if p k then some (.inl (S (k + 1), ((k + 1 : Nat) : Int))) else some (.inr B)) (hr : (∀ j, j < m → p j = true) → b (S m, (m : Int)) = some (.inr A)) {s : σ} (hs : s = S 0) :
    Sh.loop b (s, 0) = some (if ∀ k, k < m → p k = true then A else B) := by
  subst hs
  by_cases hall : ∀ k, k < m → p k = true
  · rw [if_pos hall]
    refine Sh.loop_run (fun k => (S k, (k : Int))) m A hm (fun k hk => ?_) (hr hall)
    rw [h k hk (fun j hj => hall j (by omega)), if_pos (hall k hk)]
  · rw [if_neg hall]
    have hex : ∃ k, k < m ∧ p k = false := by
      apply Classical.byContradiction
      intro hn
      exact hall (fun k h1 => by
        cases hp : p k with
        | true => rfl
        | false => exact absurd ⟨k, h1, hp⟩ hn)
    obtain ⟨k, hk, hmin⟩ := exists_least _ hex
    have before : ∀ j, j < k → p j = true := fun j hj => by
      cases hp : p j with
      | true => rfl
      | false => have := hmin j ⟨by omega, hp⟩; omega
    refine Sh.loop_run (fun q => (S q, (q : Int))) k B (by omega) (fun q hq => ?_) ?_
    · rw [h q (by omega) (fun j hj => before j (by omega)), if_pos (before q hq)]
    · rw [h k hk.1 before, if_neg (by rw [hk.2]; simp)]

def oSet (l : List Int) : BitVec 64 := l.foldl (fun s i => s ||| Bv.bit i) 0#64
theorem oSet_snoc (l : List Int) (i : Int) : oSet (l ++ [i]) = oSet l ||| Bv.bit i := by simp [oSet]
theorem oSet_get {n : Nat} (hn : n ≤ 64) : ∀ (l : List Int), (∀ a ∈ l, 0 ≤ a ∧ a < n) → ∀ i : Nat, (oSet l).getLsbD i = decide ((i : Int) ∈ l) := by
  have key : ∀ (l : List Int) (s : BitVec 64), (∀ a ∈ l, 0 ≤ a ∧ a < n) → ∀ i : Nat, (l.foldl (fun s i => s ||| Bv.bit i) s).getLsbD i = (s.getLsbD i || decide ((i : Int) ∈ l)) := by
    intro l
    induction l with
    | nil => intro s _ i; simp
    | cons a l ih =>
      intro s h i
      have ha := h a (by simp)
      obtain ⟨k, rfl⟩ : ∃ k : Nat, a = k := ⟨a.toNat, by omega⟩
      simp only [List.foldl_cons]
      rw [ih _ (fun b hb => h b (List.mem_cons_of_mem _ hb)), BitVec.getLsbD_or, bit_get k i (by omega)]
      by_cases hi : i = k
      · subst hi; simp
      · have : ¬ (i : Int) = (k : Int) := by omega
        simp [hi, this]
  intro l h i
  have := key l 0#64 h i
  simpa [oSet] using this
theorem oSet_has {n : Nat} (hn : n ≤ 64) {l : List Int} (h : ∀ a ∈ l, 0 ≤ a ∧ a < n) (a : Int) (ha : 0 ≤ a ∧ a < n) : Bv.has (oSet l) a = decide (a ∈ l) := by
  obtain ⟨k, rfl⟩ : ∃ k : Nat, a = k := ⟨a.toNat, by omega⟩
  rw [has_nat _ (by omega), oSet_get hn l h]

def ordAt (n : Nat) (f : Nat → Nat → Bool) (l : List Int) (k : Nat) : Bool :=
  match l[k]? with
  | some a => decide (0 ≤ a ∧ a < n ∧ a ∉ l.take k) && (l.take (k + 1)).all fun b => !f a.toNat b.toNat
  | none => false
def ordB (n : Nat) (f : Nat → Nat → Bool) (l : List Int) : Bool := decide (l.length = n) && decide (∀ k, k < l.length → ordAt n f l k = true)

theorem ordAt_nodes {n : Nat} {f : Nat → Nat → Bool} {l : List Int} {k : Nat} (hk : k ≤ l.length) (h : ∀ j, j < k → ordAt n f l j = true) : ∀ a ∈ l.take k, 0 ≤ a ∧ a < n := by
  intro a ha
  obtain ⟨j, hj, rfl⟩ := List.getElem_of_mem ha
  have hj' : j < k := by rw [List.length_take] at hj; omega
  have := h j hj'
  have hjl : j < l.length := by omega
  unfold ordAt at this
  rw [List.getElem?_eq_getElem hjl] at this
  simp only [Bool.and_eq_true, decide_eq_true_eq] at this
  rw [List.getElem_take]
  exact ⟨this.1.1, this.1.2.1⟩
theorem topo_Is {n : Nat} (hn : n ≤ 64) (f : Nat → Nat → Bool) (l : List Int) (hl : l.length < 9223372036854775808) : G.topo_Is (gr n f) l = some (ordB n f l) := by
  unfold G.topo_Is ordB
  simp only [Right_gr hn, Option.bind_some, Bool.not_true, Bool.false_eq_true, if_false]
  by_cases hlen : l.length = n
  · have hlen' : ((l.length : Nat) : Int) = (n : Int) := by omega
    simp only [len_eq, hlen', ne_eq, not_true_eq_false, decide_false, Bool.false_eq_true, if_false, G.topo_Is_j1, hlen, decide_true, Bool.true_and]
    refine (scanS (fun k => oSet (l.take k)) n (ordAt n f l) true false (fuel_gt (by omega)) (fun k hk hbef => ?_) (fun hall => ?_) rfl).trans ?_
    · have hkl : k < l.length := by omega
      have hnodes := ordAt_nodes (by omega) hbef
      have hat : ordAt n f l k = (decide (0 ≤ l[k] ∧ l[k] < n ∧ l[k] ∉ l.take k) && (l.take (k + 1)).all fun b => !f l[k].toNat b.toNat) := by
        unfold ordAt; rw [List.getElem?_eq_getElem hkl]
      simp only [G.topo_Is_b1, len_eq, hlen, dec_lt, hk, decide_true, if_true, idx_at hkl, Option.bind_some]
      by_cases h1 : l[k] < 0
      · have : ordAt n f l k = false := by rw [hat, decide_eq_false (by omega)]; rfl
        simp [h1, this, G.topo_Is_j3, Sh.exit]
      · by_cases h2 : (n : Int) ≤ l[k]
        · have : ordAt n f l k = false := by rw [hat, decide_eq_false (by omega)]; rfl
          simp [h1, h2, this, G.topo_Is_j3, Sh.exit]
        · simp only [h1, h2, decide_false, Bool.false_eq_true, if_false, bits_Has, oSet_has hn hnodes _ (show 0 ≤ l[k] ∧ l[k] < n by omega), Option.bind_some, G.topo_Is_j3]
          by_cases h3 : l[k] ∈ l.take k
          · have : ordAt n f l k = false := by rw [hat, decide_eq_false (fun h => h.2.2 h3)]; rfl
            simp [h3, this, Sh.exit]
          · obtain ⟨q, hq⟩ : ∃ q : Nat, l[k] = q := ⟨l[k].toNat, by omega⟩
            have hqn : q < n := by omega
            have hs : oSet (l.take k) ||| Bv.bit l[k] = oSet (l.take (k + 1)) := by
              rw [List.take_succ_eq_append_getElem hkl, oSet_snoc]
            have hnodes' : ∀ a ∈ l.take (k + 1), 0 ≤ a ∧ a < n := by
              rw [List.take_succ_eq_append_getElem hkl]
              intro a ha
              rcases List.mem_append.1 ha with h | h
              · exact hnodes a h
              · simp at h; subst h; exact ⟨by omega, by omega⟩
            simp only [h3, decide_false, Bool.false_eq_true, if_false, bits_With, Option.bind_some, hs]
            have hd : decide ((row n (f q) &&& oSet (l.take (k + 1))) ≠ 0#64) = !((l.take (k + 1)).all fun b => !f q b.toNat) := by
              rw [Bool.eq_iff_iff]
              simp only [decide_eq_true_eq, Bool.not_eq_true', List.all_eq_false]
              constructor
              · intro hne
                apply Classical.byContradiction
                intro hno
                apply hne
                apply Bv.ext
                intro i _
                rw [BitVec.getLsbD_and, row_get hn, oSet_get hn _ hnodes', BitVec.getLsbD_zero]
                cases hfi : f q i with
                | false => simp
                | true =>
                  have : ¬ (i : Int) ∈ l.take (k + 1) := fun hm => hno ⟨(i : Int), hm, by simp [hfi]⟩
                  simp [this]
              · rintro ⟨b, hb, hfb⟩ h0
                obtain ⟨j, rfl⟩ : ∃ j : Nat, b = j := ⟨b.toNat, by have := hnodes' b hb; omega⟩
                have hjn : j < n := by have := hnodes' _ hb; omega
                have := congrArg (fun x : BitVec 64 => x.getLsbD j) h0
                simp only [BitVec.getLsbD_and, row_get hn, oSet_get hn _ hnodes', BitVec.getLsbD_zero] at this
                simp [hjn, hb] at this
                simp [this] at hfb
            have hat2 : ordAt n f l k = (l.take (k + 1)).all fun b => !f q b.toNat := by
              rw [hat, decide_eq_true ⟨by omega, by omega, h3⟩, Bool.true_and, hq]; rfl
            rw [hq, rows_idx hqn]
            simp only [Option.bind_some, hd, hat2]
            cases ((l.take (k + 1)).all fun b => !f q b.toNat) with
            | true => simp [Sh.next, w64_succ (show k < 9223372036854775807 by omega)]
            | false => simp [Sh.exit]
    · simp only [G.topo_Is_b1, len_eq, hlen, Int.lt_irrefl, decide_false, Bool.false_eq_true, if_false, G.topo_Is_j2, exit_some]
    · by_cases h : ∀ k, k < n → ordAt n f l k = true
      · rw [if_pos h, decide_eq_true h]
      · rw [if_neg h, decide_eq_false h]
  · have hlen' : ¬ ((l.length : Nat) : Int) = (n : Int) := by omega
    simp [hlen', hlen, G.topo_Is_j1]
end Pl
end

section
/- What orders are: graphs without rings have them. -/
namespace Pl
open Go Go.Av

theorem len_of_cov {n : Nat} : ∀ {l : List Int}, (∀ a ∈ l, 0 ≤ a ∧ a < n) → l.Nodup → l.length ≤ n := by
  induction n with
  | zero =>
    intro l h _
    cases l with
    | nil => simp
    | cons a l => have := h a (by simp); omega
  | succ n ih =>
    intro l h hd
    by_cases hm : (n : Int) ∈ l
    · have h1 := ih (l := l.erase (n : Int)) (fun a ha => by
        have ha' := (List.Nodup.mem_erase_iff hd).1 ha
        have := h a ha'.2
        have hne : a ≠ (n : Int) := ha'.1
        omega) (hd.erase _)
      rw [List.length_erase_of_mem hm] at h1
      omega
    · have := ih (l := l) (fun a ha => by
        have := h a ha
        have hne : a ≠ (n : Int) := fun e => hm (e ▸ ha)
        omega) hd
      omega
theorem covAll {n : Nat} {l : List Int} (h : ∀ a ∈ l, 0 ≤ a ∧ a < n) (hd : l.Nodup) (hl : l.length = n) {k : Nat} (hk : k < n) : (k : Int) ∈ l := by
  apply Classical.byContradiction
  intro hno
  have := len_of_cov (n := n) (l := (k : Int) :: l) (fun a ha => by
    rcases List.mem_cons.1 ha with rfl | ha
    · omega
    · exact h a ha) (List.nodup_cons.2 ⟨hno, hd⟩)
  simp at this
  omega

structure Ord (n : Nat) (f : Nat → Nat → Bool) (l : List Int) : Prop where
  len : l.length = n
  nodes : ∀ a ∈ l, 0 ≤ a ∧ a < n
  nodup : l.Nodup
  self : ∀ k, k < n → f k k = false
  fwd : l.Pairwise fun a b => f b.toNat a.toNat = false

theorem ordAt_iff {n : Nat} {f : Nat → Nat → Bool} {l : List Int} {k : Nat} (hk : k < l.length) :
    ordAt n f l k = true ↔ (0 ≤ l[k] ∧ l[k] < n) ∧ (∀ (j : Nat) (hj : j < k), l[j] ≠ l[k]) ∧ f l[k].toNat l[k].toNat = false ∧ ∀ (j : Nat) (hj : j < k), f l[k].toNat l[j].toNat = false := by
  have hat : ordAt n f l k = (decide (0 ≤ l[k] ∧ l[k] < n ∧ l[k] ∉ l.take k) && (l.take (k + 1)).all fun b => !f l[k].toNat b.toNat) := by
    unfold ordAt; rw [List.getElem?_eq_getElem hk]
  rw [hat, Bool.and_eq_true, decide_eq_true_eq, List.all_eq_true]
  have hmem : ∀ a, a ∈ l.take k ↔ ∃ (j : Nat) (hj : j < k), l[j] = a := fun a => by
    constructor
    · intro h
      obtain ⟨j, hj, rfl⟩ := List.getElem_of_mem h
      have hj' : j < k := by rw [List.length_take] at hj; omega
      exact ⟨j, hj', by rw [List.getElem_take]⟩
    · rintro ⟨j, hj, rfl⟩
      rw [← List.getElem_take (j := k) (h := by rw [List.length_take]; omega)]
      exact List.getElem_mem _
  have hmem2 : ∀ a, a ∈ l.take (k + 1) ↔ a ∈ l.take k ∨ a = l[k] := fun a => by
    rw [List.take_add_one, List.mem_append, List.getElem?_eq_getElem hk]; simp
  constructor
  · rintro ⟨⟨h1, h2, h3⟩, h4⟩
    refine ⟨⟨h1, h2⟩, fun j hj e => h3 ((hmem _).2 ⟨j, hj, e⟩), ?_, fun j hj => ?_⟩
    · simpa using h4 _ ((hmem2 _).2 (.inr rfl))
    · simpa using h4 _ ((hmem2 _).2 (.inl ((hmem _).2 ⟨j, hj, rfl⟩)))
  · rintro ⟨h1, h2, h3, h4⟩
    refine ⟨⟨h1.1, h1.2, fun hm => ?_⟩, fun b hb => ?_⟩
    · obtain ⟨j, hj, e⟩ := (hmem _).1 hm
      exact h2 j hj e
    · rcases (hmem2 _).1 hb with hb | rfl
      · obtain ⟨j, hj, rfl⟩ := (hmem _).1 hb
        simpa using h4 j hj
      · simpa using h3

theorem ordB_iff {n : Nat} {f : Nat → Nat → Bool} {l : List Int} : ordB n f l = true ↔ Ord n f l := by
  unfold ordB
  rw [Bool.and_eq_true, decide_eq_true_eq, decide_eq_true_eq]
  constructor
  · rintro ⟨hl, h⟩
    have h' : ∀ k (hk : k < l.length), _ := fun k hk => (ordAt_iff hk).1 (h k hk)
    have hnodes : ∀ a ∈ l, 0 ≤ a ∧ a < n := fun a ha => by
      obtain ⟨j, hj, rfl⟩ := List.getElem_of_mem ha
      exact (h' j hj).1
    have hnd : l.Nodup := List.pairwise_iff_getElem.2 fun i j hi hj hij => (h' j hj).2.1 i hij
    refine ⟨hl, hnodes, hnd, fun k hk => ?_, List.pairwise_iff_getElem.2 fun i j hi hj hij => (h' j hj).2.2.2 i hij⟩
    obtain ⟨j, hj, e⟩ := List.getElem_of_mem (covAll hnodes hnd hl hk)
    have := (h' j hj).2.2.1
    rw [e] at this
    simpa using this
  · rintro ⟨hl, h1, h2, h3, h4⟩
    refine ⟨hl, fun k hk => (ordAt_iff hk).2 ⟨h1 _ (List.getElem_mem _), fun j hj => List.pairwise_iff_getElem.1 h2 j k _ _ hj, ?_, fun j hj => List.pairwise_iff_getElem.1 h4 j k _ _ hj⟩⟩
    have := h1 _ (List.getElem_mem hk)
    exact h3 _ (by omega)

theorem Ord.turn {n : Nat} {f : Nat → Nat → Bool} {l : List Int} : Ord n (turnF f) l.reverse ↔ Ord n f l := by
  have key : ∀ {f : Nat → Nat → Bool} {l : List Int}, Ord n f l → Ord n (turnF f) l.reverse := fun h =>
    ⟨by simp [h.len], fun a ha => h.nodes a (List.mem_reverse.1 ha), List.pairwise_reverse.2 (List.Pairwise.imp (fun h => Ne.symm h) h.nodup), fun k hk => h.self k hk, List.pairwise_reverse.2 h.fwd⟩
  exact ⟨fun h => by have := key h; rw [List.reverse_reverse] at this; exact this, key⟩
theorem Ord.mono {n : Nat} {f h : Nat → Nat → Bool} {l : List Int} (o : Ord n h l) (hm : ∀ x y, x < n → y < n → f x y = true → h x y = true) : Ord n f l where
  len := o.len
  nodes := o.nodes
  nodup := o.nodup
  self := fun k hk => by
    cases e : f k k with
    | false => rfl
    | true => have := o.self k hk; rw [hm k k hk hk e] at this; cases this
  fwd := List.pairwise_iff_getElem.2 fun i j hi hj hij => by
    have hni := o.nodes _ (List.getElem_mem hi)
    have hnj := o.nodes _ (List.getElem_mem hj)
    have := List.pairwise_iff_getElem.1 o.fwd i j hi hj hij
    cases e : f l[j].toNat l[i].toNat with
    | false => rfl
    | true => rw [hm _ _ (by omega) (by omega) e] at this; cases this

theorem Ord.way {n : Nat} {f : Nat → Nat → Bool} {l : List Int} (o : Ord n f l) {x y : Nat} (w : Way n f x y) : ∀ (i j : Nat) (hi : i < l.length) (hj : j < l.length), l[i] = (x : Int) → l[j] = (y : Int) → i < j := by
  have edge : ∀ {x y : Nat}, f x y = true → ∀ (i j : Nat) (hi : i < l.length) (hj : j < l.length), l[i] = (x : Int) → l[j] = (y : Int) → x < n → i < j := by
    intro x y hf i j hi hj ei ej hx
    rcases Nat.lt_trichotomy i j with h | h | h
    · exact h
    · subst h
      rw [ei] at ej
      have : x = y := by omega
      subst this
      rw [o.self x hx] at hf; cases hf
    · have := List.pairwise_iff_getElem.1 o.fwd j i hj hi h
      rw [ei, ej] at this
      simp only [Int.toNat_natCast] at this
      rw [hf] at this; cases this
  induction w with
  | edge hx hy hf => exact fun i j hi hj ei ej => edge hf i j hi hj ei ej hx
  | cons hx hy hf w ih =>
    intro i j hi hj ei ej
    obtain ⟨k, hk, ek⟩ := List.getElem_of_mem (covAll o.nodes o.nodup o.len hy)
    have h1 := edge hf i k hi hk ei ek hx
    have h2 := ih k j hk hj ek ej
    omega
theorem Ord.noRing {n : Nat} {f : Nat → Nat → Bool} {l : List Int} (o : Ord n f l) : cycB n f = false := by
  cases h : cycB n f with
  | false => rfl
  | true =>
    obtain ⟨x, w⟩ := cyc_iff.1 h
    obtain ⟨k, hk, ek⟩ := List.getElem_of_mem (covAll o.nodes o.nodup o.len w.left)
    have := o.way w k k hk hk ek ek
    omega
theorem Ord.ways {n : Nat} {f : Nat → Nat → Bool} {l : List Int} (o : Ord n f l) : Ord n (wayF n f) l where
  len := o.len
  nodes := o.nodes
  nodup := o.nodup
  self := fun k hk => by
    cases e : wayF n f k k with
    | false => rfl
    | true => have := cyc_iff.2 ⟨k, way_iff.1 e⟩; rw [o.noRing] at this; cases this
  fwd := List.pairwise_iff_getElem.2 fun i j hi hj hij => by
    have hni := o.nodes _ (List.getElem_mem hi)
    have hnj := o.nodes _ (List.getElem_mem hj)
    cases e : wayF n f l[j].toNat l[i].toNat with
    | false => rfl
    | true =>
      have := o.way (way_iff.1 e) j i hj hi (by omega) (by omega)
      omega

structure Part (n : Nat) (f : Nat → Nat → Bool) (l : List Int) : Prop where
  nodes : ∀ a ∈ l, 0 ≤ a ∧ a < n
  nodup : l.Nodup
  self : ∀ a ∈ l, f a.toNat a.toNat = false
  fwd : l.Pairwise fun a b => f b.toNat a.toNat = false
  pre : ∀ a ∈ l, ∀ x, x < n → f x a.toNat = true → (x : Int) ∈ l
theorem Part.nil {n : Nat} {f : Nat → Nat → Bool} : Part n f [] := ⟨by simp, by simp, by simp, by simp, by simp⟩
end Pl
end

section
/- Transactions one by one: what the program and the reference play. -/
namespace Pl
open Go Go.Av

structure PermO (n : Nat) (o : List Int) : Prop where
  len : o.length = n
  node : ∀ a ∈ o, 0 ≤ a ∧ a < (n : Int)
  nodup : o.Nodup
theorem len_in : ∀ {n : Nat} {o : List Int}, (∀ a ∈ o, 0 ≤ a ∧ a < (n : Int)) → o.Nodup → o.length ≤ n
  | 0, o, h, _ => by
    cases o with
    | nil => simp
    | cons a o => have := h a (List.mem_cons_self ..); omega
  | n + 1, o, h, hd => by
    by_cases hn : (n : Int) ∈ o
    · have h1 := len_in (n := n) (o := o.erase (n : Int)) (fun a ha => by
        obtain ⟨h1, h2⟩ := (List.Nodup.mem_erase_iff hd).1 ha
        have := h a h2; omega) (hd.erase _)
      rw [List.length_erase_of_mem hn] at h1
      omega
    · have h1 := len_in (n := n) (o := o) (fun a ha => by
        have := h a ha
        have : a ≠ (n : Int) := fun e => hn (e ▸ ha)
        omega) hd
      omega
theorem PermO.all {n : Nat} {o : List Int} (p : PermO n o) {k : Nat} (hk : k < n) : (k : Int) ∈ o := by
  apply Classical.byContradiction
  intro hn
  have h1 := len_in (n := n) (o := (k : Int) :: o) (fun a ha => by
    rcases List.mem_cons.1 ha with e | e
    · omega
    · exact p.node a e) (List.nodup_cons.2 ⟨hn, p.nodup⟩)
  simp only [List.length_cons, p.len] at h1
  omega
theorem perm_cover : ∀ {n : Nat} {o : List Int}, o.length = n → (∀ k, k < n → (k : Int) ∈ o) → o.Nodup ∧ ∀ a ∈ o, 0 ≤ a ∧ a < (n : Int)
  | 0, o, hl, _ => by
    have := List.eq_nil_of_length_eq_zero hl
    subst this; simp
  | n + 1, o, hl, h => by
    have hn := h n (Nat.lt_succ_self _)
    have hp := List.perm_cons_erase hn
    have h1 := perm_cover (n := n) (o := o.erase (n : Int)) (by rw [List.length_erase_of_mem hn]; omega) (fun k hk => (List.mem_erase_of_ne (by omega)).2 (h k (by omega)))
    refine ⟨hp.nodup_iff.2 (List.nodup_cons.2 ⟨fun hm => ?_, h1.1⟩), fun a ha => ?_⟩
    · have := h1.2 _ hm; omega
    · rcases List.mem_cons.1 (hp.mem_iff.1 ha) with e | e
      · omega
      · have := h1.2 a e; omega
def okO (n : Nat) (o : List Int) : Bool := decide (o.length = n ∧ (∀ a ∈ o, 0 ≤ a ∧ a < (n : Int)) ∧ o.Nodup)
theorem okO_iff {n : Nat} {o : List Int} : okO n o = true ↔ PermO n o := by
  unfold okO
  rw [decide_eq_true_eq]
  exact ⟨fun ⟨a, b, c⟩ => ⟨a, b, c⟩, fun p => ⟨p.len, p.node, p.nodup⟩⟩
def atO (o : List Int) (t : Int) : Nat := o.findIdx fun x => decide (x = t)
theorem atO_lt {o : List Int} {t : Int} (h : t ∈ o) : atO o t < o.length := List.findIdx_lt_length_of_exists ⟨t, h, by simp⟩
theorem atO_get {o : List Int} {t : Int} (h : t ∈ o) : o[atO o t]'(atO_lt h) = t := by
  have := List.findIdx_getElem (xs := o) (p := fun x => decide (x = t)) (w := atO_lt h)
  exact of_decide_eq_true this
theorem nd_inj {o : List Int} (hd : o.Nodup) {i j : Nat} (hi : i < o.length) (hj : j < o.length) (he : o[i] = o[j]) : i = j := by
  have hp := List.pairwise_iff_getElem.1 hd
  rcases Nat.lt_trichotomy i j with h | h | h
  · exact absurd he (hp i j hi hj h)
  · exact h
  · exact absurd he.symm (hp j i hj hi h)
theorem atO_at {o : List Int} (hd : o.Nodup) {k : Nat} (hk : k < o.length) : atO o o[k] = k := by
  have h1 := atO_get (List.getElem_mem hk)
  exact nd_inj hd _ _ h1
theorem not_in_take {o : List Int} (hd : o.Nodup) {k : Nat} (hk : k < o.length) : o[k] ∉ o.take k := fun hm => by
  obtain ⟨j, hj, he⟩ := List.mem_iff_getElem.1 hm
  rw [List.getElem_take] at he
  have hj' : j < k := by simp at hj; omega
  have := nd_inj hd _ hk he
  omega
theorem mem_take_succ {o : List Int} {k : Nat} (hk : k < o.length) {a : Int} : a ∈ o.take (k + 1) ↔ a ∈ o.take k ∨ a = o[k] := by
  rw [List.take_succ_eq_append_getElem hk, List.mem_append, List.mem_singleton]

def arT {α : Type} (N : Nat) (F : Nat → α) : List α := (List.range N).map F
section
variable {α : Type} {N : Nat}
@[simp] theorem arT_len (F : Nat → α) : (arT N F).length = N := by simp [arT]
theorem arT_ext {F G : Nat → α} (h : ∀ x, x < N → F x = G x) : arT N F = arT N G := List.map_congr_left fun x hx => h x (List.mem_range.1 hx)
theorem arT_get (F : Nat → α) {y : Nat} (h : y < N) : (arT N F)[y]? = some (F y) := by simp [arT, h]
theorem arT_idx (F : Nat → α) {y : Nat} (h : y < N) : Sh.idx (arT N F) (y : Int) = some (F y) := by
  unfold Sh.idx
  rw [if_pos (by omega), Int.toNat_natCast, arT_get F h]
theorem arT_aidx (F : Nat → α) {y : Nat} (h : y < N) : Sh.aidx N (arT N F) (y : Int) = some (F y) := by
  unfold Sh.aidx
  rw [if_pos (arT_len F), arT_idx F h]
theorem arT_set (F : Nat → α) {y : Nat} (c : α) : Sh.set (arT N F) (y : Int) c = arT N fun x => if x = y then c else F x := by
  rw [set_at]
  apply List.ext_getElem? fun i => ?_
  rw [List.getElem?_set]
  by_cases hi : i < N
  · rw [arT_get _ hi]
    by_cases e : y = i
    · subst e; rw [if_pos rfl, arT_len, if_pos hi, arT_get _ hi, if_pos rfl]
    · rw [if_neg e, arT_get _ hi, if_neg (Ne.symm e)]
  · have h1 : (arT N F)[i]? = none := List.getElem?_eq_none (by simp; omega)
    have h2 : (arT N fun x => if x = y then c else F x)[i]? = none := List.getElem?_eq_none (by simp; omega)
    rw [h1, h2]
    split <;> simp; omega
theorem arT_zero (c : α) : List.replicate N c = arT N (fun _ => c) := by
  apply List.ext_getElem (by simp) fun i h1 h2 => by simp [arT]
end

theorem scanV {σ α : Type} {b : σ → Option (σ ⊕ α)} (S : Nat → σ) (m : Nat) (p : Nat → Bool) (A B : Option α) (hm : m < Sh.FUEL) (h : ∀ k, k < m → (∀ j, j < k → p j = true) → b (S k) = if p k then some (.inl (S (k + 1))) else Sh.exit B) (hr : (∀ j, j < m → p j = true) → b (S m) = Sh.exit A) {s : σ} (hs : s = S 0) :
    Sh.loop b s = if ∀ k, k < m → p k = true then A else B := by
  subst hs
  by_cases hall : ∀ k, k < m → p k = true
  · rw [if_pos hall]
    exact run_exit S m A hm (fun k hk => by rw [h k hk (fun j hj => hall j (by omega)), if_pos (hall k hk)]) (hr hall) rfl
  · rw [if_neg hall]
    have hex : ∃ k, k < m ∧ p k = false := by
      apply Classical.byContradiction
      intro hn
      exact hall fun k hk => by
        cases hp : p k with
        | true => rfl
        | false => exact absurd ⟨k, hk, hp⟩ hn
    obtain ⟨k, ⟨hk, hp⟩, hmin⟩ := exists_least _ hex
    have hb : ∀ j, j < k → p j = true := fun j hj => by
      cases hp : p j with
      | true => rfl
      | false => have := hmin j ⟨by omega, hp⟩; omega
    exact run_exit S k B (by omega) (fun j hj => by rw [h j (by omega) (fun i hi => hb i (by omega)), if_pos (hb j hj)]) (by rw [h k hk hb, hp]; rfl) rfl

theorem right_len {h : G.api_Hist} (hr : right h = true) : h.Txns.length ≤ 32 := by
  simp only [right, Bool.and_eq_true, decide_eq_true_eq] at hr; exact hr.1
theorem right_at {h : G.api_Hist} (hr : right h = true) {t : Nat} (ht : t < h.Txns.length) : okT h (t : Int) (tx h t) = true := by
  simp only [right, Bool.and_eq_true] at hr
  have h2 := hr.2
  rw [okAll_iff, decide_eq_true_eq] at h2
  have := h2 t ht
  have e : tx h (t : Int) = h.Txns[t] := by simp [tx, ht]
  rw [e]
  simpa using this
theorem climbs_ge {α : Type} {key : α → Int} {ok : α → Bool} : ∀ {l : List α} {last : Int}, climbs key ok last l = true → ∀ x ∈ l, last < key x ∧ key x < 16
  | [], _, _, x, hx => by simp at hx
  | y :: l, last, h, x, hx => by
    simp only [climbs, Bool.and_eq_true, decide_eq_true_eq] at h
    rcases List.mem_cons.1 hx with e | e
    · subst e; exact ⟨h.1.1.1, h.1.1.2⟩
    · have := climbs_ge h.2 x e
      have := h.1.1.1
      omega
theorem write_key {h : G.api_Hist} (hr : right h = true) {t : Nat} (ht : t < h.Txns.length) : ∀ w ∈ (tx h t).Writes, 0 ≤ w ∧ w < 16 := fun w hw => by
  have h1 := right_at hr ht
  simp only [okT, Bool.and_eq_true] at h1
  have h2 := h1.1.1.1
  rw [rising_eq] at h2
  have := climbs_ge h2 w hw
  simp only [id] at this
  omega
theorem read_key {h : G.api_Hist} (hr : right h = true) {t : Nat} (ht : t < h.Txns.length) : ∀ r ∈ (tx h t).Reads, 0 ≤ r.Key ∧ r.Key < 16 := fun r hw => by
  have h1 := right_at hr ht
  simp only [okT, Bool.and_eq_true] at h1
  have h2 := h1.1.1.2
  rw [takes_eq] at h2
  have := climbs_ge h2 r hw
  omega
theorem sess_key {h : G.api_Hist} (hr : right h = true) {t : Nat} (ht : t < h.Txns.length) : 0 ≤ (tx h t).Session ∧ (tx h t).Session < 8 := by
  have h1 := right_at hr ht
  simp only [okT, Bool.and_eq_true, decide_eq_true_eq] at h1
  exact ⟨h1.1.2, h1.2⟩
theorem idx_txn {h : G.api_Hist} {t : Nat} (ht : t < h.Txns.length) : Sh.idx h.Txns (t : Int) = some (tx h t) := idx_tx (inr_iff.2 ⟨by omega, by omega⟩)
theorem txn_in {h : G.api_Hist} {t : Nat} (ht : t < h.Txns.length) : tx h t ∈ h.Txns := tx_mem (inr_iff.2 ⟨by omega, by omega⟩)
theorem hasW_iff {t : G.api_Txn} {k : Int} : hasW t k = true ↔ k ∈ t.Writes := by simp [hasW]

def lastW (h : G.api_Hist) (o : List Int) (key : Int) : Int := (o.reverse.find? fun t => hasW (tx h t) key).getD (-1)
theorem lastW_snoc {h : G.api_Hist} {o : List Int} {t key : Int} : lastW h (o ++ [t]) key = if hasW (tx h t) key then t else lastW h o key := by
  unfold lastW
  rw [List.reverse_append, List.reverse_singleton, List.singleton_append, List.find?_cons]
  cases hasW (tx h t) key <;> rfl
theorem lastW_cases {h : G.api_Hist} {key : Int} : ∀ {o : List Int}, (lastW h o key = -1 ∧ ∀ t ∈ o, hasW (tx h t) key = false) ∨ (lastW h o key ∈ o ∧ hasW (tx h (lastW h o key)) key = true) := by
  intro o
  unfold lastW
  cases hf : o.reverse.find? fun t => hasW (tx h t) key with
  | none =>
    left
    rw [List.find?_eq_none] at hf
    exact ⟨rfl, fun t ht => by simpa using hf t (List.mem_reverse.2 ht)⟩
  | some t =>
    right
    exact ⟨List.mem_reverse.1 (List.mem_of_find?_eq_some hf), by simpa using List.find?_some hf⟩
theorem lastW_bound {h : G.api_Hist} {o : List Int} {n : Nat} (hp : ∀ a ∈ o, 0 ≤ a ∧ a < (n : Int)) (key : Int) : -1 ≤ lastW h o key ∧ lastW h o key < (n : Int) := by
  rcases lastW_cases (h := h) (key := key) (o := o) with ⟨h1, _⟩ | ⟨h1, _⟩
  · rw [h1]; omega
  · have := hp _ h1; omega
def playT (h : G.api_Hist) (o : List Int) (t : Int) : List G.api_Take := (tx h t).Reads.map fun r => ⟨r.Key, lastW h (o.take (atO o t)) r.Key⟩
def playL (h : G.api_Hist) (o : List Int) : List (List G.api_Take) := arT h.Txns.length fun t : Nat => playT h o t

theorem pSRight {h : G.api_Hist} (hf : Fits h) (o : List Int) : G.ser_right h o = some (right h && okO h.Txns.length o) := by
  unfold G.ser_right
  rw [pRight hf]
  simp only [Option.bind_some]
  cases hr : right h with
  | false => rfl
  | true =>
    have hn := right_len hr
    simp only [Bool.not_true, Bool.false_eq_true, if_false, Bool.true_and]
    by_cases hl : o.length = h.Txns.length
    · have h1 : ¬ (Sh.len o) ≠ (Sh.len h.Txns) := by simp only [Sh.len]; omega
      rw [decide_eq_false h1]
      simp only [G.ser_right_j1, Bool.false_eq_true, if_false]
      rw [scanV (fun k => (arT 32 (fun x : Nat => decide ((x : Int) ∈ o.take k)), (k : Int))) o.length (fun k => match o[k]? with | some a => decide (0 ≤ a ∧ a < (o.length : Int) ∧ a ∉ o.take k) | none => true) (some true) (some false) (fuel_gt (by omega)) (fun k hk hall => ?_) (fun _ => ?_) (by rw [arT_zero]; simp)]
      · have e : (if ∀ k, k < o.length → (match o[k]? with | some a => decide (0 ≤ a ∧ a < (o.length : Int) ∧ a ∉ o.take k) | none => true) = true then some true else some false) = some (decide (∀ k, k < o.length → (match o[k]? with | some a => decide (0 ≤ a ∧ a < (o.length : Int) ∧ a ∉ o.take k) | none => true) = true)) := by
          split
          · rename_i hq; rw [decide_eq_true hq]
          · rename_i hq; rw [decide_eq_false hq]
        rw [e]
        congr 1
        rw [Bool.eq_iff_iff, decide_eq_true_eq, okO_iff]
        constructor
        · intro hq
          have hq' : ∀ k (hk : k < o.length), 0 ≤ o[k] ∧ o[k] < (o.length : Int) ∧ o[k] ∉ o.take k := fun k hk => by
            have := hq k hk
            simpa only [List.getElem?_eq_getElem hk, decide_eq_true_eq] using this
          refine ⟨hl, fun a ha => ?_, ?_⟩
          · obtain ⟨k, hk, rfl⟩ := List.mem_iff_getElem.1 ha
            have := hq' k hk; omega
          · rw [List.Nodup, List.pairwise_iff_getElem]
            intro i j hi hj hij he
            refine (hq' j hj).2.2 (List.mem_iff_getElem.2 ⟨i, by simp; omega, ?_⟩)
            rw [List.getElem_take]; exact he
        · intro p k hk
          simp only [List.getElem?_eq_getElem hk, decide_eq_true_eq]
          have := p.node _ (List.getElem_mem hk)
          exact ⟨this.1, by rw [p.len]; exact this.2, not_in_take p.nodup hk⟩
      · have hk32 : k < 32 := by omega
        simp only [G.ser_right_b1, dec_lt, hk, decide_true, if_true, idx_at hk, Option.bind_some, List.getElem?_eq_getElem hk]
        by_cases h0 : o[k] < 0
        · have : ¬ (0 ≤ o[k] ∧ o[k] < (o.length : Int) ∧ o[k] ∉ o.take k) := fun hq => by omega
          rw [decide_eq_true h0, decide_eq_false this]; rfl
        · by_cases h2 : (Sh.len o) ≤ o[k]
          · have : ¬ (0 ≤ o[k] ∧ o[k] < (o.length : Int) ∧ o[k] ∉ o.take k) := fun hq => by simp only [Sh.len] at h2; omega
            rw [decide_eq_false h0, decide_eq_true h2, decide_eq_false this]; rfl
          · simp only [Sh.len] at h2
            obtain ⟨y, hy⟩ : ∃ y : Nat, o[k] = (y : Int) := ⟨o[k].toNat, by omega⟩
            have hy32 : y < 32 := by omega
            have h3 : ¬ (o.length : Int) ≤ (y : Int) := by omega
            have h4 : ¬ (y : Int) < 0 := by omega
            simp only [hy, h4, h3, decide_false, Bool.false_eq_true, if_false, arT_aidx _ hy32, Option.bind_some, G.ser_right_j3, Sh.len]
            by_cases hm : (y : Int) ∈ o.take k
            · have : ¬ (0 ≤ (y : Int) ∧ (y : Int) < (o.length : Int) ∧ (y : Int) ∉ o.take k) := fun hq => hq.2.2 hm
              rw [decide_eq_true hm, decide_eq_false this]; rfl
            · have : (0 ≤ (y : Int) ∧ (y : Int) < (o.length : Int) ∧ (y : Int) ∉ o.take k) := ⟨by omega, by omega, hm⟩
              rw [decide_eq_false hm, decide_eq_true this]
              simp only [Bool.false_eq_true, if_false, if_true, Sh.next, w64_succ (show k < 9223372036854775807 by omega), arT_set]
              congr 3
              refine arT_ext fun x _ => ?_
              by_cases hx : x = y
              · subst hx
                rw [if_pos rfl, decide_eq_true ((mem_take_succ hk).2 (.inr hy.symm))]
              · rw [if_neg hx]
                congr 1
                refine propext ⟨fun hq => (mem_take_succ hk).2 (.inl hq), fun hq => ?_⟩
                rcases (mem_take_succ hk).1 hq with hq | hq
                · exact hq
                · omega
      · simp [G.ser_right_b1, G.ser_right_j2, Sh.exit]
    · have h1 : (Sh.len o) ≠ (Sh.len h.Txns) := by simp only [Sh.len]; omega
      have h2 : okO h.Txns.length o = false := by
        cases hq : okO h.Txns.length o with
        | false => rfl
        | true => exact absurd (okO_iff.1 hq).len hl
      rw [decide_eq_true h1, h2]; rfl
end Pl
end

section
/- What the program and the reference play, and whether an order shows a history to be serializable. -/
namespace Pl
open Go Go.Av

def lastF (h : G.api_Hist) (o : List Int) (k : Nat) (y : Nat) : Int := lastW h (o.take k) y + 1
def lastR (h : G.api_Hist) (o : List Int) (t : Nat) (k i : Nat) (y : Nat) : Int := if (y : Int) ∈ (tx h t).Writes.take i then (t : Int) + 1 else lastF h o k y
def outR (h : G.api_Hist) (o : List Int) (t : Nat) (k i : Nat) : List (List G.api_Take) := arT h.Txns.length fun x : Nat => if x = t then (playT h o t).take i else if (x : Int) ∈ o.take k then playT h o x else []
def outF (h : G.api_Hist) (o : List Int) (k : Nat) : List (List G.api_Take) := arT h.Txns.length fun x : Nat => if (x : Int) ∈ o.take k then playT h o x else []
theorem playT_len {h : G.api_Hist} {o : List Int} {t : Int} : (playT h o t).length = (tx h t).Reads.length := by simp [playT]
theorem pPlay {h : G.api_Hist} (hf : Fits h) (hb : ∀ t ∈ h.Txns, t.Reads.length ≤ 1000000) (o : List Int) : G.ser_Play h o = some (if right h && okO h.Txns.length o then playL h o else []) := by
  unfold G.ser_Play
  rw [pSRight hf o]
  simp only [Option.bind_some]
  cases hq : (right h && okO h.Txns.length o) with
  | false => rfl
  | true =>
    simp only [Bool.and_eq_true] at hq
    obtain ⟨hr, hok⟩ := hq
    have p := okO_iff.1 hok
    have hn := right_len hr
    simp only [Bool.not_true, Bool.false_eq_true, if_false, if_true]
    rw [show Sh.len o = ((h.Txns.length : Nat) : Int) by simp only [Sh.len, p.len], mk_ok (by omega) (by omega)]
    simp only [Option.bind_some]
    refine run_exit (fun k => (arT 16 (lastF h o k), outF h o k, (k : Int))) h.Txns.length _ (fuel_gt (by omega)) (fun k hk => ?_) ?_ ?_
    · have hko : k < o.length := by rw [p.len]; exact hk
      obtain ⟨t, ht⟩ : ∃ t : Nat, o[k] = (t : Int) := ⟨o[k].toNat, by have := p.node _ (List.getElem_mem hko); omega⟩
      have htn : t < h.Txns.length := by have := p.node _ (List.getElem_mem hko); omega
      have hat : atO o t = k := by rw [← ht]; exact atO_at p.nodup hko
      have hnin : (t : Int) ∉ o.take k := by rw [← ht]; exact not_in_take p.nodup hko
      have hbd := hb _ (txn_in htn)
      have hfr := hf.reads _ (txn_in htn)
      have hfw := hf.writes _ (txn_in htn)
      simp only [G.ser_Play_b1, show Sh.len o = ((o.length : Nat) : Int) from rfl, dec_lt, hko, decide_true, if_true, idx_at hko, ht, Option.bind_some, idx_txn htn]
      refine run_exit (fun i => (outR h o t k i, (i : Int))) (tx h t).Reads.length _ (fuel_gt (by omega)) (fun i hi => ?_) ?_ ?_
      · have hkey := read_key hr htn _ (List.getElem_mem hi)
        obtain ⟨y, hy⟩ : ∃ y : Nat, (tx h t).Reads[i].Key = (y : Int) := ⟨(tx h t).Reads[i].Key.toNat, by omega⟩
        have hy16 : y < 16 := by omega
        have hb1 := lastW_bound (h := h) (o := o.take k) (fun a ha => p.node a (List.mem_of_mem_take ha)) (y : Int)
        have hrow : Sh.idx (outR h o t k i) (t : Int) = some ((playT h o t).take i) := by
          unfold outR; rw [arT_idx _ htn, if_pos rfl]
        have hpl : (playT h o t).take i ++ [⟨(tx h t).Reads[i].Key, w64 (lastF h o k y - 1)⟩] = (playT h o t).take (i + 1) := by
          have hi' : i < (playT h o t).length := by rw [playT_len]; exact hi
          rw [List.take_succ_eq_append_getElem hi']
          congr 2
          simp only [playT, List.getElem_map, hat, hy, lastF]
          congr 1
          rw [w64_id (by omega) (by omega)]; omega
        simp only [G.ser_Play_b3, dec_lt, hi, decide_true, if_true, idx_at hi, Option.bind_some, hrow, hy, arT_aidx _ hy16]
        rw [← hy, app_ok (by simp only [List.length_take, List.length_cons, List.length_nil]; omega)]
        simp only [Option.bind_some, Sh.next, w64_succ (show i < 9223372036854775807 by omega), hpl]
        congr 3
        unfold outR
        rw [arT_set]
        refine arT_ext fun x _ => ?_
        by_cases hx : x = t
        · rw [if_pos hx, if_pos hx]
        · rw [if_neg hx, if_neg hx, if_neg hx]
      · simp only [G.ser_Play_b3, dec_lt, Nat.lt_irrefl, decide_false, Bool.false_eq_true, if_false]
        have hj3 : G.ser_Play_j3 h (arT 16 (lastF h o k)) (k : Int) (t : Int) (outR h o t k (tx h t).Reads.length) = some (.inl (arT 16 (lastF h o (k + 1)), outF h o (k + 1), ((k + 1 : Nat) : Int))) := by
          unfold G.ser_Play_j3
          simp only [idx_txn htn, Option.bind_some]
          refine run_exit (fun i => (arT 16 (lastR h o t k i), (i : Int))) (tx h t).Writes.length _ (fuel_gt (by omega)) (fun i hi => ?_) ?_ ?_
          · have hkey := write_key hr htn _ (List.getElem_mem hi)
            obtain ⟨y, hy⟩ : ∃ y : Nat, (tx h t).Writes[i] = (y : Int) := ⟨(tx h t).Writes[i].toNat, by omega⟩
            have hy16 : y < 16 := by omega
            simp only [G.ser_Play_b2, dec_lt, hi, decide_true, if_true, idx_at hi, hy, Option.bind_some, arT_aidx _ hy16, Sh.next, w64_succ (show i < 9223372036854775807 by omega), arT_set]
            congr 3
            refine arT_ext fun x _ => ?_
            unfold lastR
            by_cases hx : x = y
            · subst hx
              rw [if_pos rfl, if_pos ((mem_take_succ hi).2 (.inr hy.symm)), w64_id (by omega) (by omega)]
            · rw [if_neg hx]
              have : ((x : Int) ∈ (tx h t).Writes.take i) ↔ ((x : Int) ∈ (tx h t).Writes.take (i + 1)) := by
                rw [mem_take_succ hi, hy]
                exact ⟨.inl, fun hq => hq.resolve_right (fun e => hx (by omega))⟩
              simp only [this]
          · simp only [G.ser_Play_b2, dec_lt, Nat.lt_irrefl, decide_false, Bool.false_eq_true, if_false, G.ser_Play_j2, Sh.next, w64_succ (show k < 9223372036854775807 by omega)]
            congr 4
            · refine arT_ext fun x _ => ?_
              unfold lastR lastF
              rw [List.take_length, List.take_succ_eq_append_getElem hko, lastW_snoc, ht]
              by_cases hw : (x : Int) ∈ (tx h t).Writes
              · rw [if_pos hw, hasW_iff.2 hw, if_pos rfl]
              · have : hasW (tx h t) x = false := by
                  cases hq : hasW (tx h t) x with
                  | false => rfl
                  | true => exact absurd (hasW_iff.1 hq) hw
                rw [if_neg hw, this]; rfl
            · unfold outR outF
              congr 1
              refine arT_ext fun x _ => ?_
              rw [← playT_len (o := o), List.take_length]
              by_cases hx : x = t
              · subst hx; rw [if_pos rfl, if_pos ((mem_take_succ hko).2 (.inr ht.symm))]
              · rw [if_neg hx]
                have : ((x : Int) ∈ o.take k) ↔ ((x : Int) ∈ o.take (k + 1)) := by
                  rw [mem_take_succ hko, ht]
                  exact ⟨.inl, fun hq => hq.resolve_right (fun e => hx (by omega))⟩
                simp only [this]
          · rfl
        rw [hj3]
      · congr 1
        unfold outF outR
        refine arT_ext fun x _ => ?_
        by_cases hx : x = t
        · subst hx; rw [if_pos rfl, if_neg hnin]; simp
        · rw [if_neg hx]
    · simp only [G.ser_Play_b1, show Sh.len o = ((o.length : Nat) : Int) from rfl, p.len, dec_lt, Nat.lt_irrefl, decide_false, Bool.false_eq_true, if_false, G.ser_Play_j1]
      congr 2
      unfold playL outF
      refine arT_ext fun x hx => ?_
      rw [← p.len, List.take_length, if_pos (p.all hx)]
    · rw [arT_zero, arT_zero]; rfl

theorem pEqT {a b : List G.api_Take} (ha : a.length < 9223372036854775807) : G.slices_Equal_api_Take_api_Take a b = some (decide (a = b)) := by
  unfold G.slices_Equal_api_Take_api_Take
  by_cases hl : a.length = b.length
  · have h1 : ¬ (Sh.len a) ≠ (Sh.len b) := by simp only [Sh.len]; omega
    rw [decide_eq_false h1]
    simp only [Bool.false_eq_true, if_false]
    rw [scan_true (b := fun (p : Int) => G.slices_Equal_api_Take_api_Take_b1 a b p) a.length (fun i => decide (a[i]? = b[i]?)) (fuel_gt (by omega)) (fun k hk => ?_) ?_]
    · congr 1
      refine decide_eq_decide.2 ⟨fun h => List.ext_getElem? fun i => ?_, fun h i _ => by rw [h]; exact decide_eq_true rfl⟩
      by_cases hi : i < a.length
      · simpa using h i hi
      · rw [List.getElem?_eq_none (by omega), List.getElem?_eq_none (by omega)]
    · simp [G.slices_Equal_api_Take_api_Take_b1, G.slices_Equal_api_Take_api_Take_j1, Sh.exit]
    · have hk2 : k < b.length := by omega
      simp only [G.slices_Equal_api_Take_api_Take_b1, dec_lt, hk, decide_true, if_true, idx_at hk, idx_at hk2, Option.bind_some, w64_succ (show k < 9223372036854775807 by omega), List.getElem?_eq_getElem hk, List.getElem?_eq_getElem hk2, Option.some.injEq]
      by_cases he : a[k] = b[k] <;> simp [he, Sh.exit, Sh.next]
  · have h1 : (Sh.len a) ≠ (Sh.len b) := by simp only [Sh.len]; omega
    have h2 : ¬ a = b := fun e => hl (by rw [e])
    rw [decide_eq_true h1, decide_eq_false h2]; rfl
theorem rPlace {o : List Int} (ho : o.length ≤ 9223372036854775807) (t : Int) : G.inquestref18_place o t = some (pos o (fun x => decide (x = t))) := by
  unfold G.inquestref18_place
  rw [find_loop o (fun x => decide (x = t)) (fun k => (k : Int)) (some (-1)) (fuel_gt (by omega)) (fun k hk => ?_) ?_, pos_some]
  · simp [G.inquestref18_place_b1, G.inquestref18_place_j1]
  · simp only [G.inquestref18_place_b1, dec_lt, hk, decide_true, if_true, idx_at hk, Option.bind_some, w64_succ (show k < 9223372036854775807 by omega)]
    rfl
theorem pos_mem {o : List Int} {t : Int} : (0 ≤ pos o (fun x => decide (x = t))) ↔ t ∈ o := by
  have h := contains_of_find o (fun x => decide (x = t))
  rw [Bool.eq_iff_iff, decide_eq_true_eq, List.any_eq_true] at h
  rw [h]
  exact ⟨fun ⟨x, h1, h2⟩ => by rw [← of_decide_eq_true h2]; exact h1, fun h => ⟨t, h, decide_eq_true rfl⟩⟩
theorem rPerm {n : Nat} (hn : n ≤ 9223372036854775807) (o : List Int) : G.inquestref18_Perm o (n : Int) = some (okO n o) := by
  unfold G.inquestref18_Perm
  by_cases hl : o.length = n
  · have h1 : ¬ (Sh.len o) ≠ (n : Int) := by simp only [Sh.len]; omega
    rw [decide_eq_false h1]
    simp only [Bool.false_eq_true, if_false]
    rw [scan_true (b := fun (p : Int) => G.inquestref18_Perm_b1 o n p) n (fun i => decide ((i : Int) ∈ o)) (fuel_gt (by omega)) (fun k hk => ?_) ?_]
    · congr 1
      rw [Bool.eq_iff_iff, decide_eq_true_eq, okO_iff]
      constructor
      · intro hq
        have := perm_cover hl (fun k hk => of_decide_eq_true (hq k hk))
        exact ⟨hl, this.2, this.1⟩
      · intro p k hk
        exact decide_eq_true (p.all hk)
    · simp [G.inquestref18_Perm_b1, G.inquestref18_Perm_j1, Sh.exit]
    · simp only [G.inquestref18_Perm_b1, dec_lt, hk, decide_true, if_true, rPlace (o := o) (by omega), Option.bind_some, w64_succ (show k < 9223372036854775807 by omega)]
      by_cases hp : (k : Int) ∈ o
      · have : ¬ pos o (fun x => decide (x = (k : Int))) < 0 := by have := pos_mem.2 hp; omega
        rw [decide_eq_false this, decide_eq_true hp]; rfl
      · have : pos o (fun x => decide (x = (k : Int))) < 0 := by
          have h2 : ¬ 0 ≤ pos o (fun x => decide (x = (k : Int))) := fun h => hp (pos_mem.1 h)
          omega
        rw [decide_eq_true this, decide_eq_false hp]; rfl
  · have h1 : (Sh.len o) ≠ (n : Int) := by simp only [Sh.len]; omega
    have h2 : okO n o = false := by
      cases hq : okO n o with
      | false => rfl
      | true => exact absurd (okO_iff.1 hq).len hl
    rw [decide_eq_true h1, h2]; rfl
end Pl
end

section
/- The statements of layer 20, in plain words: each answers true. -/
namespace Pl
open Go Go.Av

def sOK (h : G.api_Hist) (a b : Int) : Prop := ¬ (b < a ∧ (tx h a).Session = (tx h b).Session)
instance (h : G.api_Hist) (a b : Int) : Decidable (sOK h a b) := by unfold sOK; infer_instance
def sessB (h : G.api_Hist) (o : List Int) : Bool := decide (o.Pairwise (sOK h))
theorem sess_iff {h : G.api_Hist} {o : List Int} : sessB h o = true ↔ ∀ (k i : Nat) (hk : k < i) (hi : i < o.length), sOK h (o[k]'(by omega)) o[i] := by
  unfold sessB
  rw [decide_eq_true_eq, List.pairwise_iff_getElem]
  exact ⟨fun q k i hk hi => q k i (by omega) hi hk, fun q k i hk hi hki => q k i hki hi⟩
def lastS (h : G.api_Hist) (o : List Int) (s : Int) : Int := match o.reverse.find? fun t => decide ((tx h t).Session = s) with | some t => t + 1 | none => 0
theorem lastS_snoc {h : G.api_Hist} {o : List Int} {t s : Int} : lastS h (o ++ [t]) s = if (tx h t).Session = s then t + 1 else lastS h o s := by
  unfold lastS
  rw [List.reverse_append, List.reverse_singleton, List.singleton_append, List.find?_cons]
  by_cases hs : (tx h t).Session = s
  · simp [hs]
  · simp [hs]
theorem sess_step {h : G.api_Hist} : ∀ {o : List Int}, o.Nodup → (∀ a ∈ o, 0 ≤ a) → ((∀ k (hk : k < o.length), lastS h (o.take k) (tx h o[k]).Session ≤ o[k]) ↔ o.Pairwise (sOK h)) := by
  intro o hd hpos
  constructor
  · intro q
    have key : ∀ i (hi : i < o.length), ∀ k (hk : k < i), (tx h (o[k]'(by omega))).Session = (tx h o[i]).Session → o[k]'(by omega) < o[i] := by
      intro i
      induction i using Nat.strongRecOn with
      | ind i ih =>
        intro hi k hk hs
        have h1 := q i hi
        -- the last one of that session
        have key2 : ∀ (m : Nat) (hm : m ≤ i), (∃ k, ∃ hk : k < m, (tx h (o[k]'(by omega))).Session = (tx h o[i]).Session) → ∃ j, ∃ hj : j < m, (tx h (o[j]'(by omega))).Session = (tx h o[i]).Session ∧ lastS h (o.take m) (tx h o[i]).Session = o[j]'(by omega) + 1 ∧ ∀ x (hx : x < m), j < x → (tx h (o[x]'(by omega))).Session ≠ (tx h o[i]).Session := by
          intro m
          induction m with
          | zero => intro _ ⟨k, hk, _⟩; omega
          | succ m ihm =>
            intro hm ⟨k, hk, hks⟩
            have hmo : m < o.length := by omega
            rw [List.take_succ_eq_append_getElem hmo, lastS_snoc]
            by_cases he : (tx h o[m]).Session = (tx h o[i]).Session
            · exact ⟨m, by omega, he, if_pos he, fun x hx hjx => by omega⟩
            · have hkm : k < m := by
                rcases Nat.lt_or_ge k m with hlt | hge
                · exact hlt
                · have : k = m := by omega
                  subst this; exact absurd hks he
              obtain ⟨j, hj, a1, a2, a3⟩ := ihm (by omega) ⟨k, hkm, hks⟩
              refine ⟨j, by omega, a1, by rw [if_neg he]; exact a2, fun x hx hjx => ?_⟩
              by_cases hxm : x = m
              · subst hxm; exact he
              · exact a3 x (by omega) hjx
        obtain ⟨j, hj, a1, a2, a3⟩ := key2 i (Nat.le_refl _) ⟨k, hk, hs⟩
        have hji : o[j]'(by omega) < o[i] := by rw [a2] at h1; omega
        rcases Nat.lt_trichotomy k j with c | c | c
        · have := ih j hj (by omega) k c (hs.trans a1.symm)
          omega
        · subst c; exact hji
        · exact absurd hs (a3 k hk c)
    rw [List.pairwise_iff_getElem]
    intro k i hk hi hki
    intro ⟨h1, h2⟩
    have := key i hi k hki h2
    omega
  · intro q k hk
    have hb : ∀ (m : Nat) (hm : m ≤ k), lastS h (o.take m) (tx h o[k]).Session ≤ o[k] ∨ (∀ x (hx : x < m), (tx h (o[x]'(by omega))).Session ≠ (tx h o[k]).Session) := by
      intro m
      induction m with
      | zero => intro _; right; intro x hx; omega
      | succ m ihm =>
        intro hm
        have hmo : m < o.length := by omega
        rw [List.take_succ_eq_append_getElem hmo, lastS_snoc]
        by_cases he : (tx h o[m]).Session = (tx h o[k]).Session
        · left
          rw [if_pos he]
          have h1 := List.pairwise_iff_getElem.1 q m k hmo hk (by omega)
          have h2 : o[m] ≠ o[k] := fun e => by have := nd_inj hd hmo hk e; omega
          have h3 : ¬ o[k] < o[m] := fun hlt => h1 ⟨hlt, he⟩
          omega
        · rw [if_neg he]
          rcases ihm (by omega) with c | c
          · exact .inl c
          · exact .inr fun x hx => by
              by_cases hxm : x = m
              · subst hxm; exact he
              · exact c x (by omega)
    by_cases h0 : ∃ x, ∃ hx : x < k, (tx h (o[x]'(by omega))).Session = (tx h o[k]).Session
    · obtain ⟨x, hx, hs⟩ := h0
      rcases hb k (Nat.le_refl _) with c | c
      · exact c
      · exact absurd hs (c x hx)
    · have hne : ∀ m, m ≤ k → lastS h (o.take m) (tx h o[k]).Session = 0 := by
        intro m
        induction m with
        | zero => intro _; rfl
        | succ m ihm =>
          intro hm
          have hmo : m < o.length := by omega
          rw [List.take_succ_eq_append_getElem hmo, lastS_snoc, if_neg (fun e => h0 ⟨m, by omega, e⟩)]
          exact ihm (by omega)
      rw [hne k (Nat.le_refl _)]
      exact hpos _ (List.getElem_mem hk)

def readsL (h : G.api_Hist) : List (List G.api_Take) := arT h.Txns.length fun t : Nat => (tx h t).Reads
def checkB (h : G.api_Hist) (o : List Int) : Bool := right h && okO h.Txns.length o && decide (playL h o = readsL h) && sessB h o
theorem arT_eq {α : Type} {N : Nat} {F G : Nat → α} : arT N F = arT N G ↔ ∀ x, x < N → F x = G x := by
  constructor
  · intro h x hx
    have := congrArg (fun l => l[x]?) h
    simpa [arT_get F hx, arT_get G hx] using this
  · exact arT_ext
theorem pCheck {h : G.api_Hist} (hf : Fits h) (hb : ∀ t ∈ h.Txns, t.Reads.length ≤ 1000000) (o : List Int) : G.ser_Check h o = some (checkB h o) := by
  unfold G.ser_Check checkB
  rw [pSRight hf o]
  simp only [Option.bind_some]
  cases hq : (right h && okO h.Txns.length o) with
  | false => rfl
  | true =>
    rw [pPlay hf hb o, hq]
    simp only [Bool.and_eq_true] at hq
    obtain ⟨hr, hok⟩ := hq
    have p := okO_iff.1 hok
    have hn := right_len hr
    have hpl := p.len
    simp only [Bool.not_true, Bool.false_eq_true, if_false, if_true, Option.bind_some, Bool.true_and]
    have hj1 : G.ser_Check_j1 h o = some (sessB h o) := by
      unfold G.ser_Check_j1
      rw [scanV (fun k => (arT 8 (fun x : Nat => lastS h (o.take k) x), (k : Int))) o.length (fun k => match o[k]? with | some a => decide (lastS h (o.take k) (tx h a).Session ≤ a) | none => true) (some true) (some false) (fuel_gt (by omega)) (fun k hk _ => ?_) (fun _ => ?_) (by rw [arT_zero]; rfl)]
      · have e := sess_step (h := h) p.nodup (fun a ha => (p.node a ha).1)
        unfold sessB
        by_cases hs : o.Pairwise (sOK h)
        · rw [decide_eq_true hs, if_pos (fun k hk => by
            simp only [List.getElem?_eq_getElem hk, decide_eq_true_eq]; exact e.2 hs k hk)]
        · rw [decide_eq_false hs, if_neg (fun q => hs (e.1 fun k hk => by
            have := q k hk
            simpa only [List.getElem?_eq_getElem hk, decide_eq_true_eq] using this))]
      · obtain ⟨t, ht⟩ : ∃ t : Nat, o[k] = (t : Int) := ⟨o[k].toNat, by have := p.node _ (List.getElem_mem hk); omega⟩
        have htn : t < h.Txns.length := by have := p.node _ (List.getElem_mem hk); omega
        have hs := sess_key hr htn
        obtain ⟨s, hse⟩ : ∃ s : Nat, (tx h t).Session = (s : Int) := ⟨(tx h t).Session.toNat, by omega⟩
        have hs8 : s < 8 := by omega
        simp only [G.ser_Check_b1, show Sh.len o = ((o.length : Nat) : Int) from rfl, dec_lt, hk, decide_true, if_true, idx_at hk, ht, Option.bind_some, idx_txn htn, hse, arT_aidx _ hs8, List.getElem?_eq_getElem hk]
        by_cases hlt : (t : Int) < lastS h (o.take k) s
        · have : ¬ lastS h (o.take k) s ≤ (t : Int) := by omega
          simp only [hlt, this, decide_true, decide_false, if_true, Bool.false_eq_true, if_false]
        · have : lastS h (o.take k) s ≤ (t : Int) := by omega
          simp only [hlt, this, decide_true, decide_false, if_true, Bool.false_eq_true, if_false, Sh.next, w64_succ (show k < 9223372036854775807 by omega), arT_set]
          congr 3
          refine arT_ext fun x _ => ?_
          rw [List.take_succ_eq_append_getElem hk, lastS_snoc, ht, hse, w64_id (by omega) (by omega)]
          by_cases hx : x = s
          · subst hx; rw [if_pos rfl, if_pos rfl]
          · rw [if_neg hx, if_neg (fun e => hx (by omega))]
      · simp [G.ser_Check_b1, G.ser_Check_j2, Sh.exit]
    rw [scanV (s := (0 : Int)) (fun k => (k : Int)) h.Txns.length (fun k => decide (playT h o (k : Nat) = (tx h (k : Nat)).Reads)) (some (sessB h o)) (some false) (fuel_gt (by omega)) (fun k hk _ => ?_) (fun _ => ?_) rfl]
    · by_cases he : playL h o = readsL h
      · have := arT_eq.1 he
        rw [decide_eq_true he, if_pos (fun k hk => decide_eq_true (this k hk))]; rfl
      · rw [decide_eq_false he, if_neg (fun q => he (arT_ext fun x hx => of_decide_eq_true (q x hx)))]; rfl
    · have hkl : k < (playL h o).length := by simp [playL, hk]
      have hrow : Sh.idx (playL h o) (k : Int) = some (playT h o k) := arT_idx _ hk
      have hbd := hb _ (txn_in hk)
      simp only [G.ser_Check_b2, dec_lt, hkl, decide_true, if_true, hrow, Option.bind_some, idx_txn hk, pEqT (a := playT h o k) (b := (tx h k).Reads) (by rw [playT_len]; omega), w64_succ (show k < 9223372036854775807 by omega)]
      cases decide (playT h o k = (tx h k).Reads) <;> rfl
    · have hkl : ¬ h.Txns.length < (playL h o).length := by simp [playL]
      simp only [G.ser_Check_b2, dec_lt, hkl, decide_false, Bool.false_eq_true, if_false, hj1]
theorem awake20 : G.inquestlaw20_awake = some true := by kernel_rfl
theorem few_reads {h : G.api_Hist} {m : Int} (hf : few h m = true) : ∀ t ∈ h.Txns, t.Reads.length ≤ 1000000 := fun t ht => by
  simp only [few, Bool.and_eq_true, decide_eq_true_eq, List.all_eq_true] at hf
  have := (hf.2 t ht).2; omega
theorem few_len {h : G.api_Hist} {m : Int} (hf : few h m = true) : (h.Txns.length : Int) ≤ m := by
  simp only [few, Bool.and_eq_true, decide_eq_true_eq] at hf; exact hf.1

def played (h : G.api_Hist) (o : List Int) : G.api_Hist := ⟨arT h.Txns.length fun t : Nat => ⟨(tx h t).Session, (tx h t).Writes, playT h o t⟩⟩
end Pl
end

section
/- Serializable in an order: the same as an order of its own graph. -/
namespace Pl
open Go Go.Av

theorem plc_at {o : List Int} {t : Int} (ht : t ∈ o) : plc o t = (atO o t : Int) := by
  unfold plc pos atO
  have hex : ∃ x ∈ o, (decide (x = t)) = true := ⟨t, ht, by simp⟩
  have hl : o.findIdx (fun x => decide (x = t)) < o.length := List.findIdx_lt_length_of_exists hex
  cases hf : o.findIdx? (fun x => decide (x = t)) with
  | none => rw [List.findIdx?_eq_none_iff] at hf; have := hf t ht; simp at this
  | some k =>
    rw [List.findIdx?_eq_some_iff_findIdx_eq] at hf
    simp only [Option.elim_some]; omega
theorem plc_mem {o : List Int} {t : Int} : 0 ≤ plc o t ↔ t ∈ o := by
  unfold plc; exact pos_mem
theorem perm_okO {o : List Int} {n : Nat} : permB o n = okO n o := by
  rw [Bool.eq_iff_iff, okO_iff]
  unfold permB
  simp only [Bool.and_eq_true, decide_eq_true_eq, List.all_eq_true, List.mem_range, plc_mem]
  constructor
  · rintro ⟨h1, h2⟩
    have := perm_cover h1 h2
    exact ⟨h1, this.2, this.1⟩
  · intro p
    exact ⟨p.len, fun k hk => p.all hk⟩
theorem lastW_at {h : G.api_Hist} {o : List Int} {key : Int} : ∀ m, m ≤ o.length → (lastW h (o.take m) key = -1 ∧ ∀ i (hi : i < o.length), i < m → hasW (tx h o[i]) key = false) ∨
    ∃ (j : Nat) (hj : j < o.length), j < m ∧ lastW h (o.take m) key = o[j] ∧ hasW (tx h o[j]) key = true ∧ ∀ i (hi : i < o.length), j < i → i < m → hasW (tx h o[i]) key = false := by
  intro m
  induction m with
  | zero => intro _; exact .inl ⟨rfl, fun i _ hi => by omega⟩
  | succ m ih =>
    intro hm
    have e : o.take (m + 1) = o.take m ++ [o[m]] := by
      rw [List.take_add_one, List.getElem?_eq_getElem (by omega), Option.toList_some]
    rw [e, lastW_snoc]
    cases hw : hasW (tx h o[m]) key with
    | true =>
      rw [if_pos rfl]
      exact .inr ⟨m, by omega, by omega, rfl, hw, fun i _ h1 h2 => by omega⟩
    | false =>
      rw [if_neg (by simp)]
      rcases ih (by omega) with ⟨h1, h2⟩ | ⟨j, hj, h1, h2, h3, h4⟩
      · refine .inl ⟨h1, fun i hi him => ?_⟩
        by_cases hc : i = m
        · subst hc; exact hw
        · exact h2 i hi (by omega)
      · refine .inr ⟨j, hj, by omega, h2, h3, fun i hi hji him => ?_⟩
        by_cases hc : i = m
        · subst hc; exact hw
        · exact h4 i hi hji (by omega)

def chs (h : G.api_Hist) (o : List Int) : List G.api_Choice := (pairs h).map (turnC o)
theorem one_in {h : G.api_Hist} {c : G.api_Choice} (hc : one h c = true) : c.A ≠ c.B ∧ (0 ≤ c.A ∧ c.A < h.Txns.length) ∧ (0 ≤ c.B ∧ c.B < h.Txns.length) ∧ hasW (tx h c.A) c.Key = true ∧ hasW (tx h c.B) c.Key = true := by
  unfold one at hc
  simp only [Bool.and_eq_true, decide_eq_true_eq, inr_iff] at hc
  exact ⟨hc.1.1.1.1, hc.1.1.1.2, hc.1.1.2, hc.1.2, hc.2⟩
theorem PermO.mem {n : Nat} {o : List Int} (p : PermO n o) {t : Int} (h : 0 ≤ t ∧ t < n) : t ∈ o := by
  have := p.all (k := t.toNat) (by omega)
  rwa [show ((t.toNat : Nat) : Int) = t by omega] at this
theorem chs_one {h : G.api_Hist} (hr : right h = true) {o : List Int} {c : G.api_Choice} (hc : c ∈ chs h o) : one h c = true := by
  obtain ⟨d, hd, rfl⟩ := List.mem_map.1 hc
  have := pairs_one hr hd
  unfold turnC
  split
  · exact one_back this
  · exact this
theorem at_inj {o : List Int} {a b : Int} (ha : a ∈ o) (hb : b ∈ o) (e : atO o a = atO o b) : a = b := by
  have h1 := atO_get ha
  have h2 := atO_get hb
  exact h1.symm.trans ((getElem_congr_idx e).trans h2)
theorem chs_lt {h : G.api_Hist} (hr : right h = true) {o : List Int} (p : PermO h.Txns.length o) {c : G.api_Choice} (hc : c ∈ chs h o) : atO o c.A < atO o c.B := by
  obtain ⟨d, hd, rfl⟩ := List.mem_map.1 hc
  obtain ⟨h1, h2, h3, _, _⟩ := one_in (pairs_one hr hd)
  have hA := p.mem h2
  have hB := p.mem h3
  have hne : atO o d.A ≠ atO o d.B := fun e => h1 (at_inj hA hB e)
  unfold turnC
  rw [plc_at hA, plc_at hB]
  split
  · simp only [back]; omega
  · omega
theorem chs_all {h : G.api_Hist} (hr : right h = true) {o : List Int} (p : PermO h.Txns.length o) {c : G.api_Choice} (hc : one h c = true) (hlt : atO o c.A < atO o c.B) : c ∈ chs h o := by
  obtain ⟨h1, h2, h3, _, _⟩ := one_in hc
  have hA := p.mem h2
  have hB := p.mem h3
  rcases pairs_all hr hc with hm | hm
  · refine List.mem_map.2 ⟨_, hm, ?_⟩
    unfold turnC
    rw [plc_at hA, plc_at hB, if_neg (by omega)]
  · refine List.mem_map.2 ⟨_, hm, ?_⟩
    have e : plc o (back c).B < plc o (back c).A := by
      show plc o c.A < plc o c.B
      rw [plc_at hA, plc_at hB]; omega
    unfold turnC
    rw [if_pos e]; rfl
theorem ord_at {n : Nat} {o : List Int} (p : PermO n o) {f : Nat → Nat → Bool} : Ord n f o ↔ ∀ x y : Nat, x < n → y < n → f x y = true → atO o x < atO o y := by
  constructor
  · intro O x y hx hy hf
    have mx := p.all hx
    have my := p.all hy
    by_cases hlt : atO o x < atO o y
    · exact hlt
    · exfalso
      by_cases he : atO o x = atO o y
      · have := at_inj mx my he
        have : x = y := by omega
        subst this
        rw [O.self x hx] at hf; simp at hf
      · have := List.pairwise_iff_getElem.1 O.fwd _ _ (atO_lt my) (atO_lt mx) (by omega)
        rw [atO_get mx, atO_get my] at this
        simp at this
        rw [this] at hf; simp at hf
  · intro hh
    refine ⟨p.len, p.node, p.nodup, fun k hk => ?_, List.pairwise_iff_getElem.2 fun i j hi hj hij => ?_⟩
    · cases hf : f k k with
      | false => rfl
      | true => have := hh k k hk hk hf; omega
    · have hi' := p.node _ (List.getElem_mem hi)
      have hj' := p.node _ (List.getElem_mem hj)
      cases hf : f o[j].toNat o[i].toNat with
      | false => rfl
      | true =>
        have := hh _ _ (by omega) (by omega) hf
        rw [show ((o[j].toNat : Nat) : Int) = o[j] by omega, show ((o[i].toNat : Nat) : Int) = o[i] by omega, atO_at p.nodup hi, atO_at p.nodup hj] at this
        omega
theorem read_from {h : G.api_Hist} (hr : right h = true) {t : Nat} (ht : t < h.Txns.length) {r : G.api_Take} (hm : r ∈ (tx h t).Reads) : r.From = -1 ∨ ((0 ≤ r.From ∧ r.From < h.Txns.length) ∧ r.From ≠ (t : Int) ∧ hasW (tx h r.From) r.Key = true) := by
  have h1 := right_okT hr ht
  simp only [okT, Bool.and_eq_true] at h1
  have h2 := takes_there h1.1.1.2 r hm
  simp only [there, Bool.or_eq_true, Bool.and_eq_true, decide_eq_true_eq] at h2
  rcases h2 with h2 | h2
  · exact .inl h2
  · refine .inr ⟨h2.1.1, h2.1.2, ?_⟩
    have h3 := h2.2
    unfold tx
    have hl : r.From.toNat < h.Txns.length := by omega
    rw [List.getElem?_eq_getElem hl] at h3 ⊢
    exact h3
theorem play_iff {h : G.api_Hist} {o : List Int} : playL h o = readsL h ↔ ∀ t : Nat, t < h.Txns.length → ∀ r ∈ (tx h t).Reads, lastW h (o.take (atO o t)) r.Key = r.From := by
  unfold playL readsL
  rw [arT_eq]
  constructor
  · intro hh t ht r hr
    have e := hh t ht
    unfold playT at e
    obtain ⟨i, hi, rfl⟩ := List.getElem_of_mem hr
    have := congrArg (fun l : List G.api_Take => l[i]?) e
    simp only [List.getElem?_map, List.getElem?_eq_getElem hi, Option.map_some, Option.some.injEq] at this
    have := congrArg G.api_Take.From this
    exact this
  · intro hh t ht
    unfold playT
    refine (List.map_congr_left fun r hr => ?_).trans (List.map_id _)
    rw [hh t ht r hr]; rfl
theorem full0 {h : G.api_Hist} {s : List G.api_Choice} {x y : Nat} : fullF h 0 s x y = true ↔ soF h x y = true ∨ wrF h x y = true ∨ wwF s x y = true ∨ iniF h x y = true ∨ s.any (fun c => rwC h c x y) = true := by
  unfold fullF dF orF rwF
  rw [if_neg (by omega)]
  simp only [Bool.or_eq_true, or_assoc]

theorem graph_order {h : G.api_Hist} (hr : right h = true) {o : List Int} (p : PermO h.Txns.length o) : ordB h.Txns.length (fullF h 0 (chs h o)) o = checkB h o := by
  have hok : okO h.Txns.length o = true := okO_iff.2 p
  rw [Bool.eq_iff_iff, ordB_iff, ord_at p]
  unfold checkB
  rw [hr, hok]
  simp only [Bool.true_and, Bool.and_eq_true, decide_eq_true_eq, play_iff]
  rw [sess_iff]
  constructor
  · intro E
    refine ⟨fun t ht r hm => ?_, fun k i hk hi => ?_⟩
    · have mt := p.all ht
      have hL := atO_lt mt
      rcases lastW_at (h := h) (o := o) (key := r.Key) (atO o t) (by omega) with ⟨h1, h2⟩ | ⟨j, hj, h0, h1, h2, h3⟩
      · rw [h1]
        rcases read_from hr ht hm with e | ⟨hf, hne, hw⟩
        · exact e.symm
        · exfalso
          have mf := p.mem hf
          have := E r.From.toNat t (by omega) ht (full0.2 (.inr (.inl (by unfold wrF; rw [List.any_eq_true]; exact ⟨r, hm, by simp; omega⟩))))
          rw [show ((r.From.toNat : Nat) : Int) = r.From by omega] at this
          have hc := h2 _ (atO_lt mf) this
          rw [atO_get mf, hw] at hc; simp at hc
      · rw [h1]
        have hjb := p.node _ (List.getElem_mem hj)
        have hjt : o[j] ≠ (t : Int) := fun e => by
          have := atO_at p.nodup hj
          rw [e] at this; omega
        rcases read_from hr ht hm with e | ⟨hf, hne, hw⟩
        · exfalso
          have := E t o[j].toNat ht (by omega) (full0.2 (.inr (.inr (.inr (.inl (by
            unfold iniF
            rw [Bool.and_eq_true, decide_eq_true_eq, List.any_eq_true]
            refine ⟨by omega, r, hm, ?_⟩
            unfold iniC
            rw [show ((o[j].toNat : Nat) : Int) = o[j] by omega, e, h2]; simp))))))
          rw [show ((o[j].toNat : Nat) : Int) = o[j] by omega, atO_at p.nodup hj] at this
          omega
        · have mf := p.mem hf
          have hlt := E r.From.toNat t (by omega) ht (full0.2 (.inr (.inl (by unfold wrF; rw [List.any_eq_true]; exact ⟨r, hm, by simp; omega⟩))))
          rw [show ((r.From.toNat : Nat) : Int) = r.From by omega] at hlt
          by_cases hje : j = atO o r.From
          · exact (getElem_congr_idx hje).trans (atO_get mf)
          · exfalso
            have hjl : atO o r.From < j := by
              rcases Nat.lt_or_gt_of_ne hje with hc | hc
              · have := h3 _ (atO_lt mf) hc hlt
                rw [atO_get mf, hw] at this; simp at this
              · exact hc
            have hfj : r.From ≠ o[j] := fun e => by
              have := atO_at p.nodup hj
              rw [← e] at this; omega
            have hone : one h ⟨r.Key, r.From, o[j]⟩ = true := by
              unfold one
              simp only [Bool.and_eq_true, decide_eq_true_eq, inr_iff]
              exact ⟨⟨⟨⟨hfj, hf⟩, hjb⟩, hw⟩, h2⟩
            have hin := chs_all hr p hone (by simp only [atO_at p.nodup hj]; exact hjl)
            have := E t o[j].toNat ht (by omega) (full0.2 (.inr (.inr (.inr (.inr (by
              rw [List.any_eq_true]
              refine ⟨_, hin, ?_⟩
              unfold rwC
              simp only [Bool.and_eq_true, decide_eq_true_eq]
              refine ⟨⟨by omega, by omega⟩, ?_⟩
              rw [fromR_iff hr (inr_nat.2 ht), List.any_eq_true]
              exact ⟨r, hm, by simp⟩))))))
            rw [show ((o[j].toNat : Nat) : Int) = o[j] by omega, atO_at p.nodup hj] at this
            omega
    · intro hc
      have hkl : k < o.length := by omega
      have h1 := p.node _ (List.getElem_mem hi)
      have h2 := p.node _ (List.getElem_mem hkl)
      have := E o[i].toNat o[k].toNat (by omega) (by omega) (full0.2 (.inl (by
        unfold soF
        rw [show ((o[i].toNat : Nat) : Int) = o[i] by omega, show ((o[k].toNat : Nat) : Int) = o[k] by omega]
        simp only [Bool.and_eq_true, decide_eq_true_eq]
        exact ⟨by omega, hc.2.symm⟩)))
      rw [show ((o[i].toNat : Nat) : Int) = o[i] by omega, show ((o[k].toNat : Nat) : Int) = o[k] by omega, atO_at p.nodup hi, atO_at p.nodup hkl] at this
      omega
  · rintro ⟨hP, hS⟩ x y hx hy hF
    have mx := p.all hx
    have my := p.all hy
    have hne : x ≠ y → atO o x ≠ atO o y := fun hn e => hn (by have := at_inj mx my e; omega)
    rcases full0.1 hF with e | e | e | e | e
    · unfold soF at e
      simp only [Bool.and_eq_true, decide_eq_true_eq] at e
      have := hne (by omega)
      by_cases hc : atO o y < atO o x
      · exfalso
        have := hS _ _ hc (atO_lt mx)
        rw [atO_get mx, atO_get my] at this
        exact this ⟨by omega, e.2.symm⟩
      · omega
    · unfold wrF at e
      rw [List.any_eq_true] at e
      obtain ⟨r, hm, e⟩ := e
      rw [decide_eq_true_eq] at e
      have h1 := hP y hy r hm
      have hL := atO_lt my
      rcases lastW_at (h := h) (o := o) (key := r.Key) (atO o y) (by omega) with ⟨h2, _⟩ | ⟨j, hj, h0, h2, _, _⟩
      · omega
      · have : o[j] = (x : Int) := by omega
        rw [← this, atO_at p.nodup hj]; exact h0
    · unfold wwF at e
      rw [List.any_eq_true] at e
      obtain ⟨c, hm, e⟩ := e
      simp only [Bool.and_eq_true, decide_eq_true_eq] at e
      have := chs_lt hr p hm
      rwa [e.1, e.2] at this
    · unfold iniF at e
      rw [Bool.and_eq_true, decide_eq_true_eq, List.any_eq_true] at e
      obtain ⟨hyx, r, hm, e⟩ := e
      unfold iniC at e
      rw [Bool.and_eq_true, decide_eq_true_eq] at e
      have h1 := hP x hx r hm
      have hL := atO_lt mx
      have := hne (fun e => hyx e.symm)
      by_cases hc : atO o y < atO o x
      · exfalso
        rcases lastW_at (h := h) (o := o) (key := r.Key) (atO o x) (by omega) with ⟨_, h2⟩ | ⟨j, hj, _, h2, _, _⟩
        · have := h2 _ (atO_lt my) hc
          rw [atO_get my, e.2] at this; simp at this
        · have := p.node _ (List.getElem_mem hj)
          omega
      · omega
    · rw [List.any_eq_true] at e
      obtain ⟨c, hm, e⟩ := e
      unfold rwC at e
      simp only [Bool.and_eq_true, decide_eq_true_eq] at e
      obtain ⟨⟨e1, e2⟩, e3⟩ := e
      rw [fromR_iff hr (inr_nat.2 hx), List.any_eq_true] at e3
      obtain ⟨r, hr', e3⟩ := e3
      rw [decide_eq_true_eq] at e3
      subst e3
      obtain ⟨c1, c2, c3, c4, c5⟩ := one_in (chs_one hr hm)
      have hlt := chs_lt hr p hm
      have h1 := hP x hx _ hr'
      simp only at h1
      have hL := atO_lt mx
      have := hne e2
      by_cases hc : atO o y < atO o x
      · exfalso
        rcases lastW_at (h := h) (o := o) (key := c.Key) (atO o x) (by omega) with ⟨h2, _⟩ | ⟨j, hj, _, h2, _, h3⟩
        · omega
        · have hjA : o[j] = c.A := by omega
          have hj2 := atO_at p.nodup hj
          rw [hjA] at hj2
          rw [e1] at hlt c5
          have := h3 _ (atO_lt my) (by omega) hc
          rw [atO_get my, c5] at this; simp at this
      · omega

theorem SerGraph (h : G.api_Hist) (order : List Int) (hl : h.Txns.length ≤ 9223372036854775807) : G.inquestlaw20_SerGraph h order = some true := by
  unfold G.inquestlaw20_SerGraph
  rw [awake20]
  simp only [Option.bind_some, Bool.not_true, Bool.false_eq_true, if_false]
  rw [rFew (by omega), show (Sh.len h.Txns) = ((h.Txns.length : Nat) : Int) from rfl, rPerm hl]
  simp only [Option.bind_some]
  cases hF : few h 20 with
  | false => rfl
  | true =>
    have hf := few_fits (by omega) hF
    have hb := few_reads hF
    have hlen := few_len hF
    simp only [Bool.not_true, Bool.false_eq_true, if_false, G.inquestlaw20_SerGraph_j1]
    cases hp : okO h.Txns.length order with
    | false => rfl
    | true =>
      have p := okO_iff.1 hp
      have hol := p.len
      simp only [Bool.not_true, Bool.false_eq_true, if_false]
      rw [pOf hf (by omega)]
      simp only [Option.bind_some]
      unfold ofB
      rw [perm_okO, hp]
      cases hr : right h with
      | false =>
        simp only [Bool.false_and, Bool.false_eq_true, if_false]
        rw [pFull hf 0 (by simp)]
        simp only [Option.bind_some, fullG, cr, hr, Bool.false_and, Bool.false_eq_true, if_false]
        rw [pChoice hf (by simp), hr]
        rfl
      | true =>
        simp only [Bool.and_self, if_true]
        have hcl : ((pairs h).map (turnC order)).length ≤ 20000 := by rw [List.length_map]; exact pairs_le hr
        have hcr : cr h ((pairs h).map (turnC order)) = true := cr_iff.2 ⟨hr, fun c hc => chs_one hr hc⟩
        rw [pFull hf 0 hcl]
        simp only [Option.bind_some, fullG, hcr, lev2, decide_true, Bool.true_or, Bool.and_self, if_true, ne_eq, not_true_eq_false, decide_false, Bool.false_eq_true, if_false]
        rw [pCheck hf hb]
        simp only [Option.bind_some]
        rw [topo_Is (by omega) _ _ (by omega)]
        simp only [Option.bind_some]
        rw [show (pairs h).map (turnC order) = chs h order from rfl, graph_order hr p]
        simp
end Pl
end
