/- What the plain functions answer. -/
import Derived.Test.YtcoegkcdabpijaaDoorBase1
import Derived.Test.YtcoegkcdabpijaaDoorSh
import Derived.KernelRfl
set_option linter.unusedSimpArgs false
set_option linter.unusedVariables false
section
/- What is used to reason about the plain functions. -/
namespace Pl
open Go Go.Av

theorem w64_id {n : Int} (h1 : -9223372036854775808 ≤ n) (h2 : n < 9223372036854775808) : w64 n = n := i64_wrap h1 h2
theorem idx_at {α : Type} {l : List α} {k : Nat} (h : k < l.length) : Sh.idx l (k : Int) = some l[k] := by
  simp [Sh.idx, h]
theorem idx_of {α : Type} {l : List α} {i : Int} (h0 : 0 ≤ i) (h : i < l.length) : Sh.idx l i = some (l[i.toNat]'(by omega)) := by
  unfold Sh.idx
  rw [if_pos h0]
  exact List.getElem?_eq_getElem (by omega)
theorem app_ok {α : Type} {b : Nat} {l m : List α} (h : (l.length + m.length) * b ≤ 140737488355328) : Sh.app b l m = some (l ++ m) := by
  simp [Sh.app, h]
theorem mk_ok {α : Type} {b m : Nat} {z : α} (h : b * m ≤ 140737488355328) (h2 : m ≤ 4611686018427387904) : Sh.mk b (m : Int) (m : Int) z = some (List.replicate m z) := by
  have : ((b : Int) * (m : Int)) ≤ 140737488355328 := by
    rw [← Int.natCast_mul]; omega
  unfold Sh.mk
  rw [if_pos ⟨by omega, by omega, this, by omega⟩]
  simp
theorem sub_ok {α : Type} {l : List α} {m k : Nat} (h1 : m ≤ k) (h2 : k ≤ l.length) : Sh.sub l (m : Int) (k : Int) = some ((l.drop m).take (k - m)) := by
  unfold Sh.sub
  rw [if_pos ⟨by omega, by omega, by omega⟩]
  simp
theorem set_at {α : Type} (l : List α) (k : Nat) (x : α) : Sh.set l (k : Int) x = l.set k x := by simp [Sh.set]
theorem cpy_ok {α : Type} {l m : List α} (h : m.length = l.length) : Sh.cpy l m = some m := by simp [Sh.cpy, h]

/-- A loop that counts up from 0, where each round turns a state: what it answers. -/
theorem count {σ α : Type} {b : σ × Int → Option ((σ × Int) ⊕ α)} (S : Nat → σ) (m : Nat) (r : α) (hm : m < Sh.FUEL) (h : ∀ k, k < m → b (S k, (k : Int)) = some (.inl (S (k + 1), ((k + 1 : Nat) : Int)))) (hr : b (S m, (m : Int)) = some (.inr r)) {s : σ} (hs : s = S 0) :
    Sh.loop b (s, 0) = some r := by
  subst hs
  exact Sh.loop_run (fun k => (S k, (k : Int))) m r hm h hr
theorem next_some {σ α : Type} (s : σ) : Sh.next (α := α) s = some (.inl s) := rfl
theorem exit_some {σ α : Type} (x : α) : Sh.exit (σ := σ) (some x) = some (.inr x) := rfl
theorem fuel_gt {n : Nat} (h : n < 9223372036854775808) : n < Sh.FUEL := h
theorem w64_succ {k : Nat} (h : k < 9223372036854775807) : w64 ((k : Int) + 1) = ((k + 1 : Nat) : Int) := by
  rw [w64_id (by omega) (by omega)]; omega
theorem len_eq {α : Type} (l : List α) : Sh.len l = (l.length : Int) := rfl
theorem dec_lt {k n : Nat} : decide ((k : Int) < (n : Int)) = decide (k < n) := by
  congr 1; exact propext (by omega)
end Pl
namespace Pl
open Go Go.Av
/-- A loop that goes on as long as something holds, and answers the same wherever it does not. -/
theorem scan {α : Type} {b : Int → Option (Int ⊕ α)} (s m : Nat) (p : Nat → Bool) (A B : α) (hsm : s ≤ m) (hm : m < Sh.FUEL) (h : ∀ k, s ≤ k → k < m → b (k : Int) = if p k then some (.inl ((k + 1 : Nat) : Int)) else some (.inr B)) (hr : b (m : Int) = some (.inr A)) :
    Sh.loop b (s : Int) = some (if ∀ k, k < m → s ≤ k → p k = true then A else B) := by
  by_cases hall : ∀ k, k < m → s ≤ k → p k = true
  · rw [if_pos hall]
    refine Sh.loop_run (fun k => ((s + k : Nat) : Int)) (m - s) A (by omega) (fun k hk => ?_) ?_
    · rw [h (s + k) (by omega) (by omega), if_pos (hall _ (by omega) (by omega))]; rfl
    · rw [show s + (m - s) = m by omega]; exact hr
  · rw [if_neg hall]
    have hex : ∃ k, s ≤ k ∧ k < m ∧ p k = false := by
      apply Classical.byContradiction
      intro hn
      exact hall (fun k h2 h1 => by
        cases hp : p k with
        | true => rfl
        | false => exact absurd ⟨k, h1, h2, hp⟩ hn)
    obtain ⟨k, hk, hmin⟩ := exists_least _ hex
    refine Sh.loop_run (fun q => ((s + q : Nat) : Int)) (k - s) B (by omega) (fun q hq => ?_) ?_
    · have : p (s + q) = true := by
        cases hp : p (s + q) with
        | true => rfl
        | false => have := hmin (s + q) ⟨by omega, by omega, hp⟩; omega
      rw [h (s + q) (by omega) (by omega), if_pos this]; rfl
    · rw [show s + (k - s) = k by omega, h k hk.1 hk.2.1, if_neg (by rw [hk.2.2]; simp)]
theorem scan0 {α : Type} {b : Int → Option (Int ⊕ α)} (m : Nat) (p : Nat → Bool) (A B : α) (hm : m < Sh.FUEL) (h : ∀ k, k < m → b (k : Int) = if p k then some (.inl ((k + 1 : Nat) : Int)) else some (.inr B)) (hr : b (m : Int) = some (.inr A)) :
    Sh.loop b 0 = some (if ∀ k, k < m → p k = true then A else B) := by
  have := scan 0 m p A B (by omega) hm (fun k _ hk => h k hk) hr
  simpa using this
end Pl
namespace Pl
open Go Go.Av
/-- Rounds one by one, and then what comes behind the loop. -/
theorem run_exit {σ α : Type} {b : σ → Option (σ ⊕ α)} (S : Nat → σ) (m : Nat) (X : Option α) (hm : m < Sh.FUEL) (h : ∀ k, k < m → b (S k) = some (.inl (S (k + 1)))) (hr : b (S m) = Sh.exit X) {s : σ} (hs : s = S 0) : Sh.loop b s = X := by
  subst hs
  unfold Sh.loop
  rw [show Sh.FUEL = m + ((Sh.FUEL - m - 1) + 1) by omega, Sh.iter_go S m h]
  simp only [Sh.iter, hr]
  cases X <;> rfl
theorem count_exit {σ α : Type} {b : σ × Int → Option ((σ × Int) ⊕ α)} (S : Nat → σ) (m : Nat) (X : Option α) (hm : m < Sh.FUEL) (h : ∀ k, k < m → b (S k, (k : Int)) = some (.inl (S (k + 1), ((k + 1 : Nat) : Int)))) (hr : b (S m, (m : Int)) = Sh.exit X) {s : σ} (hs : s = S 0) :
    Sh.loop b (s, 0) = X := run_exit (fun k => (S k, (k : Int))) m X hm h hr (by rw [hs]; rfl)
end Pl
end

section
/- Loops over lists. -/
namespace Pl
open Go Go.Av

/-- What a loop over a list does that may be left early: by each element a state turns, or an answer is there. -/
def foldE {σ α β : Type} (step : Nat → σ → α → σ ⊕ β) (X : σ → Option β) : Nat → List α → σ → Option β
  | _, [], s => X s
  | k, x :: l, s => match step k s x with
    | .inl s' => foldE step X (k + 1) l s'
    | .inr r => some r

theorem loop_step {σ β : Type} {b : σ → Option (σ ⊕ β)} {n : Nat} {s s' : σ} (h : b s = some (.inl s')) : Sh.iter b (n + 1) s = Sh.iter b n s' := by simp [Sh.iter, h]
theorem loop_stop {σ β : Type} {b : σ → Option (σ ⊕ β)} {n : Nat} {s : σ} {r : β} (h : b s = some (.inr r)) : Sh.iter b (n + 1) s = some r := by simp [Sh.iter, h]
theorem loop_exit {σ β : Type} {b : σ → Option (σ ⊕ β)} {n : Nat} {s : σ} {X : Option β} (h : b s = Sh.exit X) : Sh.iter b (n + 1) s = X := by cases X <;> simp [Sh.iter, h, Sh.exit]

theorem iter_fold {σ τ α β : Type} {b : τ → Option (τ ⊕ β)} (S : σ → Nat → τ) (step : Nat → σ → α → σ ⊕ β) (X : σ → Option β) (l0 : List α)
    (h : ∀ (k : Nat) (s : σ) (hk : k < l0.length), b (S s k) = match step k s l0[k] with | .inl s' => some (.inl (S s' (k + 1))) | .inr r => some (.inr r))
    (he : ∀ s, b (S s l0.length) = Sh.exit (X s)) : ∀ (l : List α) (k n : Nat) (s : σ), l0.drop k = l → k ≤ l0.length → l.length < n → Sh.iter b n (S s k) = foldE step X k l s := by
  intro l
  induction l with
  | nil =>
    intro k n s hl hk hn
    have hk2 : k = l0.length := by
      have : (l0.drop k).length = 0 := by rw [hl]; rfl
      simp at this; omega
    subst hk2
    obtain ⟨n, rfl⟩ : ∃ m, n = m + 1 := ⟨n - 1, by simp at hn; omega⟩
    exact loop_exit (he s)
  | cons x l ih =>
    intro k n s hl hk hn
    have hlen : (l0.drop k).length = l.length + 1 := by rw [hl]; rfl
    have hk2 : k < l0.length := by simp at hlen; omega
    obtain ⟨n, rfl⟩ : ∃ m, n = m + 1 := ⟨n - 1, by simp at hn; omega⟩
    have hx : l0[k] = x ∧ l0.drop (k + 1) = l := by
      rw [List.drop_eq_getElem_cons hk2] at hl
      simp only [List.cons.injEq] at hl
      exact hl
    have hb := h k s hk2
    rw [hx.1] at hb
    simp only [foldE]
    cases hs : step k s x with
    | inl s' =>
      rw [hs] at hb
      rw [loop_step hb]
      exact ih (k + 1) n s' hx.2 hk2 (by simp at hn; omega)
    | inr r =>
      rw [hs] at hb
      exact loop_stop hb

theorem loop_fold {σ τ α β : Type} {b : τ → Option (τ ⊕ β)} (S : σ → Nat → τ) (step : Nat → σ → α → σ ⊕ β) (X : σ → Option β) (l : List α) (hm : l.length < Sh.FUEL)
    (h : ∀ (k : Nat) (s : σ) (hk : k < l.length), b (S s k) = match step k s l[k] with | .inl s' => some (.inl (S s' (k + 1))) | .inr r => some (.inr r))
    (he : ∀ s, b (S s l.length) = Sh.exit (X s)) (s : σ) {t : τ} (ht : t = S s 0) : Sh.loop b t = foldE step X 0 l s := by
  subst ht
  exact iter_fold S step X l h he l 0 Sh.FUEL s rfl (Nat.zero_le _) hm

/-- A loop that looks for the first element of a kind. -/
theorem find_loop {α β : Type} {b : Int → Option (Int ⊕ β)} (l : List α) (p : α → Bool) (A : Nat → β) (X : Option β) (hm : l.length < Sh.FUEL)
    (h : ∀ (k : Nat) (hk : k < l.length), b (k : Int) = if p l[k] then some (.inr (A k)) else some (.inl ((k + 1 : Nat) : Int)))
    (he : b (l.length : Int) = Sh.exit X) : Sh.loop b 0 = (l.findIdx? p).elim X (fun k => some (A k)) := by
  rw [loop_fold (σ := Unit) (α := α) (fun _ k => (k : Int)) (fun k _ x => if p x then .inr (A k) else .inl ()) (fun _ => X) l hm (fun k s hk => ?_) (fun _ => he) () (t := (0 : Int)) rfl]
  · have key : ∀ (l : List α) (k : Nat), foldE (fun k (_ : Unit) x => if p x then Sum.inr (A k) else Sum.inl ()) (fun _ => X) k l () = (l.findIdx? p).elim X (fun i => some (A (k + i))) := by
      intro l
      induction l with
      | nil => intro k; simp [foldE]
      | cons x l ih =>
        intro k
        simp only [foldE, List.findIdx?_cons]
        cases hp : p x with
        | true => simp
        | false =>
          simp only [Bool.false_eq_true, if_false]
          rw [ih (k + 1)]
          cases l.findIdx? p with
          | none => rfl
          | some i => simp only [Option.map_some, Option.elim_some]; congr 2; omega
    rw [key l 0]
    simp
  · rw [h k hk]
    cases p l[k] <;> rfl

/-- A loop that asks whether there is an element of a kind. -/
theorem any_loop {α β : Type} {b : Int → Option (Int ⊕ β)} (l : List α) (p : α → Bool) (A : β) (X : Option β) (hm : l.length < Sh.FUEL)
    (h : ∀ (k : Nat) (hk : k < l.length), b (k : Int) = if p l[k] then some (.inr A) else some (.inl ((k + 1 : Nat) : Int)))
    (he : b (l.length : Int) = Sh.exit X) : Sh.loop b 0 = if l.any p then some A else X := by
  rw [find_loop l p (fun _ => A) X hm h he]
  cases hf : l.findIdx? p with
  | none =>
    have : l.any p = false := by
      rw [List.findIdx?_eq_none_iff] at hf
      rw [List.any_eq_false]
      intro x hx
      simpa using hf x hx
    rw [this]; rfl
  | some i =>
    have : l.any p = true := by
      rw [List.any_eq_true]
      rw [List.findIdx?_eq_some_iff_getElem] at hf
      obtain ⟨hi, hp, _⟩ := hf
      exact ⟨l[i], List.getElem_mem hi, hp⟩
    rw [this]; rfl

/-- Where the first one stands; -1: nowhere. -/
def pos {α : Type} (l : List α) (p : α → Bool) : Int := (l.findIdx? p).elim (-1) (fun k => (k : Int))
theorem pos_some {α : Type} (l : List α) (p : α → Bool) : (l.findIdx? p).elim (some (-1 : Int)) (fun k => some (k : Int)) = some (pos l p) := by unfold pos; cases l.findIdx? p <;> rfl
theorem contains_of_find {α : Type} (l : List α) (p : α → Bool) : decide ((0 : Int) ≤ pos l p) = l.any p := by
  unfold pos
  cases hf : l.findIdx? p with
  | none =>
    have : l.any p = false := by
      rw [List.findIdx?_eq_none_iff] at hf
      rw [List.any_eq_false]
      intro x hx
      simpa using hf x hx
    rw [this]; rfl
  | some i =>
    have : l.any p = true := by
      rw [List.any_eq_true]
      rw [List.findIdx?_eq_some_iff_getElem] at hf
      obtain ⟨hi, hp, _⟩ := hf
      exact ⟨l[i], List.getElem_mem hi, hp⟩
    rw [this]; simp
end Pl
end

section
/- Whether a history may be. -/
namespace Pl
open Go Go.Av

theorem pIdx {l : List Int} (hl : l.length < 9223372036854775808) (v : Int) : G.slices_Index_int_int l v = some (pos l (fun x => decide (v = x))) := by
  unfold G.slices_Index_int_int
  rw [find_loop l (fun x => decide (v = x)) (fun k => (k : Int)) (some (-1)) (fuel_gt hl) (fun k hk => ?_) ?_, pos_some]
  · simp [G.slices_Index_int_int_b1, G.slices_Index_int_int_j1]
  · simp only [G.slices_Index_int_int_b1, dec_lt, hk, decide_true, if_true, idx_at hk, Option.bind_some, w64_succ (show k < 9223372036854775807 by omega)]
    rfl
theorem pHas {l : List Int} (hl : l.length < 9223372036854775808) (v : Int) : G.slices_Contains_int_int l v = some (l.any (fun x => decide (v = x))) := by
  unfold G.slices_Contains_int_int
  rw [pIdx hl, Option.bind_some, contains_of_find]

/-- The numbers rise, from one on, and lie below 16. -/
def rising : Int → List Int → Bool
  | _, [] => true
  | last, x :: l => decide (last < x) && decide (x < 16) && rising x l
def hasW (t : G.api_Txn) (k : Int) : Bool := t.Writes.any (fun x => decide (k = x))
def there (h : G.api_Hist) (n : Int) (x : G.api_Take) : Bool :=
  decide (x.From = -1) || (decide (0 ≤ x.From) && decide (x.From < (h.Txns.length : Int)) && decide (x.From ≠ n) && match h.Txns[x.From.toNat]? with | some t => hasW t x.Key | none => false)
def takes (h : G.api_Hist) (n : Int) : Int → List G.api_Take → Bool
  | _, [] => true
  | last, x :: l => decide (last < x.Key) && decide (x.Key < 16) && there h n x && takes h n x.Key l
def okT (h : G.api_Hist) (n : Int) (t : G.api_Txn) : Bool := rising (-1) t.Writes && takes h n (-1) t.Reads && decide (0 ≤ t.Session) && decide (t.Session < 8)
def okAll (h : G.api_Hist) : Nat → List G.api_Txn → Bool
  | _, [] => true
  | n, t :: l => okT h n t && okAll h (n + 1) l
def right (h : G.api_Hist) : Bool := decide (h.Txns.length ≤ 32) && okAll h 0 h.Txns

/-- Nothing is too long for a number. -/
structure Fits (h : G.api_Hist) : Prop where
  txns : h.Txns.length < 9223372036854775807
  writes : ∀ t ∈ h.Txns, t.Writes.length < 9223372036854775807
  reads : ∀ t ∈ h.Txns, t.Reads.length < 9223372036854775807

theorem y1 (c y : Bool) : G.hist_Right__r c y = some (if y then (c, true) else (false, false)) := by cases y <;> rfl

theorem pThere {h : G.api_Hist} (hf : Fits h) (n : Int) (x : G.api_Take) {α : Type} (K : Bool → Option α) :
    (if decide (x.From = (-1)) then K true else if decide ((0 : Int) ≤ x.From) then if decide (x.From < (Sh.len h.Txns)) then if decide (x.From ≠ n) then (Sh.idx h.Txns x.From).bind fun x840 => (G.slices_Contains_int_int x840.Writes x.Key).bind fun r842 => K r842 else K false else K false else K false) = K (there h n x) := by
  unfold there
  by_cases h1 : x.From = -1
  · simp [h1]
  · by_cases h2 : 0 ≤ x.From
    · by_cases h3 : x.From < (h.Txns.length : Int)
      · by_cases h4 : x.From = n
        · subst h4; simp [h1, h2, h3]
        · have h5 : h.Txns[x.From.toNat]? = some (h.Txns[x.From.toNat]'(by omega)) := List.getElem?_eq_getElem (by omega)
          rw [idx_of h2 h3, h5]
          have := hf.writes _ (List.getElem_mem (show x.From.toNat < h.Txns.length by omega))
          have h6 := pHas (l := (h.Txns[x.From.toNat]'(by omega)).Writes) (by omega) x.Key
          simp [h1, h2, h3, h4, h6, hasW]
      · simp [h1, h2, h3]
    · simp [h1, h2]

theorem pReads {h : G.api_Hist} (hf : Fits h) (n : Int) (t : G.api_Txn) (ht : t ∈ h.Txns) (c : Bool) : G.hist_faults_1__hist_Right__r_j2 h n t c = if takes h n (-1) t.Reads then G.hist_faults_1__hist_Right__r_j3 n t c else some (.inr (false, false)) := by
  unfold G.hist_faults_1__hist_Right__r_j2
  have hl := hf.reads t ht
  rw [loop_fold (σ := Bool × Int) (fun s k => (s.1, s.2, (k : Int))) (fun _ s x => if decide (s.2 < x.Key) && decide (x.Key < 16) && there h n x then .inl (s.1, x.Key) else .inr (.inr (false, false))) (fun s => G.hist_faults_1__hist_Right__r_j3 n t s.1) t.Reads (fuel_gt (by omega)) (fun k s hk => ?_) (fun s => ?_) (c, -1) (t := (c, (-1 : Int), (0 : Int))) rfl]
  · have key : ∀ (l : List G.api_Take) (k : Nat) (last : Int), foldE (fun _ (s : Bool × Int) (x : G.api_Take) => if decide (s.2 < x.Key) && decide (x.Key < 16) && there h n x then Sum.inl (s.1, x.Key) else Sum.inr (.inr (false, false))) (fun s => G.hist_faults_1__hist_Right__r_j3 n t s.1) k l (c, last) = if takes h n last l then G.hist_faults_1__hist_Right__r_j3 n t c else some (.inr (false, false)) := by
      intro l
      induction l with
      | nil => intro k last; simp [foldE, takes]
      | cons x l ih =>
        intro k last
        simp only [foldE]
        rw [show takes h n last (x :: l) = (decide (last < x.Key) && decide (x.Key < 16) && there h n x && takes h n x.Key l) from rfl]
        by_cases hq : (decide (last < x.Key) && decide (x.Key < 16) && there h n x) = true
        · rw [if_pos hq, hq, Bool.true_and]; exact ih (k + 1) x.Key
        · rw [if_neg hq, Bool.eq_false_iff.2 hq]; simp
    exact key t.Reads 0 (-1)
  · obtain ⟨c, last⟩ := s
    simp only [G.hist_faults_1__hist_Right__r_b2, dec_lt, hk, decide_true, if_true, idx_at hk, Option.bind_some]
    rw [pThere hf n t.Reads[k] (fun b => G.hist_faults_1__hist_Right__r_j4 c last k t.Reads[k] b)]
    simp only [G.hist_faults_1__hist_Right__r_j4, y1, G.hist_faults_1__hist_Right__r_j5, w64_succ (show k < 9223372036854775807 by omega), Option.bind_some]
    by_cases h1 : last < t.Reads[k].Key
    · by_cases h2 : t.Reads[k].Key < 16
      · cases h3 : there h n t.Reads[k] <;> simp [h1, h2, Sh.exit, Sh.next]
      · simp [h1, h2, Sh.exit]
    · simp [h1, Sh.exit]
  · simp [G.hist_faults_1__hist_Right__r_b2]

theorem pWrites {h : G.api_Hist} (hf : Fits h) (n : Nat) (hn : n < 9223372036854775807) (t : G.api_Txn) (ht : t ∈ h.Txns) (c : Bool) :
    Sh.loop (fun (p : Bool × Int × Int) => G.hist_faults_1__hist_Right__r_b3 h n t p.1 p.2.1 p.2.2) (c, (-1), 0) = if okT h n t then some (.inl (c, ((n + 1 : Nat) : Int))) else some (.inr (false, false)) := by
  have hl := hf.writes t ht
  rw [loop_fold (σ := Bool × Int) (fun s k => (s.1, s.2, (k : Int))) (fun _ s x => if decide (s.2 < x) && decide (x < 16) then .inl (s.1, x) else .inr (.inr (false, false))) (fun s => G.hist_faults_1__hist_Right__r_j2 h n t s.1) t.Writes (fuel_gt (by omega)) (fun k s hk => ?_) (fun s => ?_) (c, -1) (t := (c, (-1 : Int), (0 : Int))) rfl]
  · have key : ∀ (l : List Int) (k : Nat) (last : Int), foldE (fun _ (s : Bool × Int) (x : Int) => if decide (s.2 < x) && decide (x < 16) then Sum.inl (s.1, x) else Sum.inr (.inr (false, false))) (fun s => G.hist_faults_1__hist_Right__r_j2 h n t s.1) k l (c, last) = if rising last l then G.hist_faults_1__hist_Right__r_j2 h n t c else some (.inr (false, false)) := by
      intro l
      induction l with
      | nil => intro k last; simp [foldE, rising]
      | cons x l ih =>
        intro k last
        simp only [foldE]
        rw [show rising last (x :: l) = (decide (last < x) && decide (x < 16) && rising x l) from rfl]
        by_cases hq : (decide (last < x) && decide (x < 16)) = true
        · rw [if_pos hq, hq, Bool.true_and]; exact ih (k + 1) x
        · rw [if_neg hq, Bool.eq_false_iff.2 hq]; simp
    rw [key t.Writes 0 (-1), pReads hf n t ht]
    unfold okT
    cases h1 : rising (-1) t.Writes
    · simp
    · cases h2 : takes h n (-1) t.Reads
      · simp
      · simp only [G.hist_faults_1__hist_Right__r_j3, y1, G.hist_faults_1__hist_Right__r_j1, w64_succ hn, Option.bind_some]
        by_cases h3 : 0 ≤ t.Session
        · by_cases h4 : t.Session < 8 <;> simp [h3, h4, Sh.exit, Sh.next]
        · simp [h3, Sh.exit]
  · obtain ⟨c, last⟩ := s
    simp only [G.hist_faults_1__hist_Right__r_b3, dec_lt, hk, decide_true, if_true, idx_at hk, Option.bind_some, y1, G.hist_faults_1__hist_Right__r_j6, w64_succ (show k < 9223372036854775807 by omega)]
    by_cases h1 : last < t.Writes[k]
    · by_cases h2 : t.Writes[k] < 16 <;> simp [h1, h2, Sh.exit, Sh.next]
    · simp [h1, Sh.exit]
  · simp [G.hist_faults_1__hist_Right__r_b3]

theorem pRight {h : G.api_Hist} (hf : Fits h) : G.hist_Right h = some (right h) := by
  have hl := hf.txns
  have hloop : ∀ c, Sh.loop (fun (p : Bool × Int) => G.hist_faults_1__hist_Right__r_b1 h p.1 p.2) (c, 0) = if okAll h 0 h.Txns then some (c, true) else some (false, false) := by
    intro c
    rw [loop_fold (σ := Bool) (fun s k => (s, (k : Int))) (fun k s x => if okT h k x then .inl s else .inr (false, false)) (fun s => some (s, true)) h.Txns (fuel_gt (by omega)) (fun k s hk => ?_) (fun s => ?_) c (t := (c, (0 : Int))) rfl]
    · have key : ∀ (l : List G.api_Txn) (k : Nat), foldE (fun k (s : Bool) (x : G.api_Txn) => if okT h (k : Nat) x then Sum.inl s else Sum.inr (false, false)) (fun s => some (s, true)) k l c = if okAll h k l then some (c, true) else some (false, false) := by
        intro l
        induction l with
        | nil => intro k; simp [foldE, okAll]
        | cons x l ih =>
          intro k
          simp only [foldE]
          rw [show okAll h k (x :: l) = (okT h (k : Nat) x && okAll h (k + 1) l) from rfl]
          by_cases hq : okT h (k : Nat) x = true
          · rw [if_pos hq, hq, Bool.true_and]; exact ih (k + 1)
          · rw [if_neg hq, Bool.eq_false_iff.2 hq]; simp
      exact key h.Txns 0
    · simp only [G.hist_faults_1__hist_Right__r_b1, dec_lt, hk, decide_true, if_true, idx_at hk, Option.bind_some]
      rw [pWrites hf k (by omega) _ (List.getElem_mem hk)]
      cases okT h k h.Txns[k] <;> rfl
    · simp [G.hist_faults_1__hist_Right__r_b1]
  unfold G.hist_Right G.hist_faults G.hist_faults_1__hist_Right__r right
  simp only [Option.bind_some, y1, len_eq]
  by_cases h1 : h.Txns.length ≤ 32
  · have h2 : ((h.Txns.length : Int) ≤ 32) := by omega
    simp only [h1, h2, decide_true, if_true, hloop, Bool.true_and]
    cases okAll h 0 h.Txns <;> simp
  · have h2 : ¬ ((h.Txns.length : Int) ≤ 32) := by omega
    simp [h1, h2]

/-! ### The reference -/
end Pl
end

section
/- Edges, one by one: what the program and the reference answer. -/

namespace Pl
open Go Go.Av

def tx (h : G.api_Hist) (x : Int) : G.api_Txn := (h.Txns[x.toNat]?).getD default
def inr (h : G.api_Hist) (x : Int) : Bool := decide (0 ≤ x) && decide (x < (h.Txns.length : Int))
theorem inr_iff {h : G.api_Hist} {x : Int} : inr h x = true ↔ 0 ≤ x ∧ x < (h.Txns.length : Int) := by simp [inr]
theorem idx_tx {h : G.api_Hist} {x : Int} (hx : inr h x = true) : Sh.idx h.Txns x = some (tx h x) := by
  rw [inr_iff] at hx
  rw [idx_of hx.1 hx.2]
  simp [tx, List.getElem?_eq_getElem (show x.toNat < h.Txns.length by omega)]
theorem tx_mem {h : G.api_Hist} {x : Int} (hx : inr h x = true) : tx h x ∈ h.Txns := by
  rw [inr_iff] at hx
  simp only [tx, List.getElem?_eq_getElem (show x.toNat < h.Txns.length by omega), Option.getD_some]
  exact List.getElem_mem _

/-! ### What edges are -/
def isW (h : G.api_Hist) (x y : Int) (c : G.api_Choice) : Bool := decide (c.A = x) && decide (c.B = y) && decide (x ≠ y) && hasW (tx h x) c.Key && hasW (tx h y) c.Key
def dirS (h : G.api_Hist) (l : List G.api_Choice) (x y : Int) : Bool :=
  (decide (x < y) && decide ((tx h x).Session = (tx h y).Session)) || (tx h y).Reads.any (fun r => decide (r.From = x)) || l.any (isW h x y)
def isO (h : G.api_Hist) (l : List G.api_Choice) (y : Int) (r : G.api_Take) : Bool :=
  hasW (tx h y) r.Key && (decide (r.From < 0) || (decide (r.From ≠ y) && l.any (fun c => decide (G.api_Choice.mk r.Key r.From y = c))))
def antS (h : G.api_Hist) (l : List G.api_Choice) (x y : Int) : Bool := decide (x ≠ y) && (tx h x).Reads.any (isO h l y)
def two (h : G.api_Hist) (x y : Int) : Bool := right h && inr h x && inr h y
def direct (h : G.api_Hist) (l : List G.api_Choice) (x y : Int) : Bool := two h x y && dirS h l x y
def anti (h : G.api_Hist) (l : List G.api_Choice) (x y : Int) : Bool := two h x y && antS h l x y
def edge (h : G.api_Hist) (lev : Int) (l : List G.api_Choice) (x y : Int) : Bool :=
  if lev = 0 then direct h l x y || anti h l x y
  else if lev = 1 then (List.range h.Txns.length).any (fun m => direct h l x m && (decide ((m : Int) = y) || anti h l m y))
  else false
def ring (h : G.api_Hist) (lev : Int) (l : List G.api_Choice) (row : List Int) : Bool :=
  decide (0 < row.length) && (List.range row.length).all (fun i => !((row.take i).any (fun x => decide (row.getD i 0 = x))) && edge h lev l (row.getD i 0) (row.getD ((i + 1) % row.length) 0))

theorem right_reads {h : G.api_Hist} (hr : right h = true) {t : G.api_Txn} (ht : t ∈ h.Txns) : ∃ n : Int, takes h n (-1) t.Reads = true := by
  simp only [right, Bool.and_eq_true] at hr
  have key : ∀ (l : List G.api_Txn) (n : Nat), okAll h n l = true → ∀ t ∈ l, ∃ n : Int, okT h n t = true := by
    intro l
    induction l with
    | nil => intro n _ t ht; cases ht
    | cons x l ih =>
      intro n hn t ht
      rw [show okAll h n (x :: l) = (okT h (n : Nat) x && okAll h (n + 1) l) from rfl, Bool.and_eq_true] at hn
      rcases List.mem_cons.1 ht with rfl | ht
      · exact ⟨_, hn.1⟩
      · exact ih _ hn.2 t ht
  obtain ⟨n, hn⟩ := key _ 0 hr.2 t ht
  simp only [okT, Bool.and_eq_true] at hn
  exact ⟨n, hn.1.1.2⟩
theorem takes_there {h : G.api_Hist} {n : Int} : ∀ {l : List G.api_Take} {last : Int}, takes h n last l = true → ∀ r ∈ l, there h n r = true
  | [], _, _, r, hr => by cases hr
  | x :: l, last, ht, r, hr => by
    rw [show takes h n last (x :: l) = (decide (last < x.Key) && decide (x.Key < 16) && there h n x && takes h n x.Key l) from rfl] at ht
    simp only [Bool.and_eq_true] at ht
    rcases List.mem_cons.1 hr with rfl | hr
    · exact ht.1.2
    · exact takes_there ht.2 r hr
theorem from_neg {h : G.api_Hist} (hr : right h = true) {t : G.api_Txn} (ht : t ∈ h.Txns) {r : G.api_Take} (hm : r ∈ t.Reads) : r.From < 0 ↔ r.From = -1 := by
  obtain ⟨n, hn⟩ := right_reads hr ht
  have := takes_there hn r hm
  simp only [there, Bool.or_eq_true, Bool.and_eq_true, decide_eq_true_eq] at this
  rcases this with h1 | h1
  · omega
  · have := h1.1.1.1; omega

/-! ### The program -/
theorem pWritesAt {h : G.api_Hist} (hf : Fits h) {x : Int} (hx : inr h x = true) (k : Int) : G.edge_writes h x k = some (hasW (tx h x) k) := by
  unfold G.edge_writes
  have := hf.writes _ (tx_mem hx)
  rw [idx_tx hx]
  simp only [Option.bind_some]
  rw [pHas (by omega)]
  rfl
theorem pRead {h : G.api_Hist} (hf : Fits h) {x y : Int} (hy : inr h y = true) (u : G.edge_read) : G.edge_read_is u h x y = some ((tx h y).Reads.any (fun r => decide (r.From = x))) := by
  have hl := hf.reads _ (tx_mem hy)
  unfold G.edge_read_is
  rw [idx_tx hy]
  simp only [Option.bind_some]
  unfold G.slices_ContainsFunc_api_Take_api_Take__edge_read_is_1 G.slices_IndexFunc_api_Take_api_Take__edge_read_is_1
  rw [find_loop (tx h y).Reads (fun r => decide (r.From = x)) (fun k => (k : Int)) (some (-1)) (fuel_gt (by omega)) (fun k hk => ?_) ?_, pos_some, Option.bind_some, contains_of_find]
  · rfl
  · simp [G.slices_IndexFunc_api_Take_api_Take__edge_read_is_1_b1, G.slices_IndexFunc_api_Take_api_Take__edge_read_is_1_j1]
  · simp only [G.slices_IndexFunc_api_Take_api_Take__edge_read_is_1_b1, dec_lt, hk, decide_true, if_true, idx_at hk, Option.bind_some, G.edge_read_is_1__1, w64_succ (show k < 9223372036854775807 by omega)]
    rfl
theorem pWritten {h : G.api_Hist} (hf : Fits h) {x y : Int} (hx : inr h x = true) (hy : inr h y = true) {l : List G.api_Choice} (hl : l.length < 9223372036854775807) : G.edge_written_is l h x y = some (l.any (isW h x y)) := by
  have h1 : ∀ c, G.edge_written_is_1__1 c x y h = some (isW h x y c) := fun c => by
    unfold G.edge_written_is_1__1 isW
    by_cases a : c.A = x <;> by_cases b : c.B = y <;> by_cases d : x = y <;> simp [a, b, d, pWritesAt hf hx, pWritesAt hf hy]
    cases hasW (tx h x) c.Key <;> simp
  unfold G.edge_written_is G.slices_ContainsFunc_edge_written_api_Choice__edge_written_is_1 G.slices_IndexFunc_edge_written_api_Choice__edge_written_is_1
  rw [find_loop l (isW h x y) (fun k => (k : Int)) (some (-1)) (fuel_gt (by omega)) (fun k hk => ?_) ?_, pos_some, Option.bind_some, contains_of_find]
  · rfl
  · simp [G.slices_IndexFunc_edge_written_api_Choice__edge_written_is_1_b1, G.slices_IndexFunc_edge_written_api_Choice__edge_written_is_1_j1]
  · simp only [G.slices_IndexFunc_edge_written_api_Choice__edge_written_is_1_b1, dec_lt, hk, decide_true, if_true, idx_at hk, Option.bind_some, h1, w64_succ (show k < 9223372036854775807 by omega)]
    rfl
theorem pHasC {l : List G.api_Choice} (hl : l.length < 9223372036854775807) (v : G.api_Choice) : G.slices_Contains_edge_over_api_Choice l v = some (l.any (fun c => decide (v = c))) := by
  unfold G.slices_Contains_edge_over_api_Choice G.slices_Index_edge_over_api_Choice
  rw [find_loop l (fun c => decide (v = c)) (fun k => (k : Int)) (some (-1)) (fuel_gt (by omega)) (fun k hk => ?_) ?_, pos_some, Option.bind_some, contains_of_find]
  · simp [G.slices_Index_edge_over_api_Choice_b1, G.slices_Index_edge_over_api_Choice_j1]
  · simp only [G.slices_Index_edge_over_api_Choice_b1, dec_lt, hk, decide_true, if_true, idx_at hk, Option.bind_some, w64_succ (show k < 9223372036854775807 by omega)]
    rfl
theorem pOver {h : G.api_Hist} (hf : Fits h) {x y : Int} (hx : inr h x = true) (hy : inr h y = true) {l : List G.api_Choice} (hl : l.length < 9223372036854775807) : G.edge_over_is l h x y = some (antS h l x y) := by
  have hr := hf.reads _ (tx_mem hx)
  have h1 : ∀ r, G.edge_over_is_1__1 r h y l = some (isO h l y r) := fun r => by
    unfold G.edge_over_is_1__1 isO
    rw [pWritesAt hf hy]
    simp only [Option.bind_some, pHasC hl]
    cases hasW (tx h y) r.Key
    · rfl
    · by_cases a : r.From < 0
      · simp [a]
      · by_cases b : r.From = y
        · have a' : ¬ y < 0 := b ▸ a
          simp [b, a']
        · simp [a, b]
  unfold G.edge_over_is antS
  by_cases hxy : x = y
  · simp [hxy]
  · rw [idx_tx hx]
    simp only [ne_eq, hxy, not_false_eq_true, decide_true, if_true, Option.bind_some, Bool.true_and]
    unfold G.slices_ContainsFunc_api_Take_api_Take__edge_over_is_1 G.slices_IndexFunc_api_Take_api_Take__edge_over_is_1
    rw [find_loop (tx h x).Reads (isO h l y) (fun k => (k : Int)) (some (-1)) (fuel_gt (by omega)) (fun k hk => ?_) ?_, pos_some, Option.bind_some, contains_of_find]
    · rfl
    · simp [G.slices_IndexFunc_api_Take_api_Take__edge_over_is_1_b1, G.slices_IndexFunc_api_Take_api_Take__edge_over_is_1_j1]
    · simp only [G.slices_IndexFunc_api_Take_api_Take__edge_over_is_1_b1, dec_lt, hk, decide_true, if_true, idx_at hk, Option.bind_some, h1, w64_succ (show k < 9223372036854775807 by omega)]
      rfl
theorem pSession {h : G.api_Hist} {x y : Int} (hx : inr h x = true) (hy : inr h y = true) (u : G.edge_session) : G.edge_session_is u h x y = some (decide (x < y) && decide ((tx h x).Session = (tx h y).Session)) := by
  unfold G.edge_session_is
  rw [idx_tx hx, idx_tx hy]
  by_cases h1 : x < y <;> simp [h1]

theorem minmax {h : G.api_Hist} {x y : Int} : (decide (Sh.min x y < 0) = false ∧ decide (Sh.len h.Txns ≤ Sh.max x y) = false) ↔ (inr h x = true ∧ inr h y = true) := by
  rw [decide_eq_false_iff_not, decide_eq_false_iff_not, inr_iff, inr_iff]
  unfold Sh.min Sh.max Sh.len
  split <;> split <;> omega

theorem pDirect {h : G.api_Hist} (hf : Fits h) {l : List G.api_Choice} (hl : l.length < 9223372036854775807) (x y : Int) : G.edge_Direct h l x y = some (direct h l x y) := by
  unfold G.edge_Direct G.edge_some__lit3 direct two
  rw [pRight hf]
  simp only [Option.bind_some, G.edge_some__lit3_j1]
  cases hr : right h
  · simp
  · by_cases hin : inr h x = true ∧ inr h y = true
    · obtain ⟨m1, m2⟩ := (minmax (h := h)).2 hin
      obtain ⟨hx, hy⟩ := hin
      simp only [m1, m2, hx, hy, Bool.not_true, Bool.false_eq_true, if_false, Bool.and_self, Bool.true_and]
      unfold G.slices_ContainsFunc_edge_kind_edge_kind__lit3_edge_some_1 G.slices_IndexFunc_edge_kind_edge_kind__lit3_edge_some_1 G.edge_some_1__edge_session G.edge_some_1__edge_read G.edge_some_1__edge_written
      rw [pSession hx hy, pRead hf hy, pWritten hf hx hy hl]
      simp only [Option.bind_some, G.slices_IndexFunc_edge_kind_edge_kind__lit3_edge_some_1_j1, dirS]
      cases decide (x < y) && decide ((tx h x).Session = (tx h y).Session)
      · cases (tx h y).Reads.any (fun r => decide (r.From = x))
        · cases l.any (isW h x y) <;> simp
        · simp
      · simp
    · have hm : ¬ (decide (Sh.min x y < 0) = false ∧ decide (Sh.len h.Txns ≤ Sh.max x y) = false) := fun hm => hin ((minmax (h := h)).1 hm)
      have hz : (inr h x && inr h y) = false := by
        cases a : inr h x <;> cases b : inr h y <;> simp_all
      rw [Bool.true_and, hz]
      simp only [Bool.not_true, Bool.false_eq_true, if_false, Bool.false_and]
      cases m1 : decide (Sh.min x y < 0)
      · cases m2 : decide (Sh.len h.Txns ≤ Sh.max x y)
        · exact absurd ⟨m1, m2⟩ hm
        · simp
      · simp
theorem pAnti {h : G.api_Hist} (hf : Fits h) {l : List G.api_Choice} (hl : l.length < 9223372036854775807) (x y : Int) : G.edge_Anti h l x y = some (anti h l x y) := by
  unfold G.edge_Anti G.edge_some__lit1 anti two
  rw [pRight hf]
  simp only [Option.bind_some, G.edge_some__lit1_j1]
  cases hr : right h
  · simp
  · by_cases hin : inr h x = true ∧ inr h y = true
    · obtain ⟨m1, m2⟩ := (minmax (h := h)).2 hin
      obtain ⟨hx, hy⟩ := hin
      simp only [m1, m2, hx, hy, Bool.not_true, Bool.false_eq_true, if_false, Bool.and_self, Bool.true_and]
      unfold G.slices_ContainsFunc_edge_kind_edge_kind__lit1_edge_some_1 G.slices_IndexFunc_edge_kind_edge_kind__lit1_edge_some_1 G.edge_some_1__edge_over
      rw [pOver hf hx hy hl]
      simp only [Option.bind_some, G.slices_IndexFunc_edge_kind_edge_kind__lit1_edge_some_1_j1]
      cases antS h l x y <;> simp
    · have hm : ¬ (decide (Sh.min x y < 0) = false ∧ decide (Sh.len h.Txns ≤ Sh.max x y) = false) := fun hm => hin ((minmax (h := h)).1 hm)
      have hz : (inr h x && inr h y) = false := by
        cases a : inr h x <;> cases b : inr h y <;> simp_all
      rw [Bool.true_and, hz]
      simp only [Bool.not_true, Bool.false_eq_true, if_false, Bool.false_and]
      cases m1 : decide (Sh.min x y < 0)
      · cases m2 : decide (Sh.len h.Txns ≤ Sh.max x y)
        · exact absurd ⟨m1, m2⟩ hm
        · simp
      · simp
theorem pIs {h : G.api_Hist} (hf : Fits h) {l : List G.api_Choice} (hl : l.length < 9223372036854775807) (lev x y : Int) : G.edge_Is h lev l x y = some (edge h lev l x y) := by
  unfold G.edge_Is edge
  rw [pDirect hf hl, pAnti hf hl]
  simp only [Option.bind_some]
  by_cases h0 : lev = 0
  · subst h0
    simp only [decide_true, if_true]
    cases direct h l x y <;> simp
  · by_cases h1 : lev = 1
    · subst h1
      simp only [h0, decide_false, Bool.false_eq_true, if_false, decide_true, if_true]
      have hrl : (List.range h.Txns.length).length = h.Txns.length := by simp
      have ht := hf.txns
      rw [any_loop (List.range h.Txns.length) (fun m => direct h l x m && (decide ((m : Int) = y) || anti h l m y)) true (some false) (fuel_gt (by omega)) (fun k hk => ?_) ?_]
      · cases (List.range h.Txns.length).any (fun m => direct h l x m && (decide ((m : Int) = y) || anti h l m y)) <;> rfl
      · simp [G.edge_Is_b1, G.edge_Is_j1, dec_lt]
      · rw [hrl] at hk
        simp only [G.edge_Is_b1, dec_lt, hk, decide_true, if_true, pDirect hf hl, pAnti hf hl, Option.bind_some, G.edge_Is_j2, w64_succ (show k < 9223372036854775807 by omega), List.getElem_range]
        cases direct h l x k
        · rfl
        · by_cases hy : (k : Int) = y
          · simp [hy, Sh.exit]
          · cases anti h l k y <;> simp [hy, Sh.exit, Sh.next]
    · simp [h0, h1, G.edge_Is_j1]
end Pl
end

section
/- Rings of edges, and what the reference answers of edges. -/
namespace Pl
open Go Go.Av

def okRing (h : G.api_Hist) (lev : Int) (l : List G.api_Choice) (row : List Int) (i : Nat) : Bool :=
  !((row.take i).any (fun x => decide (row.getD i 0 = x))) && edge h lev l (row.getD i 0) (row.getD ((i + 1) % row.length) 0)
theorem ring_eq (h : G.api_Hist) (lev : Int) (l : List G.api_Choice) (row : List Int) :
    ring h lev l row = if ∀ k, k < row.length → okRing h lev l row k = true then decide (0 < row.length) else false := by
  unfold ring
  by_cases hq : ∀ k, k < row.length → okRing h lev l row k = true
  · rw [if_pos hq]
    have : (List.range row.length).all (okRing h lev l row) = true := List.all_eq_true.2 fun k hk => hq k (List.mem_range.1 hk)
    rw [show (List.range row.length).all (fun i => !((row.take i).any (fun x => decide (row.getD i 0 = x))) && edge h lev l (row.getD i 0) (row.getD ((i + 1) % row.length) 0)) = true from this, Bool.and_true]
  · rw [if_neg hq]
    have : (List.range row.length).all (okRing h lev l row) = false := by
      cases hc : (List.range row.length).all (okRing h lev l row) with
      | false => rfl
      | true => exact absurd (fun k hk => List.all_eq_true.1 hc k (List.mem_range.2 hk)) hq
    rw [show (List.range row.length).all (fun i => !((row.take i).any (fun x => decide (row.getD i 0 = x))) && edge h lev l (row.getD i 0) (row.getD ((i + 1) % row.length) 0)) = false from this, Bool.and_false]
theorem getD_at {l : List Int} {k : Nat} (h : k < l.length) : l.getD k 0 = l[k] := by simp [List.getD, List.getElem?_eq_getElem h]
theorem rem_ok {a b : Nat} (hb : 0 < b) (ha : a < 9223372036854775808) (hb2 : b < 9223372036854775808) : Sh.rem (a : Int) (b : Int) = some ((a % b : Nat) : Int) := by
  unfold Sh.rem
  have : (b : Int) ≠ 0 := by omega
  simp only [this, ne_eq, not_false_eq_true, if_true]
  rw [Int.tmod_eq_emod_of_nonneg (by omega)]
  rfl
theorem pCycle {h : G.api_Hist} (hf : Fits h) {l : List G.api_Choice} (hl : l.length < 9223372036854775807) (lev : Int) {row : List Int} (hw : row.length < 9223372036854775808) :
    G.edge_Cycle h lev l row = some (ring h lev l row) := by
  unfold G.edge_Cycle
  rw [ring_eq]
  refine scan0 row.length (okRing h lev l row) (decide (0 < row.length)) false (fuel_gt (by omega)) (fun k hk => ?_) ?_
  · have hm : (k + 1) % row.length < row.length := Nat.mod_lt _ (by omega)
    simp only [G.edge_Cycle_b1, dec_lt, hk, decide_true, if_true, idx_at hk, Option.bind_some, len_eq]
    rw [show Sh.sub row 0 (k : Int) = some (row.take k) by simpa using sub_ok (l := row) (m := 0) (k := k) (by omega) (by omega)]
    rw [Option.bind_some, pHas (by simp; omega), Option.bind_some]
    unfold okRing
    rw [getD_at hk, getD_at hm]
    cases hc : (row.take k).any (fun x => decide (row[k] = x)) with
    | true => simp [G.edge_Cycle_j2, Sh.exit]
    | false =>
      rw [if_neg (by simp), w64_succ (by omega), rem_ok (by omega) (by omega) (by omega)]
      simp only [Option.bind_some, idx_at hm, pIs hf hl, G.edge_Cycle_j2, w64_succ (show k < 9223372036854775807 by omega)]
      cases edge h lev l row[k] row[(k + 1) % row.length] <;> simp [Sh.exit, Sh.next]
  · simp [G.edge_Cycle_b1, G.edge_Cycle_j1, Sh.exit, len_eq]

/-! ### The reference -/
end Pl
end

section
/- The reference's word on histories: whether one may be, and whether it is small. -/
namespace Pl
open Go Go.Av

/-- The same, asked at each place. -/
def step {α : Type} (key : α → Int) (ok : α → Bool) (l : List α) (k : Nat) : Bool :=
  match l[k]? with
  | none => true
  | some x => decide (0 ≤ key x) && decide (key x < 16) && ok x && (decide (k = 0) || match l[k - 1]? with | none => true | some y => decide (key y < key x))
theorem okAll_iff (h : G.api_Hist) : ∀ (l : List G.api_Txn) (n : Nat), okAll h n l = decide (∀ k (hk : k < l.length), okT h ((n + k : Nat) : Int) l[k] = true)
  | [], n => by simp [okAll]
  | t :: l, n => by
    rw [show okAll h n (t :: l) = (okT h (n : Nat) t && okAll h (n + 1) l) from rfl, okAll_iff h l (n + 1), Bool.eq_iff_iff, Bool.and_eq_true, decide_eq_true_eq, decide_eq_true_eq]
    constructor
    · rintro ⟨h1, h2⟩ k hk
      cases k with
      | zero => simpa using h1
      | succ k =>
        have := h2 k (by simpa using hk)
        rw [show n + 1 + k = n + (k + 1) by omega] at this
        simpa using this
    · intro h1
      refine ⟨h1 0 (by simp), fun k hk => ?_⟩
      have := h1 (k + 1) (by simpa using hk)
      rw [show n + 1 + k = n + (k + 1) by omega]
      simpa using this
/-! ### Small histories -/
theorem dec_len_gt {α : Type} (l : List α) : decide ((20 : Int) < Sh.len l) = !decide (l.length ≤ 20) := by
  by_cases h : l.length ≤ 20 <;> simp [h, Sh.len] <;> omega
def few (h : G.api_Hist) (m : Int) : Bool := decide ((h.Txns.length : Int) ≤ m) && h.Txns.all (fun t => decide (t.Writes.length ≤ 20) && decide (t.Reads.length ≤ 20))
theorem rFew {h : G.api_Hist} {m : Int} (hm : m < 9223372036854775807) : G.inquestref08_Few h m = some (few h m) := by
  unfold G.inquestref08_Few few
  by_cases h1 : (h.Txns.length : Int) ≤ m
  · have h2 : ¬ m < (h.Txns.length : Int) := by omega
    simp only [Sh.len, h2, decide_false, Bool.false_eq_true, if_false, h1, decide_true, Bool.true_and]
    rw [any_loop h.Txns (fun t => !(decide (t.Writes.length ≤ 20) && decide (t.Reads.length ≤ 20))) false (some true) (fuel_gt (by omega)) (fun k hk => ?_) ?_]
    · rw [List.any_eq_not_all_not]
      simp only [Bool.not_not]
      cases h.Txns.all (fun t => decide (t.Writes.length ≤ 20) && decide (t.Reads.length ≤ 20)) <;> rfl
    · simp [G.inquestref08_Few_b1, G.inquestref08_Few_j1]
    · simp only [G.inquestref08_Few_b1, dec_lt, hk, decide_true, if_true, idx_at hk, Option.bind_some, dec_len_gt, G.inquestref08_Few_j2, w64_succ (show k < 9223372036854775807 by omega), Sh.exit, Sh.next, Option.map_some]
      by_cases a : (h.Txns[k]).Writes.length ≤ 20 <;> by_cases b : (h.Txns[k]).Reads.length ≤ 20 <;> simp [a, b]
  · have h2 : m < (h.Txns.length : Int) := by omega
    simp [Sh.len, h2, h1]
theorem few_fits {h : G.api_Hist} {m : Int} (hm : m < 9223372036854775807) (hf : few h m = true) : Fits h := by
  simp only [few, Bool.and_eq_true, decide_eq_true_eq, List.all_eq_true] at hf
  exact ⟨by omega, fun t ht => by have := (hf.2 t ht).1; omega, fun t ht => by have := (hf.2 t ht).2; omega⟩
end Pl
end

section
/- Law 19, first half: edges as the reference sees them; what one more choice adds. -/
namespace Pl
open Go Go.Av

theorem awake19 : G.inquestlaw19_awake = some true := by kernel_rfl
/-! ### One choice more -/
def one (h : G.api_Hist) (c : G.api_Choice) : Bool := decide (c.A ≠ c.B) && inr h c.A && inr h c.B && hasW (tx h c.A) c.Key && hasW (tx h c.B) c.Key
theorem pOne1 {h : G.api_Hist} (hf : Fits h) (x k : Int) : G.choice_Right_1__1 x k h = some (inr h x && hasW (tx h x) k) := by
  unfold G.choice_Right_1__1
  by_cases hx : inr h x = true
  · obtain ⟨a, b⟩ := inr_iff.1 hx
    have := hf.writes _ (tx_mem hx)
    rw [if_pos (by simpa using a), if_pos (by simpa [Sh.len] using b), idx_tx hx, Option.bind_some, pHas (by omega), Option.bind_some, hx]
    rfl
  · have h1 : inr h x = false := by simpa using hx
    rw [h1]
    unfold inr at h1
    by_cases a : 0 ≤ x <;> by_cases b : x < (h.Txns.length : Int) <;> simp [a, b, Sh.len] at h1 ⊢
theorem pOne2 {h : G.api_Hist} (hf : Fits h) (c : G.api_Choice) : G.choice_Right_2__1 c h = some (!one h c) := by
  unfold G.choice_Right_2__1 one
  rw [pOne1 hf, pOne1 hf]
  simp only [Option.bind_some]
  by_cases a : c.A = c.B
  · simp [a]
  · simp only [a, decide_false, Bool.false_eq_true, if_false, ne_eq, not_false_eq_true, decide_true, Bool.true_and]
    cases inr h c.A <;> cases hasW (tx h c.A) c.Key <;> cases inr h c.B <;> cases hasW (tx h c.B) c.Key <;> rfl
theorem pChoice {h : G.api_Hist} (hf : Fits h) {l : List G.api_Choice} (hl : l.length ≤ 20000) : G.choice_Right h l = some (right h && l.all (one h)) := by
  unfold G.choice_Right G.choice_Right_j1
  rw [pRight hf]
  simp only [Option.bind_some]
  have hd : decide ((20000 : Int) < Sh.len l) = false := by simp [Sh.len]; omega
  rw [hd]
  have : G.slices_ContainsFunc_api_Choice_api_Choice__choice_Right_2 l h = some (!(l.all (one h))) := by
    unfold G.slices_ContainsFunc_api_Choice_api_Choice__choice_Right_2 G.slices_IndexFunc_api_Choice_api_Choice__choice_Right_2
    rw [find_loop l (fun c => !one h c) (fun k => (k : Int)) (some (-1)) (fuel_gt (by omega)) (fun k hk => ?_) ?_, pos_some, Option.bind_some, contains_of_find]
    · rw [List.any_eq_not_all_not]; simp
    · simp [G.slices_IndexFunc_api_Choice_api_Choice__choice_Right_2_b1, G.slices_IndexFunc_api_Choice_api_Choice__choice_Right_2_j1]
    · simp only [G.slices_IndexFunc_api_Choice_api_Choice__choice_Right_2_b1, dec_lt, hk, decide_true, if_true, idx_at hk, Option.bind_some, pOne2 hf, w64_succ (show k < 9223372036854775807 by omega)]
      rfl
  rw [this]
  cases right h <;> simp

theorem from_ok {h : G.api_Hist} (hr : right h = true) {t : G.api_Txn} (ht : t ∈ h.Txns) {r : G.api_Take} (hm : r ∈ t.Reads) (h0 : ¬ r.From < 0) : inr h r.From = true ∧ hasW (tx h r.From) r.Key = true := by
  obtain ⟨n, hn⟩ := right_reads hr ht
  have := takes_there hn r hm
  simp only [there, Bool.or_eq_true, Bool.and_eq_true, decide_eq_true_eq] at this
  rcases this with h1 | h1
  · omega
  · obtain ⟨⟨⟨a, b⟩, _⟩, d⟩ := h1
    refine ⟨inr_iff.2 ⟨a, b⟩, ?_⟩
    unfold tx
    have hi : r.From.toNat < h.Txns.length := by omega
    rw [List.getElem?_eq_getElem hi] at d ⊢
    exact d
end Pl
end

section
/- Facts: what follows from what; the program's answer and the reference's. -/


namespace Pl
open Go Go.Av

def back (c : G.api_Choice) : G.api_Choice := ⟨c.Key, c.B, c.A⟩
def may (h : G.api_Hist) (lev : Int) : Bool := right h && (decide (lev = 0) || decide (lev = 1))
/-! ### The program -/
theorem pHasT {l : List G.api_Take} (hl : l.length < 9223372036854775807) (v : G.api_Take) : G.slices_Contains_api_Take_api_Take l v = some (l.any (fun c => decide (v = c))) := by
  unfold G.slices_Contains_api_Take_api_Take G.slices_Index_api_Take_api_Take
  rw [find_loop l (fun c => decide (v = c)) (fun k => (k : Int)) (some (-1)) (fuel_gt (by omega)) (fun k hk => ?_) ?_, pos_some, Option.bind_some, contains_of_find]
  · simp [G.slices_Index_api_Take_api_Take_b1, G.slices_Index_api_Take_api_Take_j1]
  · simp only [G.slices_Index_api_Take_api_Take_b1, dec_lt, hk, decide_true, if_true, idx_at hk, Option.bind_some, w64_succ (show k < 9223372036854775807 by omega)]
    rfl
/-! ### What more facts add -/
/-! ### The reference -/
def fromR (h : G.api_Hist) (t key : Int) : Option Int :=
  if right h && inr h t then ((tx h t).Reads.findIdx? (fun r => decide (r.Key = key))).map (fun k => ((tx h t).Reads.getD k default).From) else none
theorem takes_gt {h : G.api_Hist} {n : Int} : ∀ {l : List G.api_Take} {last : Int}, takes h n last l = true → ∀ r ∈ l, last < r.Key
  | [], _, _, r, hr => by cases hr
  | x :: l, last, ht, r, hr => by
    rw [show takes h n last (x :: l) = (decide (last < x.Key) && decide (x.Key < 16) && there h n x && takes h n x.Key l) from rfl] at ht
    simp only [Bool.and_eq_true, decide_eq_true_eq] at ht
    rcases List.mem_cons.1 hr with rfl | hr
    · exact ht.1.1.1
    · have := takes_gt ht.2 r hr; have := ht.1.1.1; omega
theorem takes_one {h : G.api_Hist} {n : Int} : ∀ {l : List G.api_Take} {last : Int}, takes h n last l = true → ∀ r ∈ l, ∀ s ∈ l, r.Key = s.Key → r = s
  | [], _, _, r, hr, _, _, _ => by cases hr
  | x :: l, last, ht, r, hr, s, hs, he => by
    rw [show takes h n last (x :: l) = (decide (last < x.Key) && decide (x.Key < 16) && there h n x && takes h n x.Key l) from rfl] at ht
    simp only [Bool.and_eq_true, decide_eq_true_eq] at ht
    rcases List.mem_cons.1 hr with h1 | h1
    · rcases List.mem_cons.1 hs with h2 | h2
      · rw [h1, h2]
      · have := takes_gt ht.2 s h2; rw [h1] at he; omega
    · rcases List.mem_cons.1 hs with h2 | h2
      · have := takes_gt ht.2 r h1; rw [h2] at he; omega
      · exact takes_one ht.2 r h1 s h2 he
theorem fromR_iff {h : G.api_Hist} (hr : right h = true) {t key v : Int} (hx : inr h t = true) : fromR h t key = some v ↔ (tx h t).Reads.any (fun r => decide (G.api_Take.mk key v = r)) = true := by
  obtain ⟨n, hn⟩ := right_reads hr (tx_mem hx)
  unfold fromR
  rw [hr, hx]
  simp only [Bool.and_self, if_true, List.any_eq_true, decide_eq_true_eq]
  constructor
  · intro h1
    cases hfi : (tx h t).Reads.findIdx? (fun r => decide (r.Key = key)) with
    | none => rw [hfi] at h1; cases h1
    | some k =>
      rw [hfi] at h1
      rw [List.findIdx?_eq_some_iff_getElem] at hfi
      obtain ⟨hk, hp, _⟩ := hfi
      simp only [Option.map_some, Option.some.injEq, List.getD, List.getElem?_eq_getElem hk, Option.getD_some] at h1
      refine ⟨_, List.getElem_mem hk, ?_⟩
      simp only [decide_eq_true_eq] at hp
      cases hc : (tx h t).Reads[k] with
      | mk K F => rw [hc] at hp h1; simp at hp h1; rw [hp, h1]
  · rintro ⟨r, hm, rfl⟩
    cases hfi : (tx h t).Reads.findIdx? (fun r => decide (r.Key = key)) with
    | none =>
      rw [List.findIdx?_eq_none_iff] at hfi
      have := hfi _ hm
      simp at this
    | some k =>
      rw [List.findIdx?_eq_some_iff_getElem] at hfi
      obtain ⟨hk, hp, _⟩ := hfi
      simp only [decide_eq_true_eq] at hp
      have := takes_one hn _ (List.getElem_mem hk) _ hm hp
      simp [List.getD, List.getElem?_eq_getElem hk, this]
end Pl
end

section
/- Sets of numbers as bits: the program's functions, and the reference's, say the same. -/

namespace Pl
open Go Go.Av

@[simp] theorem bits_bit (i : Int) : G.bits_bit i = some (Bv.bit i) := by
  unfold G.bits_bit G.bits_bit_j1 Bv.bit
  by_cases h : i < 0
  · simp [h]; omega
  · by_cases h2 : 64 ≤ i
    · simp [h, h2]; omega
    · simp [h, h2, Sh.shl, show 0 ≤ i by omega, show i < 64 by omega]
@[simp] theorem bits_With (s : BitVec 64) (i : Int) : G.bits_With s i = some (s ||| Bv.bit i) := by simp [G.bits_With]
theorem has_bit (s : BitVec 64) (i : Int) : decide ((s &&& Bv.bit i) ≠ 0#64) = Bv.has s i := by
  unfold Bv.bit Bv.has
  by_cases h : 0 ≤ i ∧ i < 64
  · rw [if_pos h]
    simp only [h.1, h.2, decide_true, Bool.true_and]
    obtain ⟨k, rfl⟩ : ∃ k : Nat, i = k := ⟨i.toNat, by omega⟩
    have hk : k < 64 := by omega
    simp only [Int.toNat_natCast]
    cases hb : s.getLsbD k with
    | true =>
      rw [decide_eq_true_eq]
      intro h0
      have := congrArg (fun x : BitVec 64 => x.getLsbD k) h0
      simp only [BitVec.getLsbD_and, BitVec.getLsbD_shiftLeft, hk, hb, BitVec.getLsbD_zero] at this
      simp [BitVec.getLsbD_one] at this
    | false =>
      rw [decide_eq_false_iff_not]
      refine not_not_intro ?_
      apply Bv.ext
      intro j hj
      simp only [BitVec.getLsbD_and, BitVec.getLsbD_shiftLeft, hj, decide_true, Bool.true_and, BitVec.getLsbD_zero]
      by_cases hjk : j = k
      · subst hjk; simp [hb]
      · by_cases hlt : j < k
        · simp [hlt]
        · simp [hlt, BitVec.getLsbD_one]; omega
  · rw [if_neg h]
    simp only [BitVec.and_zero, ne_eq, not_true_eq_false, decide_false]
    by_cases h0 : 0 ≤ i
    · have : ¬ i < 64 := fun h1 => h ⟨h0, h1⟩
      simp [this]
    · simp [h0]
@[simp] theorem bits_Has (s : BitVec 64) (i : Int) : G.bits_Has s i = some (Bv.has s i) := by
  simp only [G.bits_Has, bits_bit, Option.bind_some, has_bit]
@[simp] theorem bits_Sub (a b : BitVec 64) : G.bits_Sub a b = some (decide (a &&& ~~~b = 0#64)) := rfl

def join (l : List (BitVec 64)) : BitVec 64 := l.foldl (· ||| ·) 0#64
theorem join_take (l : List (BitVec 64)) (k : Nat) (h : k < l.length) : join (l.take (k+1)) = join (l.take k) ||| l[k] := by
  unfold join
  rw [List.take_succ_eq_append_getElem h, List.foldl_append]; rfl
theorem bits_Join (l : List (BitVec 64)) (hl : l.length < 9223372036854775808) : G.bits_Join l = some (join l) := by
  unfold G.bits_Join
  refine count (fun k => join (l.take k)) l.length _ hl (fun k hk => ?_) ?_ rfl
  · simp only [G.bits_Join_b1, len_eq, dec_lt, hk, decide_true, if_true, idx_at hk, Option.bind_some, Sh.next, join_take l k hk, w64_succ (show k < 9223372036854775807 by omega)]
  · simp [G.bits_Join_b1, len_eq, G.bits_Join_j1, Sh.exit]
theorem join_two (a b : BitVec 64) : G.bits_Join [a, b] = some (a ||| b) := by
  rw [bits_Join _ (by simp)]; simp [join]

theorem shr_nat (a : BitVec 64) (n : Nat) : Sh.shr a (n : Int) = some (a >>> n) := by simp [Sh.shr]
theorem ctz_zero : Bv.ctz 0#64 = 64 := by decide
theorem tab_at (s : BitVec 64) (h2 : Bv.ctz s < 64) : Sh.idx Sh.tab8 ((((1#64 <<< Bv.ctz s) * Bv.dB) >>> 58).toNat : Int) = some ((Bv.ctz s : Nat) : Int) := by
  have h4 := Bv.tab_ok ⟨Bv.ctz s, h2⟩
  simp only [Sh.idx, Sh.tab8, List.getElem?_map]
  rw [if_pos (by omega), Int.toNat_natCast, h4]
  rfl
@[simp] theorem tz (s : BitVec 64) : G.bits_TrailingZeros64 s = some (Bv.ctz s : Int) := by
  unfold G.bits_TrailingZeros64
  by_cases h : s = 0#64
  · subst h
    rw [if_pos (decide_eq_true rfl), ctz_zero]; rfl
  · obtain ⟨_, h2, h3⟩ := Bv.list_cons s h
    rw [if_neg (by simpa using h), h3]
    have h5 : Sh.shr ((1#64 <<< Bv.ctz s) * 285870213051353865#64) ((58 : Nat) : Int) = some (((1#64 <<< Bv.ctz s) * 285870213051353865#64) >>> 58) := shr_nat _ _
    have e2 : (((58#64).toNat : Nat) : Int) = ((58 : Nat) : Int) := rfl
    rw [e2, h5]
    have h6 := tab_at s h2
    unfold Bv.dB at h6
    rw [Option.bind_some, h6, Option.bind_some]
    rw [w64_id (by omega) (by omega)]

/-- A set's numbers, as the program has them. -/
def ilist (s : BitVec 64) : List Int := (Bv.list s).map fun (k : Nat) => (k : Int)
theorem ilist_len (s : BitVec 64) : (ilist s).length ≤ 64 := by simp [ilist, Bv.list_length_le]

theorem list_iter : ∀ (n : Nat) (s : BitVec 64) (acc : List Int), (Bv.list s).length < n → acc.length + (Bv.list s).length ≤ 64 →
    Sh.iter (fun (p : (BitVec 64) × (List Int)) => G.bits_List_b1 p.1 p.2) n (s, acc) = some (acc ++ ilist s) := by
  intro n
  induction n with
  | zero => intro s acc h; omega
  | succ n ih =>
    intro s acc h1 h2
    by_cases h : s = 0#64
    · subst h
      simp [Sh.iter, G.bits_List_b1, G.bits_List_j1, Sh.exit, ilist, Bv.list_zero]
    · obtain ⟨e, _, _⟩ := Bv.list_cons s h
      have hl : (Bv.list s).length = (Bv.list (s &&& (s - 1#64))).length + 1 := by rw [e]; simp
      have ha : Sh.app 8 acc [((Bv.ctz s : Nat) : Int)] = some (acc ++ [((Bv.ctz s : Nat) : Int)]) := app_ok (by simp; omega)
      have hb : G.bits_List_b1 s acc = some (.inl (s &&& (s - 1#64), acc ++ [((Bv.ctz s : Nat) : Int)])) := by
        simp only [G.bits_List_b1, h, ne_eq, not_false_eq_true, decide_true, if_true, tz, Option.bind_some, ha, Sh.next]
      simp only [Sh.iter, hb]
      rw [ih _ _ (by omega) (by simp; omega)]
      simp only [ilist, Option.some.injEq]
      rw [e]; simp
@[simp] theorem bits_List (s : BitVec 64) : G.bits_List s = some (ilist s) := by
  have := Bv.list_length_le s
  have h := list_iter Sh.FUEL s [] (Nat.lt_of_le_of_lt this (fuel_gt (by omega))) (by simpa using this)
  simpa [G.bits_List, Sh.loop] using h
/-! ### The reference -/
theorem has_nat (s : BitVec 64) {k : Nat} (hk : k < 64) : Bv.has s (k : Int) = s.getLsbD k := by
  unfold Bv.has
  have h1 : (0 : Int) ≤ (k : Int) := by omega
  have h2 : (k : Int) < 64 := by omega
  simp [h2]
theorem sub_iff (a b : BitVec 64) : a &&& ~~~b = 0#64 ↔ ∀ i, a.getLsbD i = true → b.getLsbD i = true := by
  constructor
  · intro h i hi
    have hi64 : i < 64 := by
      rcases Nat.lt_or_ge i 64 with h | h
      · exact h
      · simp [BitVec.getLsbD_of_ge a i h] at hi
    have := congrArg (fun x : BitVec 64 => x.getLsbD i) h
    simp only [BitVec.getLsbD_and, BitVec.getLsbD_not, hi64, decide_true, Bool.true_and, BitVec.getLsbD_zero, hi] at this
    simpa using this
  · intro h
    apply Bv.ext
    intro i hi
    simp only [BitVec.getLsbD_and, BitVec.getLsbD_not, hi, decide_true, Bool.true_and, BitVec.getLsbD_zero]
    cases ha : a.getLsbD i with
    | true => simp [h i ha]
    | false => rfl
end Pl
namespace Pl
open Go Go.Av
end Pl
end

section
/- Graphs as rows of bits: the program's functions and the reference's, over the edges. -/

namespace Pl
open Go Go.Av

/-- A row of a graph of n nodes. -/
def row : Nat → (Nat → Bool) → BitVec 64
  | 0, _ => 0#64
  | n + 1, p => if p n then row n p ||| (1#64 <<< n) else row n p
theorem shift_get (k i : Nat) (hk : k < 64) : (1#64 <<< k).getLsbD i = decide (i = k) := by
  by_cases hi : i < 64
  · simp only [BitVec.getLsbD_shiftLeft, hi, decide_true, Bool.true_and]
    by_cases hik : i = k
    · subst hik; simp
    · by_cases hlt : i < k
      · simp [hlt, hik]
      · simp [hlt, hik, BitVec.getLsbD_one]; omega
  · have : ¬ i = k := by omega
    simp [BitVec.getLsbD_of_ge _ i (show 64 ≤ i by omega), this]
theorem row_get {n : Nat} (hn : n ≤ 64) (p : Nat → Bool) (i : Nat) : (row n p).getLsbD i = (decide (i < n) && p i) := by
  induction n with
  | zero => simp [row]
  | succ n ih =>
    have ih := ih (by omega)
    unfold row
    by_cases hp : p n = true
    · rw [if_pos hp, BitVec.getLsbD_or, ih, shift_get n i (by omega)]
      by_cases h : i = n
      · subst h; simp [hp]
      · by_cases h2 : i < n
        · simp [h, h2, show i < n + 1 by omega]
        · simp [h, h2, show ¬ i < n + 1 by omega]
    · rw [if_neg hp, ih]
      by_cases h : i = n
      · subst h; simp [hp]
      · by_cases h2 : i < n
        · simp [h2, show i < n + 1 by omega]
        · simp [h2, show ¬ i < n + 1 by omega]
def rows (n : Nat) (f : Nat → Nat → Bool) : List (BitVec 64) := (List.range n).map fun x => row n (f x)
@[simp] theorem rows_len (n : Nat) (f : Nat → Nat → Bool) : (rows n f).length = n := by simp [rows]
theorem rows_at {n : Nat} {f : Nat → Nat → Bool} {x : Nat} (h : x < (rows n f).length) : (rows n f)[x] = row n (f x) := by simp [rows]
theorem rows_idx {n : Nat} {f : Nat → Nat → Bool} {x : Nat} (h : x < n) : Sh.idx (rows n f) (x : Int) = some (row n (f x)) := by
  rw [idx_at (by simpa using h), rows_at]
abbrev gr (n : Nat) (f : Nat → Nat → Bool) : G.graph_Graph := ⟨(n : Int), rows n f⟩
theorem row_ext {n : Nat} (hn : n ≤ 64) {p q : Nat → Bool} : row n p = row n q ↔ ∀ i, i < n → p i = q i := by
  constructor
  · intro h i hi
    have := congrArg (fun x : BitVec 64 => x.getLsbD i) h
    simpa [row_get hn, hi] using this
  · intro h
    apply Bv.ext
    intro i _
    rw [row_get hn, row_get hn]
    by_cases hi : i < n
    · simp [hi, h i hi]
    · simp [hi]
theorem rows_ext {n : Nat} (hn : n ≤ 64) {f h : Nat → Nat → Bool} : rows n f = rows n h ↔ ∀ x y, x < n → y < n → f x y = h x y := by
  constructor
  · intro e x y hx hy
    have h1 : (rows n f)[x]? = (rows n h)[x]? := by rw [e]
    rw [List.getElem?_eq_getElem (by simpa using hx), List.getElem?_eq_getElem (by simpa using hx), rows_at, rows_at] at h1
    exact (row_ext hn).1 (Option.some.inj h1) y hy
  · intro e
    unfold rows
    apply List.map_congr_left
    intro x hx
    exact (row_ext hn).2 (fun y hy => e x y (by simpa using hx) hy)
/-- May it be a graph? -/
def rightB (N : Int) (R : List (BitVec 64)) : Bool := decide (0 ≤ N ∧ N ≤ 64 ∧ (R.length : Int) = N ∧ ∀ r ∈ R, ∀ i : Nat, i < 64 → N ≤ (i : Int) → r.getLsbD i = false)
theorem right_rows {n : Nat} (hn : n ≤ 64) (f : Nat → Nat → Bool) : rightB (n : Int) (rows n f) = true := by
  refine decide_eq_true ⟨by omega, by omega, by simp, fun r hr i _ hi => ?_⟩
  simp only [rows, List.mem_map] at hr
  obtain ⟨x, _, rfl⟩ := hr
  rw [row_get hn]
  have : ¬ i < n := by omega
  simp [this]
/-! ### The program's -/
theorem nodes_get (n : Nat) (hn : n ≤ 64) (i : Nat) (hi : i < 64) : ((1#64 <<< n) - 1#64).getLsbD i = decide (i < n) := by
  rcases Nat.lt_or_ge n 64 with h | h
  · have e : ((1#64 <<< n) - 1#64).toNat = 2 ^ n - 1 := by
      have h1 : 2 ^ n < 2 ^ 64 := Nat.pow_lt_pow_right (by omega) h
      have h2 : 0 < 2 ^ n := Nat.pow_pos (by omega)
      rw [BitVec.toNat_sub]
      simp only [BitVec.toNat_shiftLeft, BitVec.toNat_ofNat, Nat.shiftLeft_eq]
      omega
    simp only [BitVec.getLsbD, e, Nat.testBit_two_pow_sub_one]
  · have : n = 64 := by omega
    subst this
    have e : (1#64 <<< 64) - 1#64 = BitVec.allOnes 64 := by decide
    rw [e, BitVec.getLsbD_allOnes]
theorem join_get (l : List (BitVec 64)) (i : Nat) : (join l).getLsbD i = l.any (·.getLsbD i) := by
  have key : ∀ (l : List (BitVec 64)) (a : BitVec 64), (l.foldl (· ||| ·) a).getLsbD i = (a.getLsbD i || l.any (·.getLsbD i)) := by
    intro l
    induction l with
    | nil => intro a; simp
    | cons x l ih => intro a; simp [ih, Bool.or_assoc]
  simp [join, key]
theorem graph_Right (g : G.graph_Graph) (hl : g.Rows.length < 9223372036854775808) : G.graph_Right g = some (rightB g.N g.Rows) := by
  unfold G.graph_Right G.graph_nodes rightB
  by_cases h1 : 0 ≤ g.N
  · by_cases h2 : g.N ≤ 64
    · by_cases h3 : (g.Rows.length : Int) = g.N
      · have hs : Sh.shl 1#64 g.N = some (1#64 <<< g.N.toNat) := by simp [Sh.shl, h1]
        simp only [h1, h2, h3, decide_true, if_true, bits_Join _ hl, hs, Option.bind_some, bits_Sub, true_and, Option.some.injEq]
        congr 1
        apply propext
        rw [sub_iff]
        constructor
        · intro h r hr i hi hN
          cases hb : r.getLsbD i with
          | false => rfl
          | true =>
            have := h i (by rw [join_get, List.any_eq_true]; exact ⟨r, hr, hb⟩)
            rw [nodes_get _ (by omega) i hi] at this
            have := of_decide_eq_true this
            omega
        · intro h i hi
          have hi64 : i < 64 := by
            rcases Nat.lt_or_ge i 64 with h' | h'
            · exact h'
            · rw [BitVec.getLsbD_of_ge _ i h'] at hi; cases hi
          rw [nodes_get _ (by omega) i hi64]
          apply decide_eq_true
          rw [join_get, List.any_eq_true] at hi
          obtain ⟨r, hr, hb⟩ := hi
          rcases Nat.lt_or_ge i g.N.toNat with h' | h'
          · exact h'
          · rw [h r hr i hi64 (by omega)] at hb; cases hb
      · simp [h1, h2, h3]
    · simp [h1, h2]
  · simp [h1]
@[simp] theorem Right_gr {n : Nat} (hn : n ≤ 64) (f : Nat → Nat → Bool) : G.graph_Right (gr n f) = some true := by
  rw [graph_Right _ (by simp; omega)]
  exact congrArg some (right_rows hn f)
theorem graph_New (n : Nat) (hn : n ≤ 64) : G.graph_New (n : Int) = some (⟨(n : Int), List.replicate n 0#64⟩, 0) := by
  unfold G.graph_New G.graph_New_j1
  have h1 : ¬ (n : Int) < 0 := by omega
  have h2 : ¬ (64 : Int) < (n : Int) := by omega
  simp only [h1, h2, decide_false, Bool.false_eq_true, if_false, mk_ok (show 8 * n ≤ 140737488355328 by omega) (show n ≤ 4611686018427387904 by omega), Option.bind_some]
theorem zero_rows (n : Nat) : List.replicate n 0#64 = rows n (fun _ _ => false) := by
  unfold rows
  apply List.ext_getElem (by simp)
  intro x h1 h2
  simp only [List.getElem_replicate, List.getElem_map]
  have : ∀ m, row m (fun _ => false) = 0#64 := fun m => by
    induction m with
    | zero => rfl
    | succ m ih => simp [row, ih]
  rw [this]
theorem row_has {n : Nat} (hn : n ≤ 64) (p : Nat → Bool) {k : Nat} (hk : k < n) : Bv.has (row n p) (k : Int) = p k := by
  rw [has_nat _ (by omega), row_get hn]; simp [hk]
theorem row_has_out {n : Nat} (hn : n ≤ 64) (p : Nat → Bool) {b : Int} (hb : b < 0 ∨ (n : Int) ≤ b) : Bv.has (row n p) b = false := by
  unfold Bv.has
  rcases hb with hb | hb
  · have : ¬ 0 ≤ b := by omega
    simp [this]
  · rw [row_get hn]
    have : ¬ b.toNat < n := by omega
    simp [this]
/-- Whether a graph has an edge: of whatever numbers. -/
def hasB (n : Nat) (f : Nat → Nat → Bool) (a b : Int) : Bool := decide (0 ≤ a ∧ a < n ∧ 0 ≤ b ∧ b < n) && f a.toNat b.toNat
theorem graph_Has {n : Nat} (hn : n ≤ 64) (f : Nat → Nat → Bool) (a b : Int) : G.graph_Has (gr n f) a b = some (hasB n f a b) := by
  unfold G.graph_Has hasB
  simp only [Right_gr hn, Option.bind_some, if_true]
  by_cases h1 : 0 ≤ a
  · by_cases h2 : a < n
    · obtain ⟨k, rfl⟩ : ∃ k : Nat, a = k := ⟨a.toNat, by omega⟩
      have hk : k < n := by omega
      simp only [h1, h2, decide_true, if_true, rows_idx hk, Option.bind_some, bits_Has]
      by_cases h3 : 0 ≤ b ∧ b < n
      · obtain ⟨j, rfl⟩ : ∃ j : Nat, b = j := ⟨b.toNat, by omega⟩
        rw [row_has hn _ (by omega)]
        simp [h3]
      · rw [row_has_out hn _ (by omega)]
        have : ¬ (True ∧ True ∧ 0 ≤ b ∧ b < n) := fun h => h3 h.2.2
        rw [decide_eq_false this]; rfl
    · simp [h1, h2]
  · simp [h1]
theorem row_with {n : Nat} (hn : n ≤ 64) (p : Nat → Bool) {k : Nat} (hk : k < n) : row n p ||| Bv.bit (k : Int) = row n (fun i => p i || decide (i = k)) := by
  apply Bv.ext
  intro i hi
  rw [row_get hn, BitVec.getLsbD_or, row_get hn]
  have hb : Bv.bit (k : Int) = 1#64 <<< k := by unfold Bv.bit; rw [if_pos ⟨by omega, by omega⟩]; simp
  rw [hb]
  simp only [BitVec.getLsbD_shiftLeft, hi, decide_true, Bool.true_and]
  by_cases hik : i = k
  · subst hik; simp [hk]
  · by_cases hlt : i < k
    · simp [hlt, hik]
    · simp [hlt, hik, BitVec.getLsbD_one]; omega
theorem rows_set {n : Nat} (f : Nat → Nat → Bool) {x : Nat} (_hx : x < n) (p : Nat → Bool) : (rows n f).set x (row n p) = rows n (fun a => if a = x then p else f a) := by
  apply List.ext_getElem (by simp)
  intro a h1 h2
  rw [List.getElem_set, rows_at, rows_at]
  by_cases ha : x = a
  · subst ha; simp
  · simp [ha, Ne.symm ha]
def addF (f : Nat → Nat → Bool) (a b : Nat) : Nat → Nat → Bool := fun x y => f x y || decide (x = a ∧ y = b)
theorem graph_Add {n : Nat} (hn : n ≤ 64) (f : Nat → Nat → Bool) {a b : Nat} (ha : a < n) (hb : b < n) : G.graph_Add (gr n f) (a : Int) (b : Int) = some (gr n (addF f a b), 0) := by
  unfold G.graph_Add G.graph_Add_j1
  have h1 : ¬ (a : Int) < 0 := by omega
  have h2 : ¬ (n : Int) ≤ (a : Int) := by omega
  have h3 : ¬ (b : Int) < 0 := by omega
  have h4 : ¬ (n : Int) ≤ (b : Int) := by omega
  simp only [Right_gr hn, Option.bind_some, Bool.not_true, Bool.false_eq_true, if_false, h1, h2, h3, h4, decide_false, graph_New n hn, cpy_ok (show (rows n f).length = (List.replicate n 0#64).length by simp), rows_idx ha, bits_With, row_with hn _ hb, set_at, rows_set f ha]
  have e : rows n (fun x => if x = a then (fun i => f a i || decide (i = b)) else f x) = rows n (addF f a b) := by
    rw [rows_ext hn]
    intro x y _ _
    unfold addF
    by_cases hx : x = a
    · subst hx; simp
    · simp [hx]
  rw [e]
/-! ### Rows turned one by one -/
/-- The rows of which the first ones are those of another graph. -/
def mixF (f h : Nat → Nat → Bool) (k : Nat) : Nat → Nat → Bool := fun x y => if x < k then h x y else f x y
theorem mix_zero {n : Nat} (f h : Nat → Nat → Bool) : rows n (mixF f h 0) = rows n f := by
  unfold rows mixF; simp
theorem mix_all {n : Nat} (hn : n ≤ 64) (f h : Nat → Nat → Bool) : rows n (mixF f h n) = rows n h := by
  rw [rows_ext hn]; intro x y hx _; simp [mixF, hx]
theorem mix_set {n : Nat} (hn : n ≤ 64) (f h : Nat → Nat → Bool) {k : Nat} (hk : k < n) : (rows n (mixF f h k)).set k (row n (h k)) = rows n (mixF f h (k + 1)) := by
  rw [rows_set _ hk, rows_ext hn]
  intro x y _ _
  unfold mixF
  by_cases hx : x = k
  · subst hx; simp
  · by_cases hlt : x < k
    · simp [hx, hlt, show x < k + 1 by omega]
    · simp [hx, hlt, show ¬ x < k + 1 by omega]
theorem row_or {n : Nat} (hn : n ≤ 64) (p q : Nat → Bool) : row n p ||| row n q = row n (fun i => p i || q i) := by
  apply Bv.ext
  intro i _
  rw [BitVec.getLsbD_or, row_get hn, row_get hn, row_get hn]
  by_cases hi : i < n <;> simp [hi]

def orF (f h : Nat → Nat → Bool) : Nat → Nat → Bool := fun x y => f x y || h x y
theorem like_gr {n m : Nat} (hn : n ≤ 64) (hm : m ≤ 64) (f h : Nat → Nat → Bool) : G.graph_like (gr n f) (gr m h) = some (decide (n = m)) := by
  unfold G.graph_like
  simp [Right_gr hn, Right_gr hm, Int.ofNat_inj]
theorem graph_Union {n : Nat} (hn : n ≤ 64) (f h : Nat → Nat → Bool) : G.graph_Union (gr n f) (gr n h) = some (gr n (orF f h), 0) := by
  unfold G.graph_Union
  simp only [like_gr hn hn, decide_true, Option.bind_some, Bool.not_true, Bool.false_eq_true, if_false, graph_New n hn]
  refine count (fun k => rows n (mixF (fun _ _ => false) (orF f h) k)) n _ (fuel_gt (by omega)) (fun k hk => ?_) ?_ (by rw [mix_zero, zero_rows])
  · simp only [G.graph_Union_b1, len_eq, List.length_replicate, dec_lt, hk, decide_true, if_true, rows_idx hk, Option.bind_some, join_two, row_or hn, set_at, Sh.next, w64_succ (show k < 9223372036854775807 by omega)]
    have := mix_set hn (fun _ _ => false) (orF f h) hk
    rw [← this]; rfl
  · simp only [G.graph_Union_b1, len_eq, List.length_replicate, Int.lt_irrefl, decide_false, Bool.false_eq_true, if_false, G.graph_Union_j1, exit_some, mix_all hn]
/-! ### A row that gathers -/
/-- The loop over a set's numbers. -/
theorem ilist_at {s : BitVec 64} {k : Nat} (h : k < (Bv.list s).length) : Sh.idx (ilist s) (k : Int) = some (((Bv.list s)[k] : Nat) : Int) := by
  have h' : k < (ilist s).length := by simpa [ilist] using h
  rw [idx_at h']; simp [ilist]
theorem list_row {n : Nat} (hn : n ≤ 64) (p : Nat → Bool) {i : Nat} : i ∈ Bv.list (row n p) ↔ i < n ∧ p i = true := by
  rw [Bv.mem_list, row_get hn]; simp
theorem list_mem_lt {n : Nat} (hn : n ≤ 64) (p : Nat → Bool) {k : Nat} (h : k < (Bv.list (row n p)).length) : (Bv.list (row n p))[k] < n := ((list_row hn p).1 (List.getElem_mem h)).1
theorem any_take {l : List Nat} {k : Nat} (h : k < l.length) (q : Nat → Bool) : (l.take (k + 1)).any q = ((l.take k).any q || q l[k]) := by
  rw [List.take_succ_eq_append_getElem h, List.any_append]; simp
def compF (n : Nat) (f h : Nat → Nat → Bool) : Nat → Nat → Bool := fun x y => (List.range n).any fun z => f x z && h z y
theorem comp_row {n : Nat} (hn : n ≤ 64) (f h : Nat → Nat → Bool) (x : Nat) : row n (fun y => (Bv.list (row n (f x))).any fun z => h z y) = row n (compF n f h x) := by
  rw [row_ext hn]
  intro y _
  unfold compF
  rw [Bool.eq_iff_iff, List.any_eq_true, List.any_eq_true]
  constructor
  · rintro ⟨z, h1, h2⟩
    obtain ⟨h3, h4⟩ := (list_row hn _).1 h1
    exact ⟨z, by simpa using h3, by simp [h4, h2]⟩
  · rintro ⟨z, h1, h2⟩
    simp only [Bool.and_eq_true] at h2
    exact ⟨z, (list_row hn _).2 ⟨by simpa using h1, h2.1⟩, h2.2⟩
theorem comp_inner {n : Nat} (hn : n ≤ 64) (h : Nat → Nat → Bool) (F : Nat → Nat → Bool) {x : Nat} (hx : x < n) (p : Nat → Bool) (hF : ∀ y, y < n → F x y = false) :
    Sh.loop (fun (q : (List (BitVec 64)) × Int) => G.graph_Compose_b2 (gr n h) (x : Int) (ilist (row n p)) q.1 q.2) (rows n F, 0) =
      some (.inl ((rows n F).set x (row n (fun y => (Bv.list (row n p)).any fun z => h z y)), ((x + 1 : Nat) : Int))) := by
  refine count (fun k => (rows n F).set x (row n (fun y => ((Bv.list (row n p)).take k).any fun z => h z y))) (Bv.list (row n p)).length _ (fuel_gt (by have := Bv.list_length_le (row n p); omega)) (fun k hk => ?_) ?_ ?_
  · have hz := list_mem_lt hn p hk
    have hl : Sh.len (ilist (row n p)) = ((Bv.list (row n p)).length : Int) := by simp [ilist, Sh.len]
    have hs : ∀ r : BitVec 64, Sh.idx ((rows n F).set x r) (x : Int) = some r := fun r => by
      rw [idx_at (by simpa using hx)]; simp
    simp only [G.graph_Compose_b2, hl, dec_lt, hk, decide_true, if_true, ilist_at hk, Option.bind_some, hs, rows_idx hz, join_two, row_or hn, set_at, List.set_set, Sh.next, w64_succ (show k < 9223372036854775807 by have := Bv.list_length_le (row n p); omega)]
    congr 5
    funext y
    rw [any_take hk]
  · have hl : Sh.len (ilist (row n p)) = ((Bv.list (row n p)).length : Int) := by simp [ilist, Sh.len]
    simp only [G.graph_Compose_b2, hl, Int.lt_irrefl, decide_false, Bool.false_eq_true, if_false, G.graph_Compose_j2, next_some, exit_some, List.take_length, w64_succ (show x < 9223372036854775807 by omega)]
  · rw [rows_set _ hx, rows_ext hn]
    intro a y _ hy
    by_cases ha : a = x
    · subst ha; simp [hF y hy]
    · simp [ha]
theorem graph_Compose {n : Nat} (hn : n ≤ 64) (f h : Nat → Nat → Bool) : G.graph_Compose (gr n f) (gr n h) = some (gr n (compF n f h), 0) := by
  unfold G.graph_Compose
  simp only [like_gr hn hn, decide_true, Option.bind_some, Bool.not_true, Bool.false_eq_true, if_false, graph_New n hn]
  refine count (fun k => rows n (mixF (fun _ _ => false) (compF n f h) k)) n _ (fuel_gt (by omega)) (fun k hk => ?_) ?_ (by rw [mix_zero, zero_rows])
  · simp only [G.graph_Compose_b1, len_eq, List.length_replicate, dec_lt, hk, decide_true, if_true, rows_idx hk, Option.bind_some, bits_List]
    rw [comp_inner hn h (mixF (fun _ _ => false) (compF n f h) k) hk (f k) (fun y _ => by simp [mixF]), comp_row hn, mix_set hn _ _ hk]
  · simp only [G.graph_Compose_b1, len_eq, List.length_replicate, Int.lt_irrefl, decide_false, Bool.false_eq_true, if_false, G.graph_Compose_j1, exit_some, mix_all hn]
/-! ### All edges -/
def edgesOf (n : Nat) (f : Nat → Nat → Bool) : List G.graph_Edge := (List.range n).flatMap fun x => (ilist (row n (f x))).map fun y => ⟨(x : Int), y⟩
theorem edges_take (n : Nat) (f : Nat → Nat → Bool) (k : Nat) (_h : k < n) : ((List.range (k + 1)).flatMap fun x => (ilist (row n (f x))).map fun y => (⟨(x : Int), y⟩ : G.graph_Edge)) = ((List.range k).flatMap fun x => (ilist (row n (f x))).map fun y => (⟨(x : Int), y⟩ : G.graph_Edge)) ++ (ilist (row n (f k))).map fun y => ⟨(k : Int), y⟩ := by
  rw [List.range_succ, List.flatMap_append]; simp
theorem edges_len (n : Nat) (f : Nat → Nat → Bool) (k : Nat) : ((List.range k).flatMap fun x => (ilist (row n (f x))).map fun y => (⟨(x : Int), y⟩ : G.graph_Edge)).length ≤ 64 * k := by
  induction k with
  | zero => simp
  | succ k ih =>
    rw [List.range_succ, List.flatMap_append, List.length_append]
    have := ilist_len (row n (f k))
    simp only [List.flatMap_cons, List.flatMap_nil, List.append_nil, List.length_map]
    omega
theorem edges_inner (x : Nat) (hx : x < 64) (s : BitVec 64) (acc : List G.graph_Edge) (hacc : acc.length ≤ 4096) :
    Sh.loop (fun (p : (List G.graph_Edge) × Int) => G.graph_Edges_b2 (x : Int) (ilist s) p.1 p.2) (acc, 0) = some (.inl (acc ++ (ilist s).map (fun y => ⟨(x : Int), y⟩), ((x + 1 : Nat) : Int))) := by
  have hl := ilist_len s
  refine count (fun k => acc ++ ((ilist s).take k).map (fun y => ⟨(x : Int), y⟩)) (ilist s).length _ (fuel_gt (by omega)) (fun k hk => ?_) ?_ (by simp)
  · simp only [G.graph_Edges_b2, len_eq, dec_lt, hk, decide_true, if_true, idx_at hk, Option.bind_some]
    rw [app_ok (by simp; omega)]
    simp only [Option.bind_some, Sh.next, w64_succ (show k < 9223372036854775807 by omega)]
    rw [List.take_succ_eq_append_getElem hk, List.map_append, List.append_assoc]
    rfl
  · simp only [G.graph_Edges_b2, len_eq, Int.lt_irrefl, decide_false, Bool.false_eq_true, if_false, G.graph_Edges_j2, next_some, exit_some, List.take_length, w64_succ (show x < 9223372036854775807 by omega)]
theorem graph_Edges {n : Nat} (hn : n ≤ 64) (f : Nat → Nat → Bool) : G.graph_Edges (gr n f) = some (edgesOf n f) := by
  unfold G.graph_Edges
  simp only [Right_gr hn, Option.bind_some, Bool.not_true, Bool.false_eq_true, if_false]
  refine count (fun k => (List.range k).flatMap fun x => (ilist (row n (f x))).map fun y => ⟨(x : Int), y⟩) n _ (fuel_gt (by omega)) (fun k hk => ?_) ?_ (by simp)
  · have hl := edges_len n f k
    simp only [G.graph_Edges_b1, len_eq, rows_len, dec_lt, hk, decide_true, if_true, rows_idx hk, Option.bind_some, bits_List]
    rw [edges_inner k (by omega) _ _ (by omega), edges_take n f k hk]
  · simp only [G.graph_Edges_b1, len_eq, rows_len, Int.lt_irrefl, decide_false, Bool.false_eq_true, if_false, G.graph_Edges_j1, exit_some]
    rfl
theorem mem_edges {n : Nat} (hn : n ≤ 64) (f : Nat → Nat → Bool) {e : G.graph_Edge} : e ∈ edgesOf n f ↔ ∃ x y : Nat, x < n ∧ y < n ∧ f x y = true ∧ e = ⟨(x : Int), (y : Int)⟩ := by
  simp only [edgesOf, List.mem_flatMap, List.mem_range, List.mem_map, ilist, list_row hn]
  constructor
  · rintro ⟨x, hx, _, ⟨y, ⟨hy, hf⟩, rfl⟩, rfl⟩
    exact ⟨x, y, hx, hy, hf, rfl⟩
  · rintro ⟨x, y, hx, hy, hf, rfl⟩
    exact ⟨x, hx, _, ⟨y, ⟨hy, hf⟩, rfl⟩, rfl⟩
theorem edges_le {n : Nat} (hn : n ≤ 64) (f : Nat → Nat → Bool) : (edgesOf n f).length ≤ 4096 := by
  have := edges_len n f n
  unfold edgesOf; omega

def turnF (f : Nat → Nat → Bool) : Nat → Nat → Bool := fun x y => f y x
/-- The edges of a list, turned. -/
def fromE (l : List G.graph_Edge) : Nat → Nat → Bool := fun x y => l.any fun e => decide (e.B = (x : Int)) && decide (e.A = (y : Int))
theorem from_set {n : Nat} (hn : n ≤ 64) (l : List G.graph_Edge) {x y : Nat} (hx : x < n) (hy : y < n) :
    (rows n (fromE l)).set x (row n (fromE l x) ||| Bv.bit (y : Int)) = rows n (fromE (l ++ [⟨(y : Int), (x : Int)⟩])) := by
  rw [row_with hn _ hy, rows_set _ hx, rows_ext hn]
  intro a b _ _
  unfold fromE
  rw [List.any_append]
  by_cases ha : a = x
  · subst ha
    by_cases hb : b = y
    · subst hb; simp
    · have : ¬ y = b := fun h => hb h.symm
      simp [hb, Int.ofNat_inj, this]
  · have : ¬ x = a := fun h => ha h.symm
    simp [ha, Int.ofNat_inj, this]
theorem graph_Turn {n : Nat} (hn : n ≤ 64) (f : Nat → Nat → Bool) : G.graph_Turn (gr n f) = some (gr n (turnF f), 0) := by
  unfold G.graph_Turn
  simp only [Right_gr hn, Option.bind_some, Bool.not_true, Bool.false_eq_true, if_false, graph_New n hn, graph_Edges hn]
  have hl := edges_le hn f
  refine count (fun k => rows n (fromE ((edgesOf n f).take k))) (edgesOf n f).length _ (fuel_gt (by omega)) (fun k hk => ?_) ?_ ?_
  · obtain ⟨x, y, hx, hy, _, he⟩ := (mem_edges hn f).1 (List.getElem_mem hk)
    simp only [G.graph_Turn_b1, len_eq, dec_lt, hk, decide_true, if_true, idx_at hk, Option.bind_some, he, rows_idx hy, bits_With, set_at, from_set hn _ hy hx, Sh.next, w64_succ (show k < 9223372036854775807 by omega)]
    rw [List.take_succ_eq_append_getElem hk, he]
  · simp only [G.graph_Turn_b1, len_eq, Int.lt_irrefl, decide_false, Bool.false_eq_true, if_false, G.graph_Turn_j1, exit_some, List.take_length]
    have : rows n (fromE (edgesOf n f)) = rows n (turnF f) := by
      rw [rows_ext hn]
      intro x y hx hy
      unfold fromE turnF
      rw [Bool.eq_iff_iff, List.any_eq_true]
      constructor
      · rintro ⟨e, h1, h2⟩
        obtain ⟨a, b, _, _, h5, rfl⟩ := (mem_edges hn f).1 h1
        simp only [Bool.and_eq_true, decide_eq_true_eq, Int.ofNat_inj] at h2
        obtain ⟨rfl, rfl⟩ := h2
        exact h5
      · intro h
        exact ⟨⟨(y : Int), (x : Int)⟩, (mem_edges hn f).2 ⟨y, x, hy, hx, h, rfl⟩, by simp⟩
    rw [this]
  · rw [zero_rows]; rfl
end Pl
end

section
/- The reference's graphs. -/
namespace Pl
open Go Go.Av

/-! ### Loops over the nodes that lay edges -/
end Pl
namespace Pl
open Go Go.Av
end Pl
end

section
/- Where ways lead. -/


namespace Pl
open Go Go.Av

/-- A way: an edge, or an edge and a way behind it. -/
inductive Way (n : Nat) (f : Nat → Nat → Bool) : Nat → Nat → Prop
  | edge {x y : Nat} : x < n → y < n → f x y = true → Way n f x y
  | cons {x y z : Nat} : x < n → y < n → f x y = true → Way n f y z → Way n f x z

theorem Way.trans {n : Nat} {f : Nat → Nat → Bool} {x y z : Nat} (h : Way n f x y) (k : Way n f y z) : Way n f x z := by
  induction h with
  | edge hx hy hf => exact .cons hx hy hf k
  | cons hx hy hf _ ih => exact .cons hx hy hf (ih k)
theorem Way.left {n : Nat} {f : Nat → Nat → Bool} {x y : Nat} (h : Way n f x y) : x < n := by cases h <;> assumption
theorem Way.right {n : Nat} {f : Nat → Nat → Bool} {x y : Nat} (h : Way n f x y) : y < n := by
  induction h with
  | edge _ hy _ => exact hy
  | cons _ _ _ _ ih => exact ih
theorem Way.mono {n : Nat} {f h : Nat → Nat → Bool} (hm : ∀ x y, x < n → y < n → f x y = true → Way n h x y) {x y : Nat} (w : Way n f x y) : Way n h x y := by
  induction w with
  | edge hx hy hf => exact hm _ _ hx hy hf
  | cons hx hy hf _ ih => exact (hm _ _ hx hy hf).trans ih
/-- A way's last edge. -/
theorem Way.last {n : Nat} {f : Nat → Nat → Bool} {x z : Nat} (h : Way n f x z) : ∃ y, y < n ∧ f y z = true ∧ (y = x ∨ Way n f x y) := by
  induction h with
  | edge hx hy hf => exact ⟨_, hx, hf, .inl rfl⟩
  | cons hx hy hf _ ih =>
    obtain ⟨y, h1, h2, h3⟩ := ih
    refine ⟨y, h1, h2, .inr ?_⟩
    rcases h3 with rfl | h3
    · exact .edge hx hy hf
    · exact .cons hx hy hf h3

end Pl
end

section
/- The statements on graphs. -/

namespace Pl
open Go Go.Av

end Pl
end

section
/- The statements on where ways lead. -/

namespace Pl
open Go Go.Av

/-! ### The reference -/
/-! ### The statements -/
end Pl
end

section
/- The reference's graphs of a history: what must come ahead of what. -/

namespace Pl
open Go Go.Av

theorem inr_nat {h : G.api_Hist} {x : Nat} : inr h (x : Int) = true ↔ x < h.Txns.length := by rw [inr_iff]; omega
theorem idx_nat {h : G.api_Hist} {x : Nat} (hx : x < h.Txns.length) : Sh.idx h.Txns (x : Int) = some (tx h x) := idx_tx (inr_nat.2 hx)
theorem tx_in {h : G.api_Hist} {x : Nat} (hx : x < h.Txns.length) : tx h x ∈ h.Txns := tx_mem (inr_nat.2 hx)
def soF (h : G.api_Hist) (x y : Nat) : Bool := decide (x < y) && decide ((tx h x).Session = (tx h y).Session)
def wrF (h : G.api_Hist) (x y : Nat) : Bool := (tx h y).Reads.any (fun r => decide (r.From = (x : Int)))
def iniC (h : G.api_Hist) (r : G.api_Take) (y : Nat) : Bool := decide (r.From = -1) && hasW (tx h y) r.Key
def iniF (h : G.api_Hist) (x y : Nat) : Bool := decide (y ≠ x) && (tx h x).Reads.any (fun r => iniC h r y)
def wwF (l : List G.api_Choice) (x y : Nat) : Bool := l.any (fun c => decide (c.A = (x : Int)) && decide (c.B = (y : Int)))
def rwC (h : G.api_Hist) (c : G.api_Choice) (x y : Nat) : Bool := decide (c.B = (y : Int)) && decide (x ≠ y) && decide (fromR h x c.Key = some c.A)
def rwF (h : G.api_Hist) (l : List G.api_Choice) (x y : Nat) : Bool := iniF h x y || l.any (fun c => rwC h c x y)


theorem take_any {α : Type} {l : List α} {k : Nat} (h : k < l.length) (q : α → Bool) : (l.take (k + 1)).any q = ((l.take k).any q || q l[k]) := by
  rw [List.take_add_one, List.getElem?_eq_getElem h, Option.toList_some, List.any_append, List.any_cons, List.any_nil, Bool.or_false]
theorem from_in {h : G.api_Hist} (hr : right h = true) {t : Nat} (ht : t < h.Txns.length) {r : G.api_Take} (hm : r ∈ (tx h t).Reads) (h0 : ¬ r.From < 0) : ∃ x : Nat, r.From = (x : Int) ∧ x < h.Txns.length := by
  have := (from_ok hr (tx_in ht) hm h0).1
  obtain ⟨a, b⟩ := inr_iff.1 this
  exact ⟨r.From.toNat, by omega, by omega⟩
/-! ### Choices -/
theorem one_nat {h : G.api_Hist} {c : G.api_Choice} (h1 : one h c = true) : ∃ a b : Nat, c.A = (a : Int) ∧ c.B = (b : Int) ∧ a < h.Txns.length ∧ b < h.Txns.length ∧ a ≠ b ∧ hasW (tx h a) c.Key = true ∧ hasW (tx h b) c.Key = true := by
  simp only [one, Bool.and_eq_true, decide_eq_true_eq] at h1
  obtain ⟨⟨⟨⟨d, e⟩, f⟩, g⟩, k⟩ := h1
  have e' := inr_iff.1 e
  have f' := inr_iff.1 f
  have ea : c.A = ((c.A.toNat : Nat) : Int) := by omega
  have eb : c.B = ((c.B.toNat : Nat) : Int) := by omega
  refine ⟨c.A.toNat, c.B.toNat, ea, eb, by omega, by omega, by omega, ?_, ?_⟩
  · rw [← ea]; exact g
  · rw [← eb]; exact k
def readers (h : G.api_Hist) (key frm : Int) : List Nat := (List.range h.Txns.length).filter fun t : Nat => decide (fromR h t key = some frm)
theorem readers_lt {h : G.api_Hist} {key frm : Int} {t : Nat} (ht : t ∈ readers h key frm) : t < h.Txns.length ∧ fromR h t key = some frm := by
  unfold readers at ht
  simpa using ht
theorem readers_len {h : G.api_Hist} {key frm : Int} : (readers h key frm).length ≤ h.Txns.length := by
  have := List.length_filter_le (fun t : Nat => decide (fromR h t key = some frm)) (List.range h.Txns.length); simpa [readers] using this
/-! ### All together -/
def dF (h : G.api_Hist) (l : List G.api_Choice) : Nat → Nat → Bool := orF (orF (soF h) (wrF h)) (wwF l)
def fullF (h : G.api_Hist) (lev : Int) (l : List G.api_Choice) : Nat → Nat → Bool :=
  orF (dF h l) (if lev = 1 then compF h.Txns.length (dF h l) (rwF h l) else rwF h l)
end Pl
end

section
/- What follows must be so: whoever chooses all pairs, and lets nothing lead back, chooses it too. -/
namespace Pl
open Go Go.Av

theorem direct_dF {h : G.api_Hist} {s : List G.api_Choice} {x y : Nat} (hd : direct h s x y = true) : dF h s x y = true := by
  unfold direct dirS at hd
  simp only [Bool.and_eq_true, Bool.or_eq_true, decide_eq_true_eq, List.any_eq_true] at hd
  unfold dF orF
  simp only [Bool.or_eq_true]
  rcases hd.2 with (h1 | h1) | h1
  · left; left
    unfold soF
    simp only [Bool.and_eq_true, decide_eq_true_eq]
    exact ⟨by omega, h1.2⟩
  · left; right
    unfold wrF
    simp only [List.any_eq_true, decide_eq_true_eq]
    exact h1
  · right
    obtain ⟨c, hc, hw⟩ := h1
    unfold isW at hw
    unfold wwF
    simp only [Bool.and_eq_true, decide_eq_true_eq] at hw
    simp only [List.any_eq_true, Bool.and_eq_true, decide_eq_true_eq]
    exact ⟨c, hc, hw.1.1.1.1, hw.1.1.1.2⟩
theorem anti_rwF {h : G.api_Hist} {s : List G.api_Choice} {x y : Nat} (hx : x < h.Txns.length) (hd : anti h s x y = true) : rwF h s x y = true := by
  unfold anti antS isO two at hd
  simp only [Bool.and_eq_true, Bool.or_eq_true, decide_eq_true_eq, List.any_eq_true] at hd
  obtain ⟨⟨⟨hr, _⟩, _⟩, hne, r, hm, hw, ho⟩ := hd
  unfold rwF
  rw [Bool.or_eq_true]
  rcases ho with h0 | ⟨_, c, hc, he⟩
  · left
    have h1 := (from_neg hr (tx_in hx) hm).1 h0
    unfold iniF iniC
    simp only [Bool.and_eq_true, decide_eq_true_eq, List.any_eq_true]
    exact ⟨by omega, r, hm, h1, hw⟩
  · right
    subst he
    simp only [List.any_eq_true]
    refine ⟨_, hc, ?_⟩
    unfold rwC
    simp only [Bool.and_eq_true, decide_eq_true_eq]
    refine ⟨⟨by simp, by omega⟩, ?_⟩
    rw [fromR_iff hr (inr_nat.2 hx)]
    simp only [List.any_eq_true, decide_eq_true_eq]
    exact ⟨r, hm, rfl⟩
theorem edge_full {h : G.api_Hist} {lev : Int} {s : List G.api_Choice} {x y : Nat} (hx : x < h.Txns.length) (hd : edge h lev s x y = true) : fullF h lev s x y = true := by
  unfold edge at hd
  unfold fullF orF
  rw [Bool.or_eq_true]
  by_cases h0 : lev = 0
  · subst h0
    simp only [if_true, Bool.or_eq_true] at hd
    rcases hd with hd | hd
    · exact .inl (direct_dF hd)
    · right
      simp only [show ¬ ((0 : Int) = 1) by omega, if_false]
      exact anti_rwF hx hd
  · by_cases h1 : lev = 1
    · subst h1
      simp only [show ¬ ((1 : Int) = 0) by omega, if_false, if_true, List.any_eq_true, List.mem_range, Bool.and_eq_true, Bool.or_eq_true, decide_eq_true_eq] at hd
      obtain ⟨m, hm, hd1, hd2⟩ := hd
      rcases hd2 with hd2 | hd2
      · left
        have : m = y := by omega
        subst this
        exact direct_dF hd1
      · right
        simp only [if_true]
        unfold compF
        simp only [List.any_eq_true, List.mem_range, Bool.and_eq_true]
        exact ⟨m, hm, direct_dF hd1, anti_rwF hm hd2⟩
    · simp [h0, h1] at hd
theorem edge_in {h : G.api_Hist} {lev : Int} {s : List G.api_Choice} {x y : Int} (hd : edge h lev s x y = true) : inr h x = true ∧ inr h y = true := by
  unfold edge direct anti two at hd
  by_cases h0 : lev = 0
  · simp only [h0, if_true, Bool.or_eq_true, Bool.and_eq_true] at hd
    rcases hd with hd | hd <;> exact ⟨hd.1.1.2, hd.1.2⟩
  · by_cases h1 : lev = 1
    · simp only [h0, h1, if_false, if_true, List.any_eq_true, Bool.and_eq_true, Bool.or_eq_true, show ¬ ((1 : Int) = 0) by omega, decide_eq_true_eq] at hd
      obtain ⟨m, hm, hd1, hd2⟩ := hd
      refine ⟨hd1.1.1.2, ?_⟩
      rcases hd2 with hd2 | hd2
      · rw [← hd2]; exact hd1.1.2
      · exact hd2.1.2
    · simp [h0, h1] at hd
end Pl
end

section
/- All pairs, and all ways to choose them. -/

namespace Pl
open Go Go.Av

def writers (h : G.api_Hist) (key : Int) : List Int := if right h then ((List.range h.Txns.length).filter fun t : Nat => hasW (tx h t) key).map fun t : Nat => (t : Int) else []
def pairsI (key : Int) (ws : List Int) (i : Nat) : List G.api_Choice := (ws.drop (i + 1)).map fun w => ⟨key, ws.getD i 0, w⟩
def pairsK (key : Int) (ws : List Int) : List G.api_Choice := (List.range ws.length).flatMap (pairsI key ws)
def pairs (h : G.api_Hist) : List G.api_Choice := (List.range 16).flatMap fun k : Nat => pairsK k (writers h k)
theorem flat_succ {α : Type} (f : Nat → List α) (k : Nat) : (List.range (k + 1)).flatMap f = (List.range k).flatMap f ++ f k := by
  rw [List.range_succ, List.flatMap_append]; simp
theorem hasW_lt {h : G.api_Hist} (hr : right h = true) {t : G.api_Txn} (ht : t ∈ h.Txns) {k : Int} (hw : hasW t k = true) : 0 ≤ k ∧ k < 16 := by
  have key : ∀ (l : List G.api_Txn) (n : Nat), okAll h n l = true → ∀ t ∈ l, rising (-1) t.Writes = true := by
    intro l
    induction l with
    | nil => intro n _ t ht; cases ht
    | cons x l ih =>
      intro n hn t ht
      rw [show okAll h n (x :: l) = (okT h (n : Nat) x && okAll h (n + 1) l) from rfl, Bool.and_eq_true] at hn
      rcases List.mem_cons.1 ht with rfl | ht
      · have := hn.1
        simp only [okT, Bool.and_eq_true] at this
        exact this.1.1.1
      · exact ih _ hn.2 t ht
  have hri : rising (-1) t.Writes = true := by
    simp only [right, Bool.and_eq_true] at hr
    exact key _ 0 hr.2 t ht
  have bd : ∀ (l : List Int) (last : Int), rising last l = true → ∀ x ∈ l, last < x ∧ x < 16 := by
    intro l
    induction l with
    | nil => intro _ _ x hx; cases hx
    | cons y l ih =>
      intro last hl x hx
      rw [show rising last (y :: l) = (decide (last < y) && decide (y < 16) && rising y l) from rfl] at hl
      simp only [Bool.and_eq_true, decide_eq_true_eq] at hl
      rcases List.mem_cons.1 hx with rfl | hx
      · exact ⟨hl.1.1, hl.1.2⟩
      · have := ih _ hl.2 x hx; omega
  unfold hasW at hw
  simp only [List.any_eq_true, decide_eq_true_eq] at hw
  obtain ⟨x, hx, rfl⟩ := hw
  have := bd _ _ hri _ hx
  omega
/-! ### All ways to choose -/
inductive Sel : List G.api_Choice → List G.api_Choice → Prop
  | nil : Sel [] []
  | so {x : G.api_Choice} {r s : List G.api_Choice} : Sel r s → Sel (x :: r) (x :: s)
  | not {x : G.api_Choice} {r s : List G.api_Choice} : Sel r s → Sel (x :: r) (back x :: s)
theorem Sel.len {r s : List G.api_Choice} (h : Sel r s) : s.length = r.length := by induction h <;> simp_all
theorem Sel.mem {r s : List G.api_Choice} (h : Sel r s) : ∀ c ∈ r, c ∈ s ∨ back c ∈ s := by
  induction h with
  | nil => intro c hc; cases hc
  | so _ ih =>
    intro c hc
    rcases List.mem_cons.1 hc with rfl | hc
    · exact .inl (List.mem_cons_self ..)
    · exact (ih c hc).imp (List.mem_cons_of_mem _) (List.mem_cons_of_mem _)
  | not _ ih =>
    intro c hc
    rcases List.mem_cons.1 hc with rfl | hc
    · exact .inr (List.mem_cons_self ..)
    · exact (ih c hc).imp (List.mem_cons_of_mem _) (List.mem_cons_of_mem _)
theorem Sel.all {r s : List G.api_Choice} (h : Sel r s) {p : G.api_Choice → Prop} (h1 : ∀ c ∈ r, p c) (h2 : ∀ c, p c → p (back c)) : ∀ c ∈ s, p c := by
  induction h with
  | nil => intro c hc; cases hc
  | so _ ih =>
    intro c hc
    rcases List.mem_cons.1 hc with rfl | hc
    · exact h1 _ (List.mem_cons_self ..)
    · exact ih (fun c hc => h1 c (List.mem_cons_of_mem _ hc)) c hc
  | not _ ih =>
    intro c hc
    rcases List.mem_cons.1 hc with rfl | hc
    · exact h2 _ (h1 _ (List.mem_cons_self ..))
    · exact ih (fun c hc => h1 c (List.mem_cons_of_mem _ hc)) c hc
end Pl
end

section
/- What is left of sorted numbers when what comes twice is left out. -/
namespace Pl
open Go Go.Av

/-- Rising rows of the same members are the same. -/
theorem asc_ext : ∀ {a b : List Int}, a.Pairwise (· < ·) → b.Pairwise (· < ·) → (∀ x, x ∈ a ↔ x ∈ b) → a = b
  | [], [], _, _, _ => rfl
  | [], y :: b, _, _, h => absurd ((h y).2 (List.mem_cons_self ..)) (by simp)
  | x :: a, [], _, _, h => absurd ((h x).1 (List.mem_cons_self ..)) (by simp)
  | x :: a, y :: b, ha, hb, h => by
    rw [List.pairwise_cons] at ha hb
    have hxy : x = y := by
      rcases List.mem_cons.1 ((h x).1 (List.mem_cons_self ..)) with e | e
      · exact e
      · rcases List.mem_cons.1 ((h y).2 (List.mem_cons_self ..)) with e2 | e2
        · exact e2.symm
        · have h1 := hb.1 x e
          have h2 := ha.1 y e2
          omega
    subst hxy
    have : a = b := asc_ext ha.2 hb.2 fun z => ⟨fun hz => by
      rcases List.mem_cons.1 ((h z).1 (List.mem_cons_of_mem _ hz)) with e | e
      · subst e; have := ha.1 z hz; omega
      · exact e, fun hz => by
      rcases List.mem_cons.1 ((h z).2 (List.mem_cons_of_mem _ hz)) with e | e
      · subst e; have := hb.1 z hz; omega
      · exact e⟩
    rw [this]

theorem compact_mem (l : List Int) (x : Int) : x ∈ Lib.compact l ↔ x ∈ l := by
  unfold Lib.compact Lib.compactUpTo
  simp only [List.mem_map, List.mem_filter, List.mem_range]
  constructor
  · rintro ⟨j, ⟨hj, _⟩, rfl⟩
    simp [hj]
  · intro hx
    obtain ⟨i, hi, hix⟩ := List.getElem_of_mem hx
    have hex : ∃ i, i < l.length ∧ l.toArray[i]! = x := ⟨i, hi, by simp [hi, hix]⟩
    obtain ⟨k, ⟨hk, hkx⟩, hmin⟩ := exists_least _ hex
    refine ⟨k, ⟨hk, ?_⟩, hkx⟩
    unfold Lib.keeps
    rw [decide_eq_true_eq]
    by_cases h0 : k = 0
    · exact .inl h0
    · refine .inr fun he => ?_
      have := hmin (k - 1) ⟨by omega, by rw [← he]; exact hkx⟩
      omega
theorem compact_sorted (l : List Int) (hs : l.Pairwise (· ≤ ·)) : (Lib.compact l).Pairwise (· < ·) := by
  unfold Lib.compact Lib.compactUpTo
  rw [List.pairwise_map]
  refine List.Pairwise.imp_of_mem (R := fun a b : Nat => a < b) (fun {a b} ha hb hab => ?_) (List.Pairwise.filter _ List.pairwise_lt_range)
  simp only [List.mem_filter, List.mem_range] at ha hb
  have hk := hb.2
  unfold Lib.keeps at hk
  rw [decide_eq_true_eq] at hk
  have hk2 := hk.resolve_left (by omega)
  have e1 : l.toArray[a]! = l[a] := by simp [ha.1]
  have e2 : l.toArray[b]! = l[b] := by simp [hb.1]
  have e3 : l.toArray[b - 1]! = l[b - 1]'(by omega) := by simp [show b - 1 < l.length by omega]
  rw [e2, e3] at hk2
  rw [e1, e2]
  have le : ∀ i j (hi : i < l.length) (hj : j < l.length), i ≤ j → l[i] ≤ l[j] := fun i j hi hj hij => by
    rcases Nat.lt_or_ge i j with h | h
    · exact List.pairwise_iff_getElem.1 hs i j hi hj h
    · have : i = j := by omega
      subst this; exact Int.le_refl _
  have h1 := le a (b - 1) (by omega) (by omega) (by omega)
  have h2 := le (b - 1) b (by omega) hb.1 (by omega)
  omega
/-- Sorted, and each once: the one rising row of these numbers. -/
theorem sort_compact (l r : List Int) (hr : r.Pairwise (· < ·)) (hm : ∀ x, x ∈ r ↔ x ∈ l) : Lib.compact (l.mergeSort fun x y => decide (x ≤ y)) = r := by
  refine asc_ext (compact_sorted _ ?_) hr fun x => ?_
  · have h := List.pairwise_mergeSort (le := fun x y : Int => decide (x ≤ y)) (fun a b c h1 h2 => by simp at h1 h2 ⊢; omega) (fun a b => by simp; omega) l
    exact h.imp fun {a b} hab => by simpa using hab
  · rw [compact_mem, List.mem_mergeSort, hm]
theorem sort_ok {l : List Int} (h : l.length < 4611686018427387904) : Sh.sort l = some (l.mergeSort fun x y => decide (x ≤ y)) := by rw [← Sh.isort_eq]; exact if_pos h
theorem compact_ok {l : List Int} (h : l.length < 4611686018427387904) : Sh.compact l = some (Lib.compact l) := if_pos h
end Pl
end

section
/- Who writes, and who reads, each key: what the program answers. -/
namespace Pl
open Go Go.Av

theorem right_le {h : G.api_Hist} (hr : right h = true) : h.Txns.length ≤ 32 := by
  simp only [right, Bool.and_eq_true, decide_eq_true_eq] at hr; exact hr.1
theorem right_txn {h : G.api_Hist} (hr : right h = true) {t : G.api_Txn} (ht : t ∈ h.Txns) : ∃ n : Int, okT h n t = true := by
  simp only [right, Bool.and_eq_true] at hr
  have key : ∀ (l : List G.api_Txn) (n : Nat), okAll h n l = true → ∀ t ∈ l, ∃ n : Int, okT h n t = true := by
    intro l
    induction l with
    | nil => intro n _ t ht; cases ht
    | cons x l ih =>
      intro n hn t ht
      rw [show okAll h n (x :: l) = (okT h (n : Nat) x && okAll h (n + 1) l) from rfl, Bool.and_eq_true] at hn
      rcases List.mem_cons.1 ht with rfl | ht
      · exact ⟨_, hn.1⟩
      · exact ih _ hn.2 t ht
  exact key _ 0 hr.2 t ht
theorem rising_len : ∀ {l : List Int} {last : Int}, rising last l = true → last ≤ 15 → (l.length : Int) ≤ 15 - last
  | [], last, _, h => by simp; omega
  | x :: l, last, hr, h => by
    rw [show rising last (x :: l) = (decide (last < x) && decide (x < 16) && rising x l) from rfl] at hr
    simp only [Bool.and_eq_true, decide_eq_true_eq] at hr
    have := rising_len hr.2 (by omega)
    simp only [List.length_cons]; omega
theorem rising_mem : ∀ {l : List Int} {last : Int}, rising last l = true → ∀ x ∈ l, last < x ∧ x < 16
  | [], _, _, x, hx => by cases hx
  | y :: l, last, hr, x, hx => by
    rw [show rising last (y :: l) = (decide (last < y) && decide (y < 16) && rising y l) from rfl] at hr
    simp only [Bool.and_eq_true, decide_eq_true_eq] at hr
    rcases List.mem_cons.1 hx with rfl | hx
    · exact hr.1
    · have := rising_mem hr.2 x hx; omega
theorem takes_len {h : G.api_Hist} {n : Int} : ∀ {l : List G.api_Take} {last : Int}, takes h n last l = true → last ≤ 15 → (l.length : Int) ≤ 15 - last
  | [], last, _, h => by simp; omega
  | x :: l, last, hr, h2 => by
    rw [show takes h n last (x :: l) = (decide (last < x.Key) && decide (x.Key < 16) && there h n x && takes h n x.Key l) from rfl] at hr
    simp only [Bool.and_eq_true, decide_eq_true_eq] at hr
    have := takes_len hr.2 (by omega)
    simp only [List.length_cons]; omega
theorem right_writes {h : G.api_Hist} (hr : right h = true) {t : G.api_Txn} (ht : t ∈ h.Txns) : rising (-1) t.Writes = true ∧ t.Writes.length ≤ 16 := by
  obtain ⟨n, hn⟩ := right_txn hr ht
  simp only [okT, Bool.and_eq_true] at hn
  have := rising_len hn.1.1.1 (by omega)
  exact ⟨hn.1.1.1, by omega⟩
theorem right_takes {h : G.api_Hist} (hr : right h = true) {t : G.api_Txn} (ht : t ∈ h.Txns) : ∃ n : Int, takes h n (-1) t.Reads = true ∧ t.Reads.length ≤ 16 := by
  obtain ⟨n, hn⟩ := right_txn hr ht
  simp only [okT, Bool.and_eq_true] at hn
  have := takes_len hn.1.1.2 (by omega)
  exact ⟨n, hn.1.1.2, by omega⟩

/-! ### Who writes a key -/
theorem pWriters {h : G.api_Hist} (hf : Fits h) (key : Int) : G.index_Writers h key = some (writers h key) := by
  unfold G.index_Writers writers
  rw [pRight hf]
  simp only [Option.bind_some]
  cases hr : right h with
  | false => rfl
  | true =>
    have hn := right_le hr
    simp only [Bool.not_true, Bool.false_eq_true, if_false, if_true]
    refine count_exit (fun k => ((List.range k).filter fun t : Nat => hasW (tx h t) key).map fun t : Nat => (t : Int)) h.Txns.length _ (fuel_gt (by omega)) (fun k hk => ?_) ?_ rfl
    · have hle : ((List.range k).filter fun t : Nat => hasW (tx h t) key).length ≤ k := by
        have := List.length_filter_le (fun t : Nat => hasW (tx h t) key) (List.range k); simpa using this
      have hw := hf.writes _ (tx_in hk)
      simp only [G.index_Writers_b1, dec_lt, hk, decide_true, if_true, idx_nat hk, Option.bind_some]
      rw [pHas (by omega), List.range_succ, List.filter_append, List.map_append]
      simp only [Option.bind_some]
      have e : (tx h (k : Int)).Writes.any (fun x => decide (key = x)) = hasW (tx h (k : Int)) key := rfl
      rw [e]
      cases hw : hasW (tx h k) key with
      | false => simp [G.index_Writers_j2, w64_succ (show k < 9223372036854775807 by omega), Sh.next, hw]
      | true =>
        simp only [if_true]
        rw [app_ok (by simp; omega)]
        simp [G.index_Writers_j2, w64_succ (show k < 9223372036854775807 by omega), Sh.next, hw]
    · simp [G.index_Writers_b1, G.index_Writers_j1, Sh.len]

/-! ### Who reads a key from somebody -/
def readersI (h : G.api_Hist) (key frm : Int) : List Int := if right h then (readers h key frm).map fun t : Nat => (t : Int) else []
theorem takes_filter {h : G.api_Hist} {n : Int} (key frm : Int) : ∀ {l : List G.api_Take} {last : Int}, takes h n last l = true →
    l.filter (fun r => decide (r.Key = key) && decide (r.From = frm)) = if l.any (fun r => decide (G.api_Take.mk key frm = r)) then [⟨key, frm⟩] else []
  | [], _, _ => by simp
  | x :: l, last, hr => by
    rw [show takes h n last (x :: l) = (decide (last < x.Key) && decide (x.Key < 16) && there h n x && takes h n x.Key l) from rfl] at hr
    simp only [Bool.and_eq_true, decide_eq_true_eq] at hr
    have ih := takes_filter key frm hr.2
    rw [List.filter_cons, List.any_cons]
    by_cases hx : G.api_Take.mk key frm = x
    · subst hx
      have hnone : l.filter (fun r => decide (r.Key = key) && decide (r.From = frm)) = [] := by
        rw [List.filter_eq_nil_iff]
        intro r hrm
        have := takes_gt hr.2 r hrm
        simp only [Bool.and_eq_true, decide_eq_true_eq, not_and]
        intro h1
        exact absurd h1 (by simp at this; omega)
      rw [hnone]; simp
    · have hq : (decide (x.Key = key) && decide (x.From = frm)) = false := by
        rw [Bool.and_eq_false_iff, decide_eq_false_iff_not, decide_eq_false_iff_not]
        apply Classical.byContradiction
        intro hno
        simp only [not_or, Classical.not_not] at hno
        apply hx
        rw [← hno.1, ← hno.2]
      rw [hq, ih, decide_eq_false hx]; simp
theorem pReaders_inner {h : G.api_Hist} (hf : Fits h) (key frm : Int) {t : Nat} (ht : t < h.Txns.length) (c : List Int) (hc : c.length ≤ 1000) (hl : (tx h t).Reads.length ≤ 16) :
    Sh.loop (fun (p : (List Int) × Int) => G.index_reads_1__index_Readers__r_b2 key frm t (tx h t) p.1 p.2) (c, 0) = some (.inl (c ++ ((tx h t).Reads.filter (fun r => decide (r.Key = key) && decide (r.From = frm))).map (fun _ => (t : Int)), ((t + 1 : Nat) : Int))) := by
  refine count_exit (fun i => c ++ (((tx h t).Reads.take i).filter (fun r => decide (r.Key = key) && decide (r.From = frm))).map (fun _ => (t : Int))) (tx h t).Reads.length _ (fuel_gt (by omega)) (fun i hi => ?_) ?_ (by simp)
  · have hle : (((tx h t).Reads.take i).filter (fun r => decide (r.Key = key) && decide (r.From = frm))).length ≤ i := by
      have := List.length_filter_le (fun r : G.api_Take => decide (r.Key = key) && decide (r.From = frm)) ((tx h t).Reads.take i); simp at this; omega
    simp only [G.index_reads_1__index_Readers__r_b2, dec_lt, hi, decide_true, if_true, idx_at hi, Option.bind_some, G.index_Readers__r, G.index_Readers__r_j1, w64_succ (show i < 9223372036854775807 by omega)]
    rw [List.take_add_one, List.getElem?_eq_getElem hi, Option.toList_some, List.filter_append, List.map_append, ← List.append_assoc]
    by_cases h1 : ((tx h t).Reads[i]).Key = key
    · by_cases h2 : ((tx h t).Reads[i]).From = frm
      · simp only [h1, h2, decide_true, if_true]
        rw [app_ok (by simp; omega)]
        simp [h1, h2, Sh.next]
      · simp [h1, h2, Sh.next]
    · simp [h1, Sh.next]
  · simp [G.index_reads_1__index_Readers__r_b2, G.index_reads_1__index_Readers__r_j1, w64_succ (show t < 9223372036854775807 by have := hf.txns; omega), Sh.next]
theorem pReaders {h : G.api_Hist} (hf : Fits h) (key frm : Int) : G.index_Readers h key frm = some (readersI h key frm) := by
  unfold G.index_Readers G.index_reads G.index_reads_1__index_Readers__r readersI
  simp only [Option.bind_some]
  rw [pRight hf]
  simp only [Option.bind_some]
  cases hr : right h with
  | false => rfl
  | true =>
    have hn := right_le hr
    simp only [Bool.not_true, Bool.false_eq_true, if_false, if_true]
    have e : Sh.loop (fun (p : (List Int) × Int) => G.index_reads_1__index_Readers__r_b1 key frm h p.1 p.2) ([], 0) = some ((readers h key frm).map fun t : Nat => (t : Int)) := by
      refine count_exit (fun k => ((List.range k).filter fun t : Nat => decide (fromR h t key = some frm)).map fun t : Nat => (t : Int)) h.Txns.length _ (fuel_gt (by omega)) (fun k hk => ?_) ?_ rfl
      · have hle : ((List.range k).filter fun t : Nat => decide (fromR h t key = some frm)).length ≤ k := by
          have := List.length_filter_le (fun t : Nat => decide (fromR h t key = some frm)) (List.range k); simpa using this
        obtain ⟨n, htk, hlen⟩ := right_takes hr (tx_in hk)
        simp only [G.index_reads_1__index_Readers__r_b1, dec_lt, hk, decide_true, if_true, idx_nat hk, Option.bind_some]
        rw [pReaders_inner hf key frm hk _ (by simp; omega) hlen, takes_filter key frm htk, List.range_succ, List.filter_append, List.map_append]
        congr 4
        have hiff := fromR_iff (t := (k : Int)) (key := key) (v := frm) hr (inr_nat.2 hk)
        cases hq : (tx h (k : Int)).Reads.any (fun r => decide (G.api_Take.mk key frm = r)) with
        | true => rw [hq] at hiff; simp [hiff.2 rfl]
        | false =>
          rw [hq] at hiff
          have : ¬ fromR h (k : Int) key = some frm := fun h1 => by have := hiff.1 h1; cases this
          simp [this]
      · simp only [G.index_reads_1__index_Readers__r_b1, dec_lt, Nat.lt_irrefl, decide_false, Bool.false_eq_true, if_false]; rfl
    rw [e]; rfl

/-! ### All keys -/
def keysN (h : G.api_Hist) : List Nat := (List.range 16).filter fun k : Nat => h.Txns.any fun t => hasW t k
def keys (h : G.api_Hist) : List Int := if right h then (keysN h).map fun k : Nat => (k : Int) else []
theorem flatMap_take_len {α β : Type} (f : α → List β) (b : Nat) : ∀ (l : List α), (∀ x ∈ l, (f x).length ≤ b) → (l.flatMap f).length ≤ l.length * b
  | [], _ => by simp
  | x :: l, h => by
    have h1 := h x (List.mem_cons_self ..)
    have h2 := flatMap_take_len f b l fun y hy => h y (List.mem_cons_of_mem _ hy)
    simp only [List.flatMap_cons, List.length_append, List.length_cons, Nat.add_mul, Nat.one_mul]
    omega
theorem pKeys {h : G.api_Hist} (hf : Fits h) : G.index_Keys h = some (keys h) := by
  unfold G.index_Keys keys
  rw [pRight hf]
  simp only [Option.bind_some]
  cases hr : right h with
  | false => rfl
  | true =>
    have hn := right_le hr
    simp only [Bool.not_true, Bool.false_eq_true, if_false, if_true]
    have hwl : ∀ t ∈ h.Txns, t.Writes.length ≤ 16 := fun t ht => (right_writes hr ht).2
    refine count_exit (fun k => (h.Txns.take k).flatMap (·.Writes)) h.Txns.length _ (fuel_gt (by omega)) (fun k hk => ?_) ?_ rfl
    · have hle := flatMap_take_len (fun t : G.api_Txn => t.Writes) 16 (h.Txns.take k) fun t ht => hwl t (List.mem_of_mem_take ht)
      have hle2 := hwl _ (List.getElem_mem hk)
      have hl3 : (h.Txns.take k).length ≤ 32 := by simp; omega
      have hle3 : (h.Txns.take k).length * 16 ≤ 32 * 16 := Nat.mul_le_mul_right _ hl3
      simp only [G.index_Keys_b1, dec_lt, hk, decide_true, if_true, idx_at hk, Option.bind_some]
      rw [app_ok (by omega)]
      simp only [Option.bind_some, w64_succ (show k < 9223372036854775807 by omega), Sh.next]
      rw [List.take_add_one, List.getElem?_eq_getElem hk, Option.toList_some, List.flatMap_append]
      simp
    · simp only [G.index_Keys_b1, dec_lt, Nat.lt_irrefl, decide_false, Bool.false_eq_true, if_false, G.index_Keys_j1, List.take_length]
      have hle := flatMap_take_len (fun t : G.api_Txn => t.Writes) 16 h.Txns hwl
      have hle3 : h.Txns.length * 16 ≤ 32 * 16 := Nat.mul_le_mul_right _ hn
      rw [sort_ok (by omega)]
      simp only [Option.bind_some]
      rw [compact_ok (by simp only [List.length_mergeSort]; omega)]
      simp only [Option.bind_some]
      rw [sort_compact _ ((keysN h).map fun k : Nat => (k : Int)) ?_ ?_]
      · rw [List.pairwise_map]
        exact List.Pairwise.imp (R := fun a b : Nat => a < b) (fun {a b} hab => by omega) (List.Pairwise.filter _ List.pairwise_lt_range)
      · intro x
        simp only [List.mem_map, keysN, List.mem_filter, List.mem_range, List.any_eq_true, List.mem_flatMap]
        constructor
        · rintro ⟨k, ⟨h1, t, ht, hw⟩, rfl⟩
          refine ⟨t, ht, ?_⟩
          simp only [hasW, List.any_eq_true, decide_eq_true_eq] at hw
          obtain ⟨y, hy, rfl⟩ := hw; exact hy
        · rintro ⟨t, ht, hx⟩
          have := rising_mem (right_writes hr ht).1 x hx
          refine ⟨x.toNat, ⟨by omega, t, ht, ?_⟩, by omega⟩
          simp only [hasW, List.any_eq_true, decide_eq_true_eq]
          exact ⟨x, hx, by omega⟩

/-! ### All pairs -/
end Pl
end

section
/- What is known of a history's order, and what follows from choices: the graphs that the program makes. -/
namespace Pl
open Go Go.Av

theorem gr_ext {n : Nat} (hn : n ≤ 64) {f g : Nat → Nat → Bool} (h : ∀ x y, x < n → y < n → f x y = g x y) : gr n f = gr n g := by
  have := (rows_ext hn (f := f) (h := g)).2 h
  unfold gr
  rw [this]
/-- A graph with some edges more, none from a node to itself. -/
def addL (f : Nat → Nat → Bool) (l : List (Nat × Nat)) : Nat → Nat → Bool := fun x y => f x y || l.any fun e => decide (e.1 ≠ e.2) && decide (e.1 = x) && decide (e.2 = y)
theorem addL_nil (f : Nat → Nat → Bool) : addL f [] = f := by funext x y; simp [addL]
theorem addL_snoc {n : Nat} (hn : n ≤ 64) (f : Nat → Nat → Bool) (l : List (Nat × Nat)) {a b : Nat} (hab : a ≠ b) : gr n (addF (addL f l) a b) = gr n (addL f (l ++ [(a, b)])) := by
  refine gr_ext hn fun x y _ _ => ?_
  unfold addF addL
  rw [List.any_append, List.any_cons, List.any_nil, Bool.or_false, Bool.or_assoc]
  congr 2
  rw [Bool.eq_iff_iff]
  simp only [decide_eq_true_eq, Bool.and_eq_true]
  constructor
  · rintro ⟨rfl, rfl⟩; exact ⟨⟨hab, rfl⟩, rfl⟩
  · rintro ⟨⟨_, h1⟩, h2⟩; exact ⟨h1.symm, h2.symm⟩
theorem addL_same {n : Nat} (hn : n ≤ 64) (f : Nat → Nat → Bool) (l : List (Nat × Nat)) (a : Nat) : gr n (addL f l) = gr n (addL f (l ++ [(a, a)])) := by
  refine gr_ext hn fun x y _ _ => ?_
  unfold addL
  rw [List.any_append]; simp
theorem pLaid {n : Nat} (hn : n ≤ 64) (f : Nat → Nat → Bool) (l : List (Nat × Nat)) {a b : Nat} (ha : a < n) (hb : b < n) : G.known_laid_1__2 a b (gr n (addL f l)) = some (gr n (addL f (l ++ [(a, b)]))) := by
  unfold G.known_laid_1__2 G.known_laid_1__2_j1
  have h0 : (0 : Int) ≤ (a : Int) := by omega
  simp only [h0, decide_true, if_true]
  by_cases hab : a = b
  · subst hab
    simp only [ne_eq, not_true_eq_false, decide_false, Bool.false_eq_true, if_false]
    rw [← addL_same hn]
  · have h1 : ((a : Int) ≠ (b : Int)) := by omega
    simp only [h1, ne_eq, not_false_eq_true, decide_true, if_true, graph_Add hn _ ha hb, Option.bind_some]
    rw [addL_snoc hn f l hab]
theorem pLaid_neg {a b : Int} (g : G.graph_Graph) (h : a < 0) : G.known_laid_1__2 a b g = some g := by
  unfold G.known_laid_1__2 G.known_laid_1__2_j1
  have h0 : ¬ (0 : Int) ≤ a := by omega
  simp [h0]
def no0 : Nat → Nat → Bool := fun _ _ => false
theorem gr_zero (n : Nat) : (⟨(n : Int), List.replicate n 0#64⟩ : G.graph_Graph) = gr n (addL no0 []) := by
  rw [addL_nil, zero_rows]; rfl
def g0 : G.graph_Graph := ⟨0, []⟩

/-! ### The sessions' order -/
def soL (h : G.api_Hist) (t : Nat) : List (Nat × Nat) := ((List.range t).filter fun j : Nat => decide ((tx h j).Session = (tx h t).Session)).map fun j => (j, t)
theorem take_idx {h : G.api_Hist} {t j : Nat} (ht : t < h.Txns.length) (hj : j < t) : Sh.idx (h.Txns.take t) (j : Int) = some (tx h j) := by
  have h1 : j < (h.Txns.take t).length := by simp; omega
  rw [idx_at h1]
  have h2 := idx_nat (h := h) (x := j) (by omega)
  rw [idx_at (show j < h.Txns.length by omega)] at h2
  rw [← h2]; simp
theorem pSo_loop {h : G.api_Hist} (hn : h.Txns.length ≤ 32) : G.known_So_1__known_laid_1_2 h (gr h.Txns.length (addL no0 [])) = some (gr h.Txns.length (addL no0 ((List.range h.Txns.length).flatMap (soL h)))) := by
  unfold G.known_So_1__known_laid_1_2
  refine count_exit (fun k => gr h.Txns.length (addL no0 ((List.range k).flatMap (soL h)))) h.Txns.length _ (fuel_gt (by omega)) (fun t ht => ?_) ?_ rfl
  · simp only [G.known_So_1__known_laid_1_2_b1, dec_lt, ht, decide_true, if_true, idx_nat ht, Option.bind_some]
    rw [show Sh.sub h.Txns 0 (t : Int) = some (h.Txns.take t) by have := sub_ok (l := h.Txns) (m := 0) (k := t) (by omega) (by omega); simpa using this]
    simp only [Option.bind_some]
    refine count_exit (fun i => gr h.Txns.length (addL no0 ((List.range t).flatMap (soL h) ++ (((List.range i).filter fun j : Nat => decide ((tx h j).Session = (tx h t).Session)).map fun j => (j, t))))) t _ (fuel_gt (by omega)) (fun j hj => ?_) ?_ (by simp)
    · have hl : (Sh.len (h.Txns.take t)) = ((t : Nat) : Int) := by simp [Sh.len]; omega
      simp only [G.known_So_1__known_laid_1_2_b2, hl, dec_lt, hj, decide_true, if_true, take_idx ht hj, Option.bind_some, G.known_So_1__known_laid_1_2_j2, w64_succ (show j < 9223372036854775807 by omega), Sh.next]
      rw [List.range_succ, List.filter_append, List.map_append, ← List.append_assoc]
      by_cases hs : (tx h j).Session = (tx h t).Session
      · simp only [hs, decide_true, if_true, pLaid (show h.Txns.length ≤ 64 by omega) _ _ (show j < h.Txns.length by omega) ht, Option.bind_some]
        simp [hs]
      · simp [hs]
    · have hl : (Sh.len (h.Txns.take t)) = ((t : Nat) : Int) := by simp [Sh.len]; omega
      simp only [G.known_So_1__known_laid_1_2_b2, hl, dec_lt, Nat.lt_irrefl, decide_false, Bool.false_eq_true, if_false, G.known_So_1__known_laid_1_2_j1, w64_succ (show t < 9223372036854775807 by omega), Sh.next, flat_succ]
      rfl
  · simp only [G.known_So_1__known_laid_1_2_b1, dec_lt, Nat.lt_irrefl, decide_false, Bool.false_eq_true, if_false]
theorem so_eq {h : G.api_Hist} (hn : h.Txns.length ≤ 64) : gr h.Txns.length (addL no0 ((List.range h.Txns.length).flatMap (soL h))) = gr h.Txns.length (soF h) := by
  refine gr_ext hn fun x y hx hy => ?_
  unfold addL soF soL no0
  rw [Bool.false_or, Bool.eq_iff_iff]
  simp only [List.any_eq_true, List.mem_flatMap, List.mem_range, List.mem_map, List.mem_filter, decide_eq_true_eq, Bool.and_eq_true]
  constructor
  · rintro ⟨e, ⟨t, ht, j, ⟨hj, hs⟩, rfl⟩, ⟨h1, h2⟩, h3⟩
    simp only at h1 h2 h3
    subst h2 h3
    exact ⟨hj, hs⟩
  · rintro ⟨h1, h2⟩
    exact ⟨(x, y), ⟨y, hy, x, ⟨h1, h2⟩, rfl⟩, ⟨by simp; omega, rfl⟩, rfl⟩
def soG (h : G.api_Hist) : G.graph_Graph := if right h then gr h.Txns.length (soF h) else g0
theorem pSo {h : G.api_Hist} (hf : Fits h) : G.known_So h = some (soG h) := by
  unfold G.known_So G.known_laid__known_So_1 soG
  rw [pRight hf]
  simp only [Option.bind_some]
  cases hr : right h with
  | false => rfl
  | true =>
    have hn := right_le hr
    simp only [Bool.not_true, Bool.false_eq_true, if_false, if_true]
    rw [show (Sh.len h.Txns) = ((h.Txns.length : Nat) : Int) from rfl, graph_New _ (by omega)]
    simp only [Option.bind_some]
    rw [gr_zero, pSo_loop hn]
    simp only [Option.bind_some]
    rw [so_eq (by omega)]

/-! ### Who reads from whom -/
theorem right_okT {h : G.api_Hist} (hr : right h = true) {t : Nat} (ht : t < h.Txns.length) : okT h (t : Int) (tx h t) = true := by
  simp only [right, Bool.and_eq_true] at hr
  have h2 := hr.2
  rw [okAll_iff, decide_eq_true_eq] at h2
  have := h2 t ht
  have e : tx h (t : Int) = h.Txns[t] := by simp [tx, ht]
  rw [e]
  simpa using this
theorem from_self {h : G.api_Hist} (hr : right h = true) {t : Nat} (ht : t < h.Txns.length) {r : G.api_Take} (hm : r ∈ (tx h t).Reads) : r.From ≠ (t : Int) := by
  have h1 := right_okT hr ht
  simp only [okT, Bool.and_eq_true] at h1
  have h2 := takes_there h1.1.1.2 r hm
  simp only [there, Bool.or_eq_true, Bool.and_eq_true, decide_eq_true_eq] at h2
  rcases h2 with h2 | h2
  · omega
  · exact h2.1.2
def wrL (h : G.api_Hist) (t : Nat) : List (Nat × Nat) := ((tx h t).Reads.filter fun r => decide (0 ≤ r.From)).map fun r => (r.From.toNat, t)
theorem pWr_loop {h : G.api_Hist} (hr : right h = true) : G.known_Wr_1__known_laid_1_2 h (gr h.Txns.length (addL no0 [])) = some (gr h.Txns.length (addL no0 ((List.range h.Txns.length).flatMap (wrL h)))) := by
  have hn := right_le hr
  unfold G.known_Wr_1__known_laid_1_2
  refine count_exit (fun k => gr h.Txns.length (addL no0 ((List.range k).flatMap (wrL h)))) h.Txns.length _ (fuel_gt (by omega)) (fun t ht => ?_) ?_ rfl
  · simp only [G.known_Wr_1__known_laid_1_2_b1, dec_lt, ht, decide_true, if_true, idx_nat ht, Option.bind_some]
    obtain ⟨_, _, hlen⟩ := right_takes hr (tx_in ht)
    refine count_exit (fun i => gr h.Txns.length (addL no0 ((List.range t).flatMap (wrL h) ++ ((((tx h t).Reads.take i).filter fun r => decide (0 ≤ r.From)).map fun r => (r.From.toNat, t))))) (tx h t).Reads.length _ (fuel_gt (by omega)) (fun i hi => ?_) ?_ (by simp)
    · simp only [G.known_Wr_1__known_laid_1_2_b2, dec_lt, hi, decide_true, if_true, idx_at hi, Option.bind_some, w64_succ (show i < 9223372036854775807 by omega), Sh.next]
      rw [List.take_add_one, List.getElem?_eq_getElem hi, Option.toList_some, List.filter_append, List.map_append, ← List.append_assoc]
      by_cases h0 : ((tx h t).Reads[i]).From < 0
      · have h1 : ¬ 0 ≤ ((tx h t).Reads[i]).From := by omega
        rw [pLaid_neg _ h0]
        simp [h1]
      · have h1 : 0 ≤ ((tx h t).Reads[i]).From := by omega
        obtain ⟨x, hx, hxn⟩ := from_in hr ht (List.getElem_mem hi) h0
        rw [hx, pLaid (show h.Txns.length ≤ 64 by omega) _ _ hxn ht]
        simp [hx]
    · simp only [G.known_Wr_1__known_laid_1_2_b2, dec_lt, Nat.lt_irrefl, decide_false, Bool.false_eq_true, if_false, G.known_Wr_1__known_laid_1_2_j1, w64_succ (show t < 9223372036854775807 by omega), Sh.next, flat_succ, List.take_length]
      rfl
  · simp only [G.known_Wr_1__known_laid_1_2_b1, dec_lt, Nat.lt_irrefl, decide_false, Bool.false_eq_true, if_false]
theorem wr_eq {h : G.api_Hist} (hr : right h = true) : gr h.Txns.length (addL no0 ((List.range h.Txns.length).flatMap (wrL h))) = gr h.Txns.length (wrF h) := by
  have hn := right_le hr
  refine gr_ext (by omega) fun x y hx hy => ?_
  unfold addL wrF wrL no0
  rw [Bool.false_or, Bool.eq_iff_iff]
  simp only [List.any_eq_true, List.mem_flatMap, List.mem_range, List.mem_map, List.mem_filter, decide_eq_true_eq, Bool.and_eq_true]
  constructor
  · rintro ⟨e, ⟨t, ht, r, ⟨hm, hp⟩, rfl⟩, ⟨h1, h2⟩, h3⟩
    simp only at h1 h2 h3
    subst h2 h3
    exact ⟨r, hm, by omega⟩
  · rintro ⟨r, hm, h1⟩
    have := from_self hr hy hm
    exact ⟨(x, y), ⟨y, hy, r, ⟨hm, by omega⟩, by rw [h1]; simp⟩, ⟨by simp; omega, rfl⟩, rfl⟩
def wrG (h : G.api_Hist) : G.graph_Graph := if right h then gr h.Txns.length (wrF h) else g0
theorem pWr {h : G.api_Hist} (hf : Fits h) : G.known_Wr h = some (wrG h) := by
  unfold G.known_Wr G.known_laid__known_Wr_1 wrG
  rw [pRight hf]
  simp only [Option.bind_some]
  cases hr : right h with
  | false => rfl
  | true =>
    have hn := right_le hr
    simp only [Bool.not_true, Bool.false_eq_true, if_false, if_true]
    rw [show (Sh.len h.Txns) = ((h.Txns.length : Nat) : Int) from rfl, graph_New _ (by omega)]
    simp only [Option.bind_some]
    rw [gr_zero, pWr_loop hr]
    simp only [Option.bind_some]
    rw [wr_eq hr]
def pastG (h : G.api_Hist) : G.graph_Graph := if right h then gr h.Txns.length (orF (soF h) (wrF h)) else g0
theorem union_g0 : G.graph_Union g0 g0 = some (g0, 0) := by
  have := graph_Union (n := 0) (by omega) no0 no0
  exact this
theorem pPast {h : G.api_Hist} (hf : Fits h) : G.known_Past h = some (pastG h) := by
  unfold G.known_Past
  rw [pSo hf, pWr hf]
  simp only [Option.bind_some]
  unfold soG wrG pastG
  cases hr : right h with
  | false => simp only [Bool.false_eq_true, if_false]; rw [union_g0]; rfl
  | true =>
    have hn := right_le hr
    simp only [if_true]
    rw [graph_Union (by omega)]; rfl

/-! ### Who reads what was there at first -/
def wN (h : G.api_Hist) (key : Int) : List Nat := (List.range h.Txns.length).filter fun t : Nat => hasW (tx h t) key
theorem writers_wN {h : G.api_Hist} (hr : right h = true) (key : Int) : writers h key = (wN h key).map fun t : Nat => (t : Int) := by
  unfold writers wN; rw [if_pos hr]
theorem wN_lt {h : G.api_Hist} {key : Int} {t : Nat} (ht : t ∈ wN h key) : t < h.Txns.length ∧ hasW (tx h t) key = true := by
  unfold wN at ht; simpa using ht
theorem wN_len {h : G.api_Hist} {key : Int} : (wN h key).length ≤ h.Txns.length := by
  have := List.length_filter_le (fun t : Nat => hasW (tx h t) key) (List.range h.Txns.length); simpa [wN] using this
def iniL (h : G.api_Hist) (k : Nat) : List (Nat × Nat) := (readers h k (-1)).flatMap fun a => (wN h k).map fun b => (a, b)
theorem map_idx {l : List Nat} {i : Nat} (h : i < l.length) : Sh.idx (l.map fun t : Nat => (t : Int)) (i : Int) = some ((l[i] : Nat) : Int) := by
  rw [idx_at (by simpa using h)]; simp
theorem map_len (l : List Nat) : Sh.len (l.map fun t : Nat => (t : Int)) = ((l.length : Nat) : Int) := by simp [Sh.len]
theorem pInit_in {h : G.api_Hist} (hr : right h = true) (v a : Nat) (ha : a < h.Txns.length) (hv : v < 1000) (key : Int) (l : List (Nat × Nat)) :
    Sh.loop (fun (p : G.graph_Graph × Int) => G.known_Init_1__known_laid_1_2_b3 v a (writers h key) p.1 p.2) (gr h.Txns.length (addL no0 l), 0) = some (.inl (gr h.Txns.length (addL no0 (l ++ (wN h key).map fun b => (a, b))), ((v + 1 : Nat) : Int))) := by
  have hn := right_le hr
  have hw := wN_len (h := h) (key := key)
  rw [writers_wN hr]
  refine count_exit (fun i => gr h.Txns.length (addL no0 (l ++ ((wN h key).take i).map fun b => (a, b)))) (wN h key).length _ (fuel_gt (by omega)) (fun i hi => ?_) ?_ (by simp)
  · have hb := (wN_lt (List.getElem_mem hi)).1
    simp only [G.known_Init_1__known_laid_1_2_b3, map_len, dec_lt, hi, decide_true, if_true, map_idx hi, Option.bind_some, pLaid (show h.Txns.length ≤ 64 by omega) _ _ ha hb, w64_succ (show i < 9223372036854775807 by omega), Sh.next]
    rw [List.take_add_one, List.getElem?_eq_getElem hi, Option.toList_some, List.map_append, List.append_assoc]
    rfl
  · simp only [G.known_Init_1__known_laid_1_2_b3, map_len, dec_lt, Nat.lt_irrefl, decide_false, Bool.false_eq_true, if_false, G.known_Init_1__known_laid_1_2_j2, w64_succ (show v < 9223372036854775807 by omega), Sh.next, List.take_length]
theorem pInit_mid {h : G.api_Hist} (hf : Fits h) (hr : right h = true) (v k : Nat) (hv : v < 1000) (l : List (Nat × Nat)) :
    Sh.loop (fun (p : G.graph_Graph × Int) => G.known_Init_1__known_laid_1_2_b2 h v k ((readers h k (-1)).map fun t : Nat => (t : Int)) p.1 p.2) (gr h.Txns.length (addL no0 l), 0) = some (.inl (gr h.Txns.length (addL no0 (l ++ iniL h k)), ((v + 1 : Nat) : Int))) := by
  have hn := right_le hr
  have hrl := readers_len (h := h) (key := (k : Int)) (frm := -1)
  refine count_exit (fun i => gr h.Txns.length (addL no0 (l ++ ((readers h k (-1)).take i).flatMap fun a => (wN h k).map fun b => (a, b)))) (readers h k (-1)).length _ (fuel_gt (by omega)) (fun i hi => ?_) ?_ (by simp)
  · have ha := (readers_lt (List.getElem_mem hi)).1
    simp only [G.known_Init_1__known_laid_1_2_b2, map_len, dec_lt, hi, decide_true, if_true, map_idx hi, Option.bind_some, pWriters hf]
    rw [pInit_in hr i _ ha (by omega), List.take_add_one, List.getElem?_eq_getElem hi, Option.toList_some, List.flatMap_append, List.append_assoc]
    simp
  · simp only [G.known_Init_1__known_laid_1_2_b2, map_len, dec_lt, Nat.lt_irrefl, decide_false, Bool.false_eq_true, if_false, G.known_Init_1__known_laid_1_2_j1, w64_succ (show v < 9223372036854775807 by omega), Sh.next, List.take_length]
    rfl
theorem keysN_len (h : G.api_Hist) : (keysN h).length ≤ 16 := by
  have := List.length_filter_le (fun k : Nat => h.Txns.any fun t => hasW t k) (List.range 16); simpa [keysN] using this
theorem pInit_loop {h : G.api_Hist} (hf : Fits h) (hr : right h = true) : G.known_Init_1__known_laid_1_2 h (gr h.Txns.length (addL no0 [])) = some (gr h.Txns.length (addL no0 ((keysN h).flatMap (iniL h)))) := by
  have hn := right_le hr
  have hk := keysN_len h
  unfold G.known_Init_1__known_laid_1_2
  rw [pKeys hf]
  simp only [Option.bind_some]
  rw [show keys h = (keysN h).map (fun k : Nat => (k : Int)) by unfold keys; rw [if_pos hr]]
  refine count_exit (fun i => gr h.Txns.length (addL no0 (((keysN h).take i).flatMap (iniL h)))) (keysN h).length _ (fuel_gt (by omega)) (fun i hi => ?_) ?_ (by simp)
  · simp only [G.known_Init_1__known_laid_1_2_b1, map_len, dec_lt, hi, decide_true, if_true, map_idx hi, Option.bind_some, pReaders hf]
    rw [show readersI h ((keysN h)[i] : Nat) (-1) = (readers h ((keysN h)[i] : Nat) (-1)).map (fun t : Nat => (t : Int)) by unfold readersI; rw [if_pos hr]]
    rw [pInit_mid hf hr i _ (by omega), List.take_add_one, List.getElem?_eq_getElem hi, Option.toList_some, List.flatMap_append]
    simp
  · simp only [G.known_Init_1__known_laid_1_2_b1, map_len, dec_lt, Nat.lt_irrefl, decide_false, Bool.false_eq_true, if_false, List.take_length]
theorem mem_keysN {h : G.api_Hist} (hr : right h = true) {y : Nat} (hy : y < h.Txns.length) {k : Int} (hw : hasW (tx h y) k = true) : 0 ≤ k ∧ k.toNat ∈ keysN h := by
  obtain ⟨h0, h1⟩ := hasW_lt hr (tx_in hy) hw
  refine ⟨h0, ?_⟩
  unfold keysN
  simp only [List.mem_filter, List.mem_range, List.any_eq_true]
  exact ⟨by omega, _, tx_in hy, by rw [show ((k.toNat : Nat) : Int) = k by omega]; exact hw⟩
theorem ini_eq {h : G.api_Hist} (hr : right h = true) : gr h.Txns.length (addL no0 ((keysN h).flatMap (iniL h))) = gr h.Txns.length (iniF h) := by
  have hn := right_le hr
  refine gr_ext (by omega) fun x y hx hy => ?_
  unfold addL iniF iniL no0 iniC
  rw [Bool.false_or, Bool.eq_iff_iff]
  simp only [List.any_eq_true, List.mem_flatMap, List.mem_map, decide_eq_true_eq, Bool.and_eq_true]
  constructor
  · rintro ⟨e, ⟨k, hk, a, ha, b, hb, rfl⟩, ⟨h1, h2⟩, h3⟩
    simp only at h1 h2 h3
    subst h2 h3
    obtain ⟨_, hfr⟩ := readers_lt ha
    have := (fromR_iff hr (inr_nat.2 hx)).1 hfr
    simp only [List.any_eq_true, decide_eq_true_eq] at this
    obtain ⟨r, hm, rfl⟩ := this
    exact ⟨fun he => h1 he.symm, _, hm, rfl, (wN_lt hb).2⟩
  · rintro ⟨hne, r, hm, hf1, hw⟩
    obtain ⟨h0, hk⟩ := mem_keysN hr hy hw
    have e : ((r.Key.toNat : Nat) : Int) = r.Key := by omega
    refine ⟨(x, y), ⟨r.Key.toNat, hk, x, ?_, y, ?_, rfl⟩, ⟨fun he => hne he.symm, rfl⟩, rfl⟩
    · unfold readers
      simp only [List.mem_filter, List.mem_range, decide_eq_true_eq]
      refine ⟨hx, (fromR_iff hr (inr_nat.2 hx)).2 ?_⟩
      simp only [List.any_eq_true, decide_eq_true_eq]
      exact ⟨r, hm, by rw [e, ← hf1]⟩
    · unfold wN
      simp only [List.mem_filter, List.mem_range]
      exact ⟨hy, by rw [e]; exact hw⟩
def iniG (h : G.api_Hist) : G.graph_Graph := if right h then gr h.Txns.length (iniF h) else g0
theorem pInit {h : G.api_Hist} (hf : Fits h) : G.known_Init h = some (iniG h) := by
  unfold G.known_Init G.known_laid__known_Init_1 iniG
  rw [pRight hf]
  simp only [Option.bind_some]
  cases hr : right h with
  | false => rfl
  | true =>
    have hn := right_le hr
    simp only [Bool.not_true, Bool.false_eq_true, if_false, if_true]
    rw [show (Sh.len h.Txns) = ((h.Txns.length : Nat) : Int) from rfl, graph_New _ (by omega)]
    simp only [Option.bind_some]
    rw [gr_zero, pInit_loop hf hr]
    simp only [Option.bind_some]
    rw [ini_eq hr]
end Pl
end

section
/- What follows from choices: the graphs that the program makes. -/
namespace Pl
open Go Go.Av

def cr (h : G.api_Hist) (l : List G.api_Choice) : Bool := right h && l.all (one h)
theorem cr_iff {h : G.api_Hist} {l : List G.api_Choice} : cr h l = true ↔ right h = true ∧ ∀ c ∈ l, one h c = true := by simp [cr]
theorem wwF_nil : wwF [] = no0 := by funext x y; simp [wwF, no0]
def wwG (h : G.api_Hist) (l : List G.api_Choice) : G.graph_Graph := if cr h l then gr h.Txns.length (wwF l) else g0
theorem pWw {h : G.api_Hist} (hf : Fits h) {l : List G.api_Choice} (hl : l.length ≤ 20000) : G.choice_Ww h l = some (wwG h l) := by
  unfold G.choice_Ww wwG
  rw [pChoice hf hl]
  simp only [Option.bind_some]
  cases hc : (right h && l.all (one h)) with
  | false => rw [show cr h l = false from hc]; rfl
  | true =>
    rw [show cr h l = true from hc]
    obtain ⟨hr, hone⟩ := cr_iff.1 hc
    have hn := right_le hr
    have hn64 : h.Txns.length ≤ 64 := by omega
    simp only [Bool.not_true, Bool.false_eq_true, if_false, if_true]
    rw [show (Sh.len h.Txns) = ((h.Txns.length : Nat) : Int) from rfl, graph_New _ hn64]
    simp only [Option.bind_some]
    refine run_exit (fun i => ((h.Txns.length : Int), rows h.Txns.length (wwF (l.take i)), (i : Int))) l.length _ (fuel_gt (by omega)) (fun i hi => ?_) ?_ ?_
    · obtain ⟨a, b, ea, eb, ha, hb, _⟩ := one_nat (hone _ (List.getElem_mem hi))
      simp only [G.choice_Ww_b1, dec_lt, hi, decide_true, if_true, idx_at hi, Option.bind_some, ea, eb]
      rw [show G.graph_Graph.mk (h.Txns.length : Int) (rows h.Txns.length (wwF (l.take i))) = gr h.Txns.length (wwF (l.take i)) from rfl, graph_Add hn64 _ ha hb]
      simp only [Option.bind_some, w64_succ (show i < 9223372036854775807 by omega), Sh.next]
      have e : rows h.Txns.length (addF (wwF (l.take i)) a b) = rows h.Txns.length (wwF (l.take (i + 1))) := by
        rw [rows_ext hn64]
        intro x y _ _
        unfold addF wwF
        rw [take_any hi, ea, eb]
        congr 1
        rw [Bool.eq_iff_iff]
        simp only [decide_eq_true_eq, Bool.and_eq_true]
        constructor
        · rintro ⟨rfl, rfl⟩; exact ⟨rfl, rfl⟩
        · rintro ⟨h1, h2⟩; exact ⟨by omega, by omega⟩
      simp only [e]
    · simp only [G.choice_Ww_b1, dec_lt, Nat.lt_irrefl, decide_false, Bool.false_eq_true, if_false, G.choice_Ww_j1, List.take_length]
    · rw [List.take_zero, wwF_nil, zero_rows]; rfl

def rwG (h : G.api_Hist) (l : List G.api_Choice) : G.graph_Graph := if cr h l then gr h.Txns.length (rwF h l) else g0
theorem pRw {h : G.api_Hist} (hf : Fits h) {l : List G.api_Choice} (hl : l.length ≤ 20000) : G.choice_Rw h l = some (rwG h l) := by
  unfold G.choice_Rw rwG
  rw [pChoice hf hl]
  simp only [Option.bind_some]
  cases hc : (right h && l.all (one h)) with
  | false => rw [show cr h l = false from hc]; rfl
  | true =>
    rw [show cr h l = true from hc]
    obtain ⟨hr, hone⟩ := cr_iff.1 hc
    have hn := right_le hr
    have hn64 : h.Txns.length ≤ 64 := by omega
    simp only [Bool.not_true, Bool.false_eq_true, if_false, if_true]
    rw [pInit hf]
    simp only [Option.bind_some]
    rw [show iniG h = gr h.Txns.length (iniF h) by unfold iniG; rw [if_pos hr]]
    refine count_exit (fun i => gr h.Txns.length (rwF h (l.take i))) l.length _ (fuel_gt (by omega)) (fun i hi => ?_) ?_ (by congr 2; funext x y; simp [rwF])
    · obtain ⟨a, b, ea, eb, ha, hb, _⟩ := one_nat (hone _ (List.getElem_mem hi))
      simp only [G.choice_Rw_b1, dec_lt, hi, decide_true, if_true, idx_at hi, Option.bind_some]
      refine count_exit (fun t => gr h.Txns.length (orF (rwF h (l.take i)) fun x y => decide (x < t) && rwC h l[i] x y)) h.Txns.length _ (fuel_gt (by omega)) (fun t ht => ?_) ?_ ?_
      · obtain ⟨_, _, hlen⟩ := right_takes hr (tx_in ht)
        have step : ∀ q : Bool, q = rwC h l[i] t b → G.choice_Rw_j4 l[i] (gr h.Txns.length (orF (rwF h (l.take i)) fun x y => decide (x < t) && rwC h l[i] x y)) t q = some (.inl (gr h.Txns.length (orF (rwF h (l.take i)) fun x y => decide (x < t + 1) && rwC h l[i] x y), ((t + 1 : Nat) : Int))) := by
          intro q hq
          unfold G.choice_Rw_j4 G.choice_Rw_j3
          rw [eb]
          have key : ∀ x y, x < h.Txns.length → y < h.Txns.length → ((orF (rwF h (l.take i)) fun x y => decide (x < t + 1) && rwC h l[i] x y) x y = ((orF (rwF h (l.take i)) fun x y => decide (x < t) && rwC h l[i] x y) x y || (decide (x = t ∧ y = b) && q))) := by
            intro x y _ _
            unfold orF
            rw [Bool.or_assoc]
            congr 1
            by_cases e1 : x = t
            · subst e1
              by_cases e2 : y = b
              · subst e2; simp [hq]
              · have : rwC h l[i] x y = false := by
                  unfold rwC
                  rw [eb]
                  have : ¬ (b : Int) = (y : Int) := by omega
                  simp [this]
                simp [this, e2]
            · have : (x < t + 1) ↔ (x < t) := by omega
              simp [e1, this]
          cases q with
          | true =>
            simp only [if_true, graph_Add hn64 _ ht hb, Option.bind_some, w64_succ (show t < 9223372036854775807 by omega), Sh.next]
            congr 3
            refine gr_ext hn64 fun x y hx hy => ?_
            rw [key x y hx hy]; simp [addF]
          | false =>
            simp only [Bool.false_eq_true, if_false, w64_succ (show t < 9223372036854775807 by omega), Sh.next]
            congr 3
            refine gr_ext hn64 fun x y hx hy => ?_
            rw [key x y hx hy]; simp
        simp only [G.choice_Rw_b2, dec_lt, ht, decide_true, if_true, idx_nat ht, Option.bind_some]
        have e3 : decide ((t : Int) ≠ l[i].B) = decide (t ≠ b) := by rw [eb]; congr 1; exact propext (by omega)
        rw [e3, pHasT (by omega)]
        simp only [Option.bind_some]
        have e4 : (tx h (t : Int)).Reads.any (fun c => decide (G.api_Take.mk l[i].Key l[i].A = c)) = decide (fromR h t l[i].Key = some l[i].A) := by
          have := fromR_iff (t := (t : Int)) (key := l[i].Key) (v := l[i].A) hr (inr_nat.2 ht)
          rw [Bool.eq_iff_iff, decide_eq_true_eq, this]
        by_cases e5 : t = b
        · subst e5
          simp only [ne_eq, not_true_eq_false, decide_false, Bool.false_eq_true, if_false]
          refine step false ?_
          unfold rwC; simp
        · simp only [ne_eq, e5, not_false_eq_true, decide_true, if_true]
          refine step _ ?_
          unfold rwC
          rw [e4, eb]; simp [e5]
      · simp only [G.choice_Rw_b2, dec_lt, Nat.lt_irrefl, decide_false, Bool.false_eq_true, if_false, G.choice_Rw_j2, w64_succ (show i < 9223372036854775807 by omega), Sh.next]
        congr 3
        refine congrArg (fun q => (q, ((i + 1 : Nat) : Int))) (gr_ext hn64 fun x y hx _ => ?_)
        unfold rwF orF
        rw [take_any hi]
        simp [hx, Bool.or_assoc]
      · congr 2
        funext x y; simp [orF]
    · simp only [G.choice_Rw_b1, dec_lt, Nat.lt_irrefl, decide_false, Bool.false_eq_true, if_false, G.choice_Rw_j1, List.take_length]

theorem pAll1 {n : Nat} (hn : n ≤ 64) (f g : Nat → Nat → Bool) : G.choice_all (gr n f) [gr n g] = some (gr n (orF f g)) := by
  unfold G.choice_all
  refine run_exit (fun i => if i = 0 then ((gr n f).N, (gr n f).Rows, 0) else ((n : Int), rows n (orF f g), 1)) 1 _ (by decide) (fun i hi => ?_) ?_ rfl
  · have : i = 0 := by omega
    subst this
    simp only [if_true, Nat.zero_add, G.choice_all_b1, Sh.len, List.length_cons, List.length_nil]
    rw [show G.graph_Graph.mk (gr n f).N (gr n f).Rows = gr n f from rfl]
    rw [show Sh.idx [gr n g] 0 = some (gr n g) from rfl]
    simp only [Option.bind_some, graph_Union hn]
    rfl
  · simp only [G.choice_all_b1, G.choice_all_j1]
    rfl
def lev2 (lev : Int) : Bool := decide (lev = 0) || decide (lev = 1)
def fullG (h : G.api_Hist) (lev : Int) (l : List G.api_Choice) : G.graph_Graph × Int := if cr h l && lev2 lev then (gr h.Txns.length (fullF h lev l), 0) else (g0, 1)
theorem pFull {h : G.api_Hist} (hf : Fits h) (lev : Int) {l : List G.api_Choice} (hl : l.length ≤ 20000) : G.choice_Full h lev l = some (fullG h lev l) := by
  unfold G.choice_Full fullG
  rw [pChoice hf hl]
  simp only [Option.bind_some]
  rw [show (right h && l.all (one h)) = cr h l from rfl]
  cases hc : cr h l with
  | false => rfl
  | true =>
    obtain ⟨hr, hone⟩ := cr_iff.1 hc
    have hn := right_le hr
    have hn64 : h.Txns.length ≤ 64 := by omega
    have e1 : pastG h = gr h.Txns.length (orF (soF h) (wrF h)) := by unfold pastG; rw [if_pos hr]
    have e2 : wwG h l = gr h.Txns.length (wwF l) := by unfold wwG; rw [if_pos hc]
    have e3 : rwG h l = gr h.Txns.length (rwF h l) := by unfold rwG; rw [if_pos hc]
    have body : G.choice_Full_j1 h lev l false = some (gr h.Txns.length (orF (dF h l) (if lev = 1 then compF h.Txns.length (dF h l) (rwF h l) else rwF h l)), 0) := by
      unfold G.choice_Full_j1 G.choice_Full_j2
      simp only [Bool.false_eq_true, if_false, pPast hf, pWw hf hl, pRw hf hl, Option.bind_some, e1, e2, e3, pAll1 hn64]
      by_cases hv : lev = 1
      · simp only [hv, decide_true, if_true, graph_Compose hn64, Option.bind_some, pAll1 hn64]; rfl
      · simp only [hv, decide_false, Bool.false_eq_true, if_false]
        rfl
    simp only [Bool.not_true, Bool.false_eq_true, if_false, Bool.true_and]
    unfold lev2
    by_cases h0 : lev = 0
    · subst h0
      simp only [ne_eq, not_true_eq_false, decide_false, Bool.false_eq_true, if_false, body, decide_true, Bool.true_or, if_true]
      rfl
    · by_cases h1 : lev = 1
      · subst h1
        simp only [ne_eq, h0, not_false_eq_true, decide_true, if_true, not_true_eq_false, decide_false, body, Bool.or_true]
        rfl
      · simp [h0, h1, G.choice_Full_j1, g0]
end Pl
end

section
/- Cycles: which lists are, and what is told of them. -/


namespace Pl
open Go Go.Av

theorem cbit_get (k i : Nat) (hk : k < 64) : (Bv.bit (k : Int)).getLsbD i = decide (i = k) := by
  have hb : Bv.bit (k : Int) = 1#64 <<< k := by unfold Bv.bit; rw [if_pos ⟨by omega, by omega⟩]; simp
  rw [hb, shift_get k i hk]
def setOf (l : List Int) : BitVec 64 := l.foldl (fun s i => s ||| Bv.bit i) 0#64
theorem setOf_snoc (l : List Int) (i : Int) : setOf (l ++ [i]) = setOf l ||| Bv.bit i := by simp [setOf]
theorem setOf_get {n : Nat} (hn : n ≤ 64) : ∀ (l : List Int), (∀ a ∈ l, 0 ≤ a ∧ a < n) → ∀ i : Nat, (setOf l).getLsbD i = decide ((i : Int) ∈ l) := by
  have key : ∀ (l : List Int) (s : BitVec 64), (∀ a ∈ l, 0 ≤ a ∧ a < n) → ∀ i : Nat, (l.foldl (fun s i => s ||| Bv.bit i) s).getLsbD i = (s.getLsbD i || decide ((i : Int) ∈ l)) := by
    intro l
    induction l with
    | nil => intro s _ i; simp
    | cons a l ih =>
      intro s h i
      have ha := h a (by simp)
      obtain ⟨k, rfl⟩ : ∃ k : Nat, a = k := ⟨a.toNat, by omega⟩
      simp only [List.foldl_cons]
      rw [ih _ (fun b hb => h b (List.mem_cons_of_mem _ hb)), BitVec.getLsbD_or, cbit_get k i (by omega)]
      by_cases hi : i = k
      · subst hi; simp
      · have : ¬ (i : Int) = (k : Int) := by omega
        simp [hi, this]
  intro l h i
  have := key l 0#64 h i
  simpa [setOf] using this
theorem set_has {n : Nat} (hn : n ≤ 64) {l : List Int} (h : ∀ a ∈ l, 0 ≤ a ∧ a < n) (a : Int) (ha : 0 ≤ a ∧ a < n) : Bv.has (setOf l) a = decide (a ∈ l) := by
  obtain ⟨k, rfl⟩ : ∃ k : Nat, a = k := ⟨a.toNat, by omega⟩
  rw [has_nat _ (by omega), setOf_get hn l h]

theorem len_of_cover {n : Nat} : ∀ {l : List Int}, (∀ a ∈ l, 0 ≤ a ∧ a < n) → l.Nodup → l.length ≤ n := by
  induction n with
  | zero =>
    intro l h _
    cases l with
    | nil => simp
    | cons a l => have := h a (by simp); omega
  | succ n ih =>
    intro l h hd
    by_cases hm : (n : Int) ∈ l
    · have h1 := ih (l := l.erase (n : Int)) (fun a ha => by
        have ha' := (List.Nodup.mem_erase_iff hd).1 ha
        have := h a ha'.2
        have hne : a ≠ (n : Int) := ha'.1
        omega) (hd.erase _)
      rw [List.length_erase_of_mem hm] at h1
      omega
    · have := ih (l := l) (fun a ha => by
        have := h a ha
        have hne : a ≠ (n : Int) := fun e => hm (e ▸ ha)
        omega) hd
      omega
theorem scanG {σ α : Type} {b : σ → Option (σ ⊕ α)} (S : Nat → σ) (m : Nat) (p : Nat → Bool) (A B : Option α) (hm : m < Sh.FUEL) (h : ∀ k, k < m → (∀ j, j < k → p j = true) → b (S k) = if p k then some (.inl (S (k + 1))) else Sh.exit B) (hr : (∀ j, j < m → p j = true) → b (S m) = Sh.exit A) {s : σ} (hs : s = S 0) :
    Sh.loop b s = if ∀ k, k < m → p k = true then A else B := by
  subst hs
  by_cases hall : ∀ k, k < m → p k = true
  · rw [if_pos hall]
    refine run_exit S m A hm (fun k hk => ?_) (hr hall) rfl
    rw [h k hk (fun j hj => hall j (by omega)), if_pos (hall k hk)]
  · rw [if_neg hall]
    have hex : ∃ k, k < m ∧ p k = false := by
      apply Classical.byContradiction
      intro hn
      exact hall (fun k h1 => by
        cases hp : p k with
        | true => rfl
        | false => exact absurd ⟨k, h1, hp⟩ hn)
    obtain ⟨k, hk, hmin⟩ := exists_least _ hex
    have before : ∀ j, j < k → p j = true := fun j hj => by
      cases hp : p j with
      | true => rfl
      | false => have := hmin j ⟨by omega, hp⟩; omega
    refine run_exit S k B (by omega) (fun q hq => ?_) ?_ rfl
    · rw [h q (by omega) (fun j hj => before j (by omega)), if_pos (before q hq)]
    · rw [h k hk.1 before, if_neg (by rw [hk.2]; simp)]

/-- A cycle. -/
structure Cyc (n : Nat) (f : Nat → Nat → Bool) (l : List Int) : Prop where
  some : 0 < l.length
  nodes : ∀ a ∈ l, 0 ≤ a ∧ a < n
  nodup : l.Nodup
  edge : ∀ (i : Nat) (h : i < l.length), f l[i].toNat (l[(i + 1) % l.length]'(Nat.mod_lt _ (by omega))).toNat = true
noncomputable def cyB (n : Nat) (f : Nat → Nat → Bool) (l : List Int) : Bool := @decide (Cyc n f l) (Classical.propDecidable _)
theorem cy_iff {n : Nat} {f : Nat → Nat → Bool} {l : List Int} : cyB n f l = true ↔ Cyc n f l := by
  unfold cyB; exact @decide_eq_true_iff _ (Classical.propDecidable _)
theorem hasB_iff {n : Nat} {f : Nat → Nat → Bool} {a b : Int} : hasB n f a b = true ↔ (0 ≤ a ∧ a < n ∧ 0 ≤ b ∧ b < n) ∧ f a.toNat b.toNat = true := by
  unfold hasB; simp only [Bool.and_eq_true, decide_eq_true_eq]

/-- The node ahead of one. -/
def prevOf (l : List Int) (k : Nat) : Int := (l[(k + l.length - 1) % l.length]?).getD 0
def cycAt (n : Nat) (f : Nat → Nat → Bool) (l : List Int) (k : Nat) : Bool := match l[k]? with
  | some a => hasB n f (prevOf l k) a && !decide (a ∈ l.take k)
  | none => false
theorem prev_zero {l : List Int} (h : 0 < l.length) : prevOf l 0 = l[l.length - 1] := by
  unfold prevOf
  have e : (0 + l.length - 1) % l.length = l.length - 1 := by rw [Nat.zero_add]; exact Nat.mod_eq_of_lt (by omega)
  rw [e, List.getElem?_eq_getElem (by omega)]; rfl
theorem prev_succ {l : List Int} {k : Nat} (h : k < l.length) : prevOf l (k + 1) = l[k] := by
  unfold prevOf
  have e : (k + 1 + l.length - 1) % l.length = k := by
    rw [show k + 1 + l.length - 1 = k + l.length by omega, Nat.add_mod_right]; exact Nat.mod_eq_of_lt h
  rw [e, List.getElem?_eq_getElem h]; rfl
theorem mem_take {l : List Int} {k : Nat} (hk : k ≤ l.length) {a : Int} : a ∈ l.take k ↔ ∃ (j : Nat) (hj : j < k), l[j] = a := by
  constructor
  · intro h
    obtain ⟨j, hj, rfl⟩ := List.getElem_of_mem h
    have hj' : j < k := by rw [List.length_take] at hj; omega
    exact ⟨j, hj', by rw [List.getElem_take]⟩
  · rintro ⟨j, hj, rfl⟩
    rw [← List.getElem_take (j := k) (h := by rw [List.length_take]; omega)]
    exact List.getElem_mem _
theorem cycAt_iff {n : Nat} {f : Nat → Nat → Bool} {l : List Int} {k : Nat} (hk : k < l.length) : cycAt n f l k = true ↔ hasB n f (prevOf l k) l[k] = true ∧ ∀ (j : Nat) (hj : j < k), l[j] ≠ l[k] := by
  unfold cycAt
  rw [List.getElem?_eq_getElem hk]
  simp only [Bool.and_eq_true, Bool.not_eq_true', decide_eq_false_iff_not]
  rw [mem_take (by omega)]
  constructor
  · rintro ⟨h1, h2⟩; exact ⟨h1, fun j hj e => h2 ⟨j, hj, e⟩⟩
  · rintro ⟨h1, h2⟩; exact ⟨h1, fun ⟨j, hj, e⟩ => h2 j hj e⟩
theorem cyc_all {n : Nat} {f : Nat → Nat → Bool} {l : List Int} (h0 : 0 < l.length) : (∀ k, k < l.length → cycAt n f l k = true) ↔ Cyc n f l := by
  constructor
  · intro h
    have h' : ∀ k (hk : k < l.length), _ := fun k hk => (cycAt_iff hk).1 (h k hk)
    refine ⟨h0, fun a ha => ?_, List.pairwise_iff_getElem.2 fun i j hi hj hij => (h' j hj).2 i hij, fun i hi => ?_⟩
    · obtain ⟨k, hk, rfl⟩ := List.getElem_of_mem ha
      have := (hasB_iff.1 (h' k hk).1).1
      exact ⟨this.2.2.1, this.2.2.2⟩
    · by_cases hl : i + 1 = l.length
      · have e : (i + 1) % l.length = 0 := by rw [hl, Nat.mod_self]
        have := (h' 0 h0).1
        rw [prev_zero h0] at this
        have e2 : l[l.length - 1] = l[i] := by congr 1; omega
        rw [e2] at this
        simp only [e]
        exact (hasB_iff.1 this).2
      · have e : (i + 1) % l.length = i + 1 := Nat.mod_eq_of_lt (by omega)
        have := (h' (i + 1) (by omega)).1
        rw [prev_succ hi] at this
        simp only [e]
        exact (hasB_iff.1 this).2
  · intro c k hk
    rw [cycAt_iff hk]
    refine ⟨hasB_iff.2 ?_, fun j hj => List.pairwise_iff_getElem.1 c.nodup j k (by omega) hk hj⟩
    have hn := c.nodes _ (List.getElem_mem hk)
    cases k with
    | zero =>
      have := c.edge (l.length - 1) (by omega)
      have e : (l.length - 1 + 1) % l.length = 0 := by rw [show l.length - 1 + 1 = l.length by omega, Nat.mod_self]
      simp only [e] at this
      rw [prev_zero h0]
      have hm := c.nodes _ (List.getElem_mem (show l.length - 1 < l.length by omega))
      exact ⟨⟨hm.1, hm.2, hn.1, hn.2⟩, this⟩
    | succ k =>
      have := c.edge k (by omega)
      have e : (k + 1) % l.length = k + 1 := Nat.mod_eq_of_lt hk
      simp only [e] at this
      rw [prev_succ (by omega)]
      have hm := c.nodes _ (List.getElem_mem (show k < l.length by omega))
      exact ⟨⟨hm.1, hm.2, hn.1, hn.2⟩, this⟩
theorem cyc_le {n : Nat} {f : Nat → Nat → Bool} {l : List Int} (c : Cyc n f l) : l.length ≤ n := len_of_cover c.nodes c.nodup
theorem cy_false {n : Nat} {f : Nat → Nat → Bool} {l : List Int} (h : ¬ Cyc n f l) : cyB n f l = false := by
  cases e : cyB n f l with
  | false => rfl
  | true => exact absurd (cy_iff.1 e) h
theorem if_cy {n : Nat} {f : Nat → Nat → Bool} {l : List Int} (h0 : 0 < l.length) : (if ∀ k, k < l.length → cycAt n f l k = true then some true else some false) = some (cyB n f l) := by
  by_cases h : ∀ k, k < l.length → cycAt n f l k = true
  · rw [if_pos h, cy_iff.2 ((cyc_all h0).1 h)]
  · rw [if_neg h, cy_false (fun c => h ((cyc_all h0).2 c))]

theorem cycle_Is {n : Nat} (hn : n ≤ 64) (f : Nat → Nat → Bool) (l : List Int) (hl : l.length < 9223372036854775808) : G.cycle_Is (gr n f) l = some (cyB n f l) := by
  unfold G.cycle_Is
  by_cases h0 : l.length = 0
  · have : (l.length : Int) = 0 := by omega
    simp only [len_eq, this, decide_true, if_true, G.cycle_Is_j1]
    rw [cy_false (fun c => by have := c.some; omega)]
  · have h0' : ¬ (l.length : Int) = 0 := by omega
    simp only [len_eq, h0', decide_false, Bool.false_eq_true, if_false]
    by_cases hle : (n : Int) < (l.length : Int)
    · simp only [hle, decide_true, G.cycle_Is_j1, if_true]
      rw [cy_false (fun c => by have := cyc_le c; omega)]
    · have e1 : w64 ((l.length : Int) - 1) = ((l.length - 1 : Nat) : Int) := by rw [w64_id (by omega) (by omega)]; omega
      simp only [hle, decide_false, G.cycle_Is_j1, Bool.false_eq_true, if_false, len_eq, e1]
      rw [idx_at (show l.length - 1 < l.length by omega)]
      simp only [Option.bind_some]
      rw [← if_cy (by omega)]
      refine scanG (fun k => (setOf (l.take k), prevOf l k, (k : Int))) l.length (cycAt n f l) (some true) (some false) (fuel_gt (by omega)) (fun k hk hbef => ?_) (fun _ => ?_) ?_
      · have hnodes : ∀ a ∈ l.take k, 0 ≤ a ∧ a < n := fun a ha => by
          obtain ⟨j, hj, rfl⟩ := (mem_take (by omega)).1 ha
          have := (hasB_iff.1 ((cycAt_iff (by omega)).1 (hbef j hj)).1).1
          exact ⟨this.2.2.1, this.2.2.2⟩
        simp only [G.cycle_Is_b1, len_eq, dec_lt, hk, decide_true, if_true, idx_at hk, Option.bind_some, graph_Has hn]
        have hat : cycAt n f l k = (hasB n f (prevOf l k) l[k] && !decide (l[k] ∈ l.take k)) := by
          unfold cycAt; rw [List.getElem?_eq_getElem hk]
        rw [hat]
        cases hh : hasB n f (prevOf l k) l[k] with
        | false => simp [G.cycle_Is_j3]
        | true =>
          have hnk := (hasB_iff.1 hh).1
          have hs : Bv.has (setOf (l.take k)) l[k] = decide (l[k] ∈ l.take k) := set_has hn hnodes l[k] ⟨hnk.2.2.1, hnk.2.2.2⟩
          simp only [Bool.not_true, Bool.false_eq_true, if_false, bits_Has, Option.bind_some, hs, Bool.true_and]
          by_cases hm : l[k] ∈ l.take k
          · simp [hm, G.cycle_Is_j3]
          · simp only [hm, decide_false, G.cycle_Is_j3, Bool.false_eq_true, if_false, bits_With, Option.bind_some, Bool.not_false, if_true, Sh.next, w64_succ (show k < 9223372036854775807 by omega), prev_succ hk]
            rw [List.take_succ_eq_append_getElem hk, setOf_snoc]
      · simp only [G.cycle_Is_b1, len_eq, Int.lt_irrefl, decide_false, Bool.false_eq_true, if_false, G.cycle_Is_j2]
      · simp only [List.take_zero, prev_zero (show 0 < l.length by omega)]
        rfl
end Pl
end

section
/- How far a node is from a node: what the search and the reference tell. -/
namespace Pl
open Go Go.Av

def leastFrom (q : Nat → Bool) : Nat → Nat → Int
  | 0, _ => -1
  | m + 1, k => if q k then (k : Int) else leastFrom q m (k + 1)
theorem leastFrom_spec (q : Nat → Bool) : ∀ (m k : Nat), (leastFrom q m k = -1 ∧ ∀ j, k ≤ j → j < k + m → q j = false) ∨ ∃ j, k ≤ j ∧ j < k + m ∧ leastFrom q m k = (j : Int) ∧ q j = true ∧ ∀ i, k ≤ i → i < j → q i = false
  | 0, k => .inl ⟨rfl, fun j h1 h2 => by omega⟩
  | m + 1, k => by
    unfold leastFrom
    cases hq : q k with
    | true => exact .inr ⟨k, by omega, by omega, by simp, hq, fun i h1 h2 => by omega⟩
    | false =>
      simp only [Bool.false_eq_true, if_false]
      rcases leastFrom_spec q m (k + 1) with ⟨h1, h2⟩ | ⟨j, h1, h2, h3, h4, h5⟩
      · refine .inl ⟨h1, fun j hj hj2 => ?_⟩
        by_cases h : j = k
        · subst h; exact hq
        · exact h2 j (by omega) (by omega)
      · refine .inr ⟨j, by omega, by omega, h3, h4, fun i hi hi2 => ?_⟩
        by_cases h : i = k
        · subst h; exact hq
        · exact h5 i (by omega) hi2

/-- Is there a way of so many edges to v? -/
def wk (n : Nat) (f : Nat → Nat → Bool) (v : Nat) : Nat → Nat → Bool
  | 0, x => decide (x = v)
  | m + 1, x => (List.range n).any fun y => f x y && wk n f v m y
theorem wk_succ {n : Nat} {f : Nat → Nat → Bool} {v m x : Nat} : wk n f v (m + 1) x = true ↔ ∃ y, y < n ∧ f x y = true ∧ wk n f v m y = true := by
  show ((List.range n).any fun y => f x y && wk n f v m y) = true ↔ _
  simp only [List.any_eq_true, List.mem_range, Bool.and_eq_true]
theorem wk_one {n : Nat} {f : Nat → Nat → Bool} {v x : Nat} (hv : v < n) : wk n f v 1 x = f x v := by
  rw [Bool.eq_iff_iff, wk_succ]
  unfold wk
  simp only [decide_eq_true_eq]
  constructor
  · rintro ⟨y, _, h, rfl⟩; exact h
  · intro h; exact ⟨v, hv, h, rfl⟩
/-- How far v is, as far as so many edges tell; 0: not told. -/
def dk (n : Nat) (f : Nat → Nat → Bool) (v : Nat) : Nat → Nat → Nat
  | 0, _ => 0
  | k + 1, x => if dk n f v k x ≠ 0 then dk n f v k x else if wk n f v (k + 1) x then k + 1 else 0
theorem dk_zero {n : Nat} {f : Nat → Nat → Bool} {v x : Nat} : ∀ k, dk n f v k x = 0 ↔ ∀ j, 1 ≤ j → j ≤ k → wk n f v j x = false := by
  intro k
  induction k with
  | zero => exact ⟨fun _ j h1 h2 => by omega, fun _ => rfl⟩
  | succ k ih =>
    unfold dk
    by_cases h0 : dk n f v k x = 0
    · rw [if_neg (by simpa using h0)]
      have hall := ih.1 h0
      cases hw : wk n f v (k + 1) x with
      | true =>
        simp only [if_true]
        constructor
        · intro h; omega
        · intro h; have := h (k + 1) (by omega) (by omega); rw [hw] at this; cases this
      | false =>
        simp only [Bool.false_eq_true, if_false, true_iff]
        intro j h1 h2
        by_cases hj : j = k + 1
        · subst hj; exact hw
        · exact hall j h1 (by omega)
    · rw [if_pos h0]
      constructor
      · intro h; exact absurd h h0
      · intro h; exact ih.2 fun j h1 h2 => h j h1 (by omega)
theorem dk_pos {n : Nat} {f : Nat → Nat → Bool} {v x : Nat} : ∀ k, dk n f v k x ≠ 0 → wk n f v (dk n f v k x) x = true ∧ dk n f v k x ≤ k ∧ ∀ i, 1 ≤ i → i < dk n f v k x → wk n f v i x = false := by
  intro k
  induction k with
  | zero => intro h; exact absurd rfl h
  | succ k ih =>
    intro h
    by_cases h0 : dk n f v k x = 0
    · have e : dk n f v (k + 1) x = k + 1 := by
        unfold dk at h ⊢
        rw [if_neg (by simpa using h0)] at h ⊢
        cases hw : wk n f v (k + 1) x with
        | true => rfl
        | false => rw [hw] at h; exact absurd rfl h
      have hw : wk n f v (k + 1) x = true := by
        unfold dk at e
        rw [if_neg (by simpa using h0)] at e
        cases hw : wk n f v (k + 1) x with
        | true => rfl
        | false => rw [hw] at e; simp at e
      rw [e]
      exact ⟨hw, by omega, fun i h1 h2 => (dk_zero k).1 h0 i h1 (by omega)⟩
    · have e : dk n f v (k + 1) x = dk n f v k x := by unfold dk; rw [if_pos h0]; cases k <;> rfl
      rw [e]
      obtain ⟨a, b, c⟩ := ih h0
      exact ⟨a, by omega, c⟩
theorem dk_next {n : Nat} {f : Nat → Nat → Bool} {v x k : Nat} : dk n f v (k + 1) x = if dk n f v k x ≠ 0 then dk n f v k x else if wk n f v (k + 1) x then k + 1 else 0 := rfl
theorem dk_keep {n : Nat} {f : Nat → Nat → Bool} {v x k : Nat} (h : dk n f v k x ≠ 0) : dk n f v (k + 1) x = dk n f v k x := by rw [dk_next, if_pos h]

theorem lev_down {n : Nat} {f : Nat → Nat → Bool} {v m x : Nat} (hm : 1 ≤ m) (hw : wk n f v (m + 1) x = true) (hf : ∀ i, 1 ≤ i → i < m + 1 → wk n f v i x = false) : ∃ y, y < n ∧ f x y = true ∧ wk n f v m y = true ∧ ∀ i, 1 ≤ i → i < m → wk n f v i y = false := by
  obtain ⟨y, hy, h1, h2⟩ := wk_succ.1 hw
  refine ⟨y, hy, h1, h2, fun i hi1 hi2 => ?_⟩
  cases e : wk n f v i y with
  | false => rfl
  | true =>
    have := hf (i + 1) (by omega) (by omega)
    rw [wk_succ.2 ⟨y, hy, h1, e⟩] at this
    cases this
theorem chain {n : Nat} {f : Nat → Nat → Bool} {v : Nat} : ∀ (m x : Nat), x < n → wk n f v (m + 1) x = true → (∀ i, 1 ≤ i → i < m + 1 → wk n f v i x = false) →
    ∃ l : List Int, l.length = m + 1 ∧ (∀ a ∈ l, 0 ≤ a ∧ a < n) ∧ l.Nodup ∧ ∀ a ∈ l, ∃ j, 1 ≤ j ∧ j ≤ m + 1 ∧ wk n f v j a.toNat = true := by
  intro m
  induction m with
  | zero =>
    intro x hx hw _
    refine ⟨[(x : Int)], rfl, fun a ha => ?_, by simp, fun a ha => ?_⟩
    · simp at ha; omega
    · simp at ha; subst ha; exact ⟨1, by omega, by omega, hw⟩
  | succ m ih =>
    intro x hx hw hf
    obtain ⟨y, hy, _, h2, h3⟩ := lev_down (by omega) hw hf
    obtain ⟨l, g1, g2, g3, g4⟩ := ih y hy h2 h3
    refine ⟨(x : Int) :: l, by simp [g1], fun a ha => ?_, List.nodup_cons.2 ⟨fun hx2 => ?_, g3⟩, fun a ha => ?_⟩
    · rcases List.mem_cons.1 ha with rfl | ha
      · omega
      · exact g2 a ha
    · obtain ⟨j, j1, j2, j3⟩ := g4 _ hx2
      have := hf j j1 (by omega)
      simp only [Int.toNat_natCast] at j3
      rw [j3] at this; cases this
    · rcases List.mem_cons.1 ha with rfl | ha
      · exact ⟨m + 2, by omega, by omega, by simpa using hw⟩
      · obtain ⟨j, j1, j2, j3⟩ := g4 a ha
        exact ⟨j, j1, by omega, j3⟩
theorem lev_le {n : Nat} {f : Nat → Nat → Bool} {v m x : Nat} (hx : x < n) (hw : wk n f v (m + 1) x = true) (hf : ∀ i, 1 ≤ i → i < m + 1 → wk n f v i x = false) : m + 1 ≤ n := by
  obtain ⟨l, h1, h2, h3, _⟩ := chain m x hx hw hf
  have := len_of_cover h2 h3
  omega
theorem dk_le {n : Nat} {f : Nat → Nat → Bool} {v k x : Nat} (hx : x < n) : dk n f v k x ≤ n := by
  by_cases h : dk n f v k x = 0
  · omega
  · obtain ⟨h1, h2, h3⟩ := dk_pos k h
    obtain ⟨m, hm⟩ : ∃ m, dk n f v k x = m + 1 := ⟨dk n f v k x - 1, by omega⟩
    rw [hm] at h1 h3 ⊢
    exact lev_le hx h1 h3

/-- Where the search stands behind so many rounds. -/
def frF (n : Nat) (f : Nat → Nat → Bool) (v k : Nat) : Nat → Bool := fun x => if k = 0 then f x v else (List.range n).any fun y => decide (dk n f v k y = k) && f x y
theorem front_iff {n : Nat} {f : Nat → Nat → Bool} {v k x : Nat} (hv : v < n) (h0 : dk n f v k x = 0) : frF n f v k x = wk n f v (k + 1) x := by
  rw [Bool.eq_iff_iff]
  unfold frF
  by_cases hk : k = 0
  · subst hk; rw [if_pos rfl, wk_one hv]
  · rw [if_neg hk, List.any_eq_true, wk_succ]
    simp only [List.mem_range, Bool.and_eq_true, decide_eq_true_eq]
    constructor
    · rintro ⟨y, hy, h1, h2⟩
      have := (dk_pos k (by omega : dk n f v k y ≠ 0)).1
      rw [h1] at this
      exact ⟨y, hy, h2, this⟩
    · rintro ⟨y, hy, h1, h2⟩
      have hne : dk n f v k y ≠ 0 := fun h => by
        have := (dk_zero k).1 h k (by omega) (by omega)
        rw [h2] at this; cases this
      obtain ⟨g1, g2, g3⟩ := dk_pos k hne
      refine ⟨y, hy, ?_, h1⟩
      rcases Nat.lt_or_ge (dk n f v k y) k with h | h
      · have := (dk_zero k).1 h0 (dk n f v k y + 1) (by omega) (by omega)
        rw [wk_succ.2 ⟨y, hy, h1, g1⟩] at this; cases this
      · omega
theorem stable {n : Nat} {f : Nat → Nat → Bool} {v k : Nat} (hv : v < n) (he : ∀ x, x < n → frF n f v k x = false) : ∀ m, k ≤ m → ∀ x, x < n → dk n f v m x = dk n f v k x := by
  have none : ∀ m, k < m → ∀ x, x < n → wk n f v m x = true → (∀ i, 1 ≤ i → i < m → wk n f v i x = false) → False := by
    intro m hm
    induction m with
    | zero => omega
    | succ m ih =>
      intro x hx hw hf
      by_cases hkm : k = m
      · subst hkm
        have h0 : dk n f v k x = 0 := (dk_zero k).2 fun j h1 h2 => hf j h1 (by omega)
        have := he x hx
        rw [front_iff hv h0, hw] at this; cases this
      · obtain ⟨y, hy, _, h2, h3⟩ := lev_down (by omega) hw hf
        exact ih (by omega) y hy h2 h3
  intro m hm
  induction m with
  | zero =>
    have : k = 0 := by omega
    subst this; intro x _; rfl
  | succ m ih =>
    intro x hx
    by_cases hkm : k = m + 1
    · subst hkm; rfl
    · have e := ih (by omega) x hx
      rw [← e, dk_next]
      by_cases h0 : dk n f v m x = 0
      · rw [if_neg (by simpa using h0)]
        cases hw : wk n f v (m + 1) x with
        | false => simp [h0]
        | true => exact (none (m + 1) (by omega) x hx hw (fun i h1 h2 => (dk_zero m).1 h0 i h1 (by omega))).elim
      · rw [if_pos h0]
theorem front_end {n : Nat} {f : Nat → Nat → Bool} {v : Nat} : ∀ x, x < n → frF n f v (n + 1) x = false := by
  intro x _
  unfold frF
  rw [if_neg (by omega), List.any_eq_false]
  intro y hy
  have := dk_le (f := f) (v := v) (k := n + 1) (List.mem_range.1 hy)
  simp; intro h; omega

/-! ### Arrays -/
def ar64 (F : Nat → Int) : List Int := (List.range 64).map F
theorem ar_len (F : Nat → Int) : (ar64 F).length = 64 := by simp [ar64]
theorem ar_ext {F G : Nat → Int} (h : ∀ x, x < 64 → F x = G x) : ar64 F = ar64 G := by
  unfold ar64
  exact List.map_congr_left fun x hx => h x (List.mem_range.1 hx)
theorem ar_idx (F : Nat → Int) {y : Nat} (h : y < 64) : Sh.aidx 64 (ar64 F) (y : Int) = some (F y) := by
  unfold Sh.aidx
  rw [if_pos (ar_len F), idx_at (by rw [ar_len]; exact h)]
  simp [ar64]
theorem ar_set (F : Nat → Int) {y : Nat} (_h : y < 64) (c : Int) : Sh.set (ar64 F) (y : Int) c = ar64 fun x => if x = y then c else F x := by
  rw [set_at]
  apply List.ext_getElem? fun i => ?_
  unfold ar64
  rw [List.getElem?_set]
  by_cases hi : i < 64
  · by_cases e : y = i
    · subst e; simp [hi]
    · have e' : ¬ i = y := fun h => e h.symm
      simp [e, e', hi]
  · have h1 : ¬ y = i ∨ ¬ i < 64 := .inr hi
    rw [List.getElem?_eq_none (by simp; omega)]
    by_cases e : y = i
    · simp [e, hi]
    · simp [e, hi]
theorem ar_whole (F : Nat → Int) : Sh.whole 64 (ar64 F) = some (ar64 F) := by
  unfold Sh.whole; rw [if_pos (ar_len F)]

theorem ar_zero : List.replicate 64 (0 : Int) = ar64 (fun _ => 0) := by decide
def farF (n : Nat) (f : Nat → Nat → Bool) (v k : Nat) : Nat → Int := fun x => if x < n then (dk n f v k x : Int) else 0
/-- Within a round. -/
def inF (n : Nat) (f : Nat → Nat → Bool) (v k : Nat) (L : List Nat) : Nat → Int := fun x => if x < n then (if dk n f v k x = 0 ∧ x ∈ L then ((k + 1 : Nat) : Int) else (dk n f v k x : Int)) else 0
def inN (n : Nat) (f : Nat → Nat → Bool) (v k : Nat) (L : List Nat) : Nat → Bool := fun x => L.any fun y => decide (dk n f v k y = 0) && f x y
theorem far_inner {n : Nat} (hn : n ≤ 64) (f : Nat → Nat → Bool) {v k : Nat} (hv : v < n) (hk : k ≤ n + 1) (p : Nat → Bool) :
    Sh.loop (fun (q : (List Int) × (BitVec 64) × Int) => G.cycle_far_b2 (gr n (turnF f)) ((k + 1 : Nat) : Int) (ilist (row n p)) q.1 q.2.1 q.2.2) (ar64 (farF n f v k), 0#64, 0) =
      some (.inl (ar64 (inF n f v k (Bv.list (row n p))), row n (inN n f v k (Bv.list (row n p))), ((k + 2 : Nat) : Int))) := by
  have hlen := Bv.list_length_le (row n p)
  refine run_exit (fun j => (ar64 (inF n f v k ((Bv.list (row n p)).take j)), row n (inN n f v k ((Bv.list (row n p)).take j)), (j : Int))) (Bv.list (row n p)).length _ (fuel_gt (by omega)) (fun j hj => ?_) ?_ ?_
  · have hjl : j < (ilist (row n p)).length := by simpa [ilist] using hj
    have hy := list_mem_lt hn p hj
    have hjl' : (j : Int) < ((ilist (row n p)).length : Int) := by omega
    simp only [G.cycle_far_b2, len_eq, hjl', decide_true, if_true, ilist_at hj, Option.bind_some]
    generalize hye : (Bv.list (row n p))[j] = y at hy
    have hnot : y ∉ (Bv.list (row n p)).take j := fun hm => by
      obtain ⟨i, hi, e⟩ := List.getElem_of_mem hm
      have hi' : i < j := by rw [List.length_take] at hi; omega
      rw [List.getElem_take] at e
      have := List.pairwise_iff_getElem.1 (Bv.list_sorted (row n p)) i j (by omega) hj hi'
      omega
    have hval : inF n f v k ((Bv.list (row n p)).take j) y = (dk n f v k y : Int) := by
      unfold inF; rw [if_pos hy, if_neg (fun h => hnot h.2)]
    have htk : (Bv.list (row n p)).take (j + 1) = (Bv.list (row n p)).take j ++ [y] := by rw [List.take_succ_eq_append_getElem hj, hye]
    rw [ar_idx _ (by omega)]
    simp only [Option.bind_some, hval]
    by_cases h0 : dk n f v k y = 0
    · have h0' : (dk n f v k y : Int) = 0 := by omega
      simp only [h0', decide_true, if_true, rows_idx hy, Option.bind_some, join_two, row_or hn, G.cycle_far_j4, Sh.next, w64_succ (show j < 9223372036854775807 by omega)]
      rw [ar_set _ (by omega), htk]
      congr 3
      · apply ar_ext
        intro x _
        unfold inF
        by_cases hx : x < n
        · by_cases e : x = y
          · subst e; simp [hx, h0]
          · simp [hx, e]
        · have : ¬ x = y := fun e => hx (e ▸ hy)
          simp [hx, this]
      · congr 1
        rw [row_ext hn]
        intro x _
        unfold inN
        simp [h0, turnF]
    · have h0' : ¬ (dk n f v k y : Int) = 0 := by omega
      simp only [h0', decide_false, Bool.false_eq_true, if_false, G.cycle_far_j4, Sh.next, w64_succ (show j < 9223372036854775807 by omega)]
      rw [htk]
      congr 3
      · apply ar_ext
        intro x _
        unfold inF
        by_cases hx : x < n
        · by_cases e : x = y
          · subst e; simp [hx, h0]
          · simp [hx, e]
        · simp [hx]
      · congr 1
        rw [row_ext hn]
        intro x _
        unfold inN
        simp [h0]
  · have hjl : ¬ (((Bv.list (row n p)).length : Nat) : Int) < ((ilist (row n p)).length : Int) := by simp [ilist]
    simp only [G.cycle_far_b2, len_eq, hjl, decide_false, Bool.false_eq_true, if_false, List.take_length, G.cycle_far_j3, G.cycle_far_j2, Sh.next, w64_succ (show k + 1 < 9223372036854775807 by omega)]
  · simp only [List.take_zero]
    congr 2
    · funext x
      unfold farF inF
      simp
    · have : row n (inN n f v k []) = 0#64 := by
        have : row n (inN n f v k []) = row n (fun _ => false) := by
          rw [row_ext hn]; intro x _; rfl
        rw [this]
        apply Bv.ext
        intro i _
        rw [row_get hn]; simp
      rw [this]
theorem cycle_far {n : Nat} (hn : n ≤ 64) (f : Nat → Nat → Bool) {v : Nat} (hv : v < n) : G.cycle_far (gr n (turnF f)) (v : Int) = some (ar64 (farF n f v n)) := by
  unfold G.cycle_far
  simp only [rows_idx hv, Option.bind_some]
  obtain ⟨K, hK, hmin⟩ := exists_least (fun k => ∀ x, x < n → frF n f v k x = false) ⟨n + 1, front_end⟩
  have hKn : K ≤ n + 1 := hmin _ front_end
  have hend : ar64 (farF n f v K) = ar64 (farF n f v n) := by
    apply ar_ext
    intro x _
    unfold farF
    by_cases hx : x < n
    · rw [if_pos hx, if_pos hx]
      rcases Nat.lt_or_ge n K with h | h
      · have e1 : K = n + 1 := by omega
        subst e1
        have : dk n f v (n + 1) x = dk n f v n x := by
          rw [dk_next]
          by_cases h0 : dk n f v n x = 0
          · rw [if_neg (by simpa using h0)]
            cases hw : wk n f v (n + 1) x with
            | false => simp [h0]
            | true =>
              have := lev_le hx hw (fun i h1 h2 => (dk_zero n).1 h0 i h1 (by omega))
              omega
          · rw [if_pos h0]
        rw [this]
      · rw [stable hv hK n h x hx]
    · rw [if_neg hx, if_neg hx]
  rw [← hend]
  refine run_exit (fun k => (ar64 (farF n f v k), row n (frF n f v k), ((k + 1 : Nat) : Int))) K _ (fuel_gt (by omega)) (fun k hk => ?_) ?_ ?_
  · have hne : ¬ row n (frF n f v k) = 0#64 := fun h => by
      have : ∀ x, x < n → frF n f v k x = false := fun x hx => by
        have h2 : (row n (frF n f v k)).getLsbD x = false := by rw [h]; simp
        rw [row_get hn] at h2
        simpa [hx] using h2
      have := hmin k this
      omega
    simp only [G.cycle_far_b1, ne_eq, hne, not_false_eq_true, decide_true, if_true, bits_List, Option.bind_some]
    rw [far_inner hn f hv (by omega)]
    have hmem : ∀ x, x ∈ Bv.list (row n (frF n f v k)) ↔ x < n ∧ frF n f v k x = true := fun x => list_row hn _
    congr 3
    · apply ar_ext
      intro x _
      unfold inF farF
      by_cases hx : x < n
      · rw [if_pos hx, if_pos hx, dk_next]
        by_cases h0 : dk n f v k x = 0
        · have hi := front_iff hv h0
          rw [if_neg (show ¬ dk n f v k x ≠ 0 by simpa using h0)]
          cases hw : wk n f v (k + 1) x with
          | true => rw [if_pos ⟨h0, (hmem x).2 ⟨hx, by rw [hi, hw]⟩⟩]; rfl
          | false => rw [if_neg (fun h => by have := ((hmem x).1 h.2).2; rw [hi, hw] at this; cases this), h0]; rfl
        · rw [if_neg (fun h => h0 h.1), if_pos h0]
      · rw [if_neg hx, if_neg hx]
    · congr 1
      rw [row_ext hn]
      intro x _
      rw [Bool.eq_iff_iff]
      unfold inN
      conv => rhs; unfold frF
      rw [if_neg (by omega), List.any_eq_true, List.any_eq_true]
      simp only [Bool.and_eq_true, decide_eq_true_eq, List.mem_range]
      constructor
      · rintro ⟨y, h1, h2, h3⟩
        obtain ⟨hy, h4⟩ := (hmem y).1 h1
        refine ⟨y, hy, ?_, h3⟩
        rw [dk_next, if_neg (by simpa using h2)]
        rw [front_iff hv h2] at h4
        rw [h4]; rfl
      · rintro ⟨y, hy, h2, h3⟩
        have h0 : dk n f v k y = 0 := Classical.byContradiction fun h => by
          have := (dk_pos k h).2.1
          rw [dk_keep h] at h2
          omega
        refine ⟨y, (hmem y).2 ⟨hy, ?_⟩, h0, h3⟩
        rw [front_iff hv h0]
        rw [dk_next, if_neg (by simpa using h0)] at h2
        cases hw : wk n f v (k + 1) y with
        | true => rfl
        | false => rw [hw] at h2; simp at h2
  · have hz : row n (frF n f v K) = 0#64 := by
      apply Bv.ext
      intro i _
      rw [row_get hn]
      by_cases hi : i < n
      · simp [hi, hK i hi]
      · simp [hi]
    simp only [G.cycle_far_b1, hz, ne_eq, not_true_eq_false, decide_false, Bool.false_eq_true, if_false, G.cycle_far_j1, ar_whole, Option.bind_some]
  · congr 1
    · rw [ar_zero]
      apply ar_ext
      intro x _
      unfold farF dk
      simp
end Pl
end

section
/- What the reference tells of distances; which cycle is found. -/
namespace Pl
open Go Go.Av

/-! ### The reference's distances -/
end Pl
end

section
/- A cycle begins anywhere. -/

namespace Pl
open Go Go.Av

end Pl
end

section
/- Which cycle is found; the statements on cycles. -/
namespace Pl
open Go Go.Av

theorem down_one {n : Nat} {f : Nat → Nat → Bool} {v x L : Nat} (hL : 1 ≤ L) (hx : x < n) (h : dk n f v n x = L + 1) : ∃ y, y < n ∧ f x y = true ∧ dk n f v n y = L := by
  have hx0 : dk n f v n x ≠ 0 := by omega
  obtain ⟨h1, h2, h3⟩ := dk_pos n hx0
  rw [h] at h1 h2 h3
  obtain ⟨y, hy, g1, g2, g3⟩ := lev_down hL h1 h3
  refine ⟨y, hy, g1, ?_⟩
  have hne : dk n f v n y ≠ 0 := fun e => by
    have := (dk_zero n).1 e L hL (by omega)
    rw [g2] at this; cases this
  obtain ⟨k1, k2, k3⟩ := dk_pos n hne
  rcases Nat.lt_trichotomy (dk n f v n y) L with h | h | h
  · have := g3 _ (by omega) h
    rw [k1] at this; cases this
  · exact h
  · have := k3 L hL h
    rw [g2] at this; cases this

def nq (n : Nat) (f : Nat → Nat → Bool) (v x L : Nat) : Nat → Bool := fun y => f x y && decide (dk n f v n y = L)
/-- The way down, edge by edge. -/
def sq (n : Nat) (f : Nat → Nat → Bool) (v L : Nat) : Nat → Nat × List Int
  | 0 => (v, [(v : Int)])
  | j + 1 => ((leastFrom (nq n f v (sq n f v L j).1 (L - j)) n 0).toNat, (sq n f v L j).2 ++ [leastFrom (nq n f v (sq n f v L j).1 (L - j)) n 0])
theorem sq_step {n : Nat} {f : Nat → Nat → Bool} {v x L : Nat} (hL : 1 ≤ L) (hx : x < n) (h : dk n f v n x = L + 1) : ∃ y : Nat, y < n ∧ leastFrom (nq n f v x L) n 0 = (y : Int) ∧ f x y = true ∧ dk n f v n y = L ∧ ∀ i, i < y → ¬ (f x i = true ∧ dk n f v n i = L) := by
  obtain ⟨z, hz, g1, g2⟩ := down_one hL hx h
  have hq : nq n f v x L z = true := by simp [nq, g1, g2]
  rcases leastFrom_spec (nq n f v x L) n 0 with ⟨_, h2⟩ | ⟨y, _, h2, h3, h4, h5⟩
  · rw [h2 z (by omega) (by omega)] at hq; cases hq
  · simp only [nq, Bool.and_eq_true, decide_eq_true_eq] at h4
    refine ⟨y, by omega, h3, h4.1, h4.2, fun i hi hc => ?_⟩
    have := h5 i (by omega) hi
    simp [nq, hc.1, hc.2] at this
theorem sq_inv {n : Nat} {f : Nat → Nat → Bool} {v L : Nat} (hv : v < n) (hD : dk n f v n v = L + 1) : ∀ j, j ≤ L → (sq n f v L j).1 < n ∧ dk n f v n (sq n f v L j).1 = L - j + 1 ∧ (sq n f v L j).2.length = j + 1 ∧ (sq n f v L j).2[j]? = some ((sq n f v L j).1 : Int) ∧ (sq n f v L j).2[0]? = some (v : Int) := by
  intro j
  induction j with
  | zero => intro _; exact ⟨hv, hD, rfl, rfl, rfl⟩
  | succ j ih =>
    intro hj
    obtain ⟨h1, h2, h3, h4, h5⟩ := ih (by omega)
    obtain ⟨y, hy, e, g1, g2, _⟩ := sq_step (L := L - j) (by omega) h1 h2
    refine ⟨?_, ?_, ?_, ?_, ?_⟩
    · simp only [sq, e, Int.toNat_natCast]; exact hy
    · simp only [sq, e, Int.toNat_natCast]; omega
    · simp only [sq, List.length_append, h3, List.length_singleton]
    · simp only [sq, e, Int.toNat_natCast]
      rw [List.getElem?_append_right (by omega), h3]; simp
    · simp only [sq]
      rw [List.getElem?_append_left (by omega)]; exact h5
theorem sq_next {n : Nat} {f : Nat → Nat → Bool} {v L j y : Nat} (e : leastFrom (nq n f v (sq n f v L j).1 (L - j)) n 0 = (y : Int)) : sq n f v L (j + 1) = (y, (sq n f v L j).2 ++ [(y : Int)]) := by
  simp only [sq, e, Int.toNat_natCast]

theorem prog_step {n : Nat} (hn : n ≤ 64) (f : Nat → Nat → Bool) {v L j : Nat} (hv : v < n) (hD : dk n f v n v = L + 1) (hj : j < L) :
    G.cycle_Find_b2 (gr n f) (ar64 (farF n f v n)) (sq n f v L j).2 ((L - j : Nat) : Int) = some (.inl ((sq n f v L (j + 1)).2, ((L - (j + 1) : Nat) : Int))) := by
  obtain ⟨h1, h2, h3, h4, _⟩ := sq_inv hv hD j (by omega)
  have hLn : L + 1 ≤ n := by rw [← hD]; exact dk_le hv
  obtain ⟨y, hy, e, g1, g2, g3⟩ := sq_step (L := L - j) (by omega) h1 h2
  have hnx := sq_next e
  generalize sq n f v L (j + 1) = s2 at hnx
  subst hnx
  generalize sq n f v L j = s at h1 h2 h3 h4 e g1 g2 g3
  obtain ⟨x, out⟩ := s
  simp only at h1 h2 h3 h4 e g1 g2 g3 ⊢
  have hpos : (0 : Int) < ((L - j : Nat) : Int) := by omega
  have hlast : w64 ((out.length : Int) - 1) = (j : Int) := by rw [w64_id (by omega) (by omega)]; omega
  have hjo : j < out.length := by omega
  have hoj : out[j] = (x : Int) := by rw [List.getElem?_eq_getElem hjo] at h4; exact Option.some.inj h4
  simp only [G.cycle_Find_b2, hpos, decide_true, if_true, len_eq, hlast, idx_at hjo, Option.bind_some, hoj, rows_idx h1, bits_List]
  have hmem : y ∈ Bv.list (row n (f x)) := (list_row hn _).2 ⟨hy, g1⟩
  obtain ⟨i, hi, hiy⟩ := List.getElem_of_mem hmem
  have hll := Bv.list_length_le (row n (f x))
  refine run_exit (fun q => (q : Int)) i _ (fuel_gt (by omega)) (fun q hq => ?_) ?_ rfl
  · have hql : q < (Bv.list (row n (f x))).length := by omega
    have hlt := List.pairwise_iff_getElem.1 (Bv.list_sorted (row n (f x))) q i hql hi hq
    have hm := (list_row hn (f x)).1 (List.getElem_mem hql)
    have hqi : (q : Int) < ((ilist (row n (f x))).length : Int) := by simp [ilist]; exact hql
    simp only [G.cycle_Find_b3, len_eq, hqi, decide_true, if_true, ilist_at hql, Option.bind_some]
    rw [ar_idx _ (by omega)]
    have hd : ¬ farF n f v n (Bv.list (row n (f x)))[q] = ((L - j : Nat) : Int) := fun he => by
      unfold farF at he
      rw [if_pos hm.1] at he
      exact g3 _ (by omega) ⟨hm.2, by omega⟩
    simp only [Option.bind_some, hd, decide_false, Bool.false_eq_true, if_false, Sh.next, w64_succ (show q < 9223372036854775807 by omega)]
  · have hqi : (i : Int) < ((ilist (row n (f x))).length : Int) := by simp [ilist]; exact hi
    simp only [G.cycle_Find_b3, len_eq, hqi, decide_true, if_true, ilist_at hi, Option.bind_some, hiy]
    rw [ar_idx _ (by omega)]
    have hd : farF n f v n y = ((L - j : Nat) : Int) := by unfold farF; rw [if_pos hy]; omega
    simp only [Option.bind_some, hd, decide_true, if_true]
    rw [app_ok (by simp; omega)]
    have e2 : w64 (((L - j : Nat) : Int) - 1) = ((L - (j + 1) : Nat) : Int) := by rw [w64_id (by omega) (by omega)]; omega
    simp only [Option.bind_some, G.cycle_Find_j4, e2]
    rfl
end Pl
end

section
/- Edges one by one are those of the whole graph of choices; what is found is a cycle. -/
namespace Pl
open Go Go.Av

theorem dF_direct {h : G.api_Hist} {s : List G.api_Choice} (hr : right h = true) (hs : ∀ c ∈ s, one h c = true) {x y : Nat} (hx : x < h.Txns.length) (hy : y < h.Txns.length) (hd : dF h s x y = true) : direct h s x y = true := by
  unfold direct dirS two
  simp only [Bool.and_eq_true, Bool.or_eq_true, decide_eq_true_eq, List.any_eq_true]
  refine ⟨⟨⟨hr, inr_nat.2 hx⟩, inr_nat.2 hy⟩, ?_⟩
  unfold dF orF at hd
  simp only [Bool.or_eq_true] at hd
  rcases hd with (h1 | h1) | h1
  · left; left
    unfold soF at h1
    simp only [Bool.and_eq_true, decide_eq_true_eq] at h1
    exact ⟨by omega, h1.2⟩
  · left; right
    unfold wrF at h1
    simpa only [List.any_eq_true, decide_eq_true_eq] using h1
  · right
    unfold wwF at h1
    simp only [List.any_eq_true, Bool.and_eq_true, decide_eq_true_eq] at h1
    obtain ⟨c, hc, ha, hb⟩ := h1
    have ho := hs c hc
    unfold one at ho
    simp only [Bool.and_eq_true, decide_eq_true_eq] at ho
    refine ⟨c, hc, ?_⟩
    unfold isW
    simp only [Bool.and_eq_true, decide_eq_true_eq]
    rw [← ha, ← hb]
    exact ⟨⟨⟨⟨rfl, rfl⟩, ho.1.1.1.1⟩, ho.1.2⟩, ho.2⟩
theorem rwF_anti {h : G.api_Hist} {s : List G.api_Choice} (hr : right h = true) (hs : ∀ c ∈ s, one h c = true) {x y : Nat} (hx : x < h.Txns.length) (hy : y < h.Txns.length) (hd : rwF h s x y = true) : anti h s x y = true := by
  unfold anti antS two
  simp only [Bool.and_eq_true, decide_eq_true_eq, List.any_eq_true]
  refine ⟨⟨⟨hr, inr_nat.2 hx⟩, inr_nat.2 hy⟩, ?_⟩
  unfold rwF at hd
  rw [Bool.or_eq_true] at hd
  rcases hd with h1 | h1
  · unfold iniF iniC at h1
    simp only [Bool.and_eq_true, decide_eq_true_eq, List.any_eq_true] at h1
    obtain ⟨h2, r, hm, h3, h4⟩ := h1
    refine ⟨by omega, r, hm, ?_⟩
    unfold isO
    simp only [Bool.and_eq_true, Bool.or_eq_true, decide_eq_true_eq]
    exact ⟨h4, .inl (by omega)⟩
  · simp only [List.any_eq_true] at h1
    obtain ⟨c, hc, h2⟩ := h1
    unfold rwC at h2
    simp only [Bool.and_eq_true, decide_eq_true_eq] at h2
    obtain ⟨⟨h3, h4⟩, h5⟩ := h2
    rw [fromR_iff hr (inr_nat.2 hx)] at h5
    simp only [List.any_eq_true, decide_eq_true_eq] at h5
    obtain ⟨r, hm, h6⟩ := h5
    have ho := hs c hc
    unfold one at ho
    simp only [Bool.and_eq_true, decide_eq_true_eq] at ho
    refine ⟨by omega, r, hm, ?_⟩
    unfold isO
    subst h6
    simp only [Bool.and_eq_true, Bool.or_eq_true, decide_eq_true_eq, List.any_eq_true]
    refine ⟨by rw [← h3]; exact ho.2, .inr ⟨by rw [← h3]; exact ho.1.1.1.1, c, hc, ?_⟩⟩
    cases c; simp only at h3 ⊢; rw [h3]
theorem full_edge {h : G.api_Hist} {lev : Int} {s : List G.api_Choice} (hr : right h = true) (hs : ∀ c ∈ s, one h c = true) (hl : lev2 lev = true) {x y : Nat} (hx : x < h.Txns.length) (hy : y < h.Txns.length) : edge h lev s x y = fullF h lev s x y := by
  rw [Bool.eq_iff_iff]
  refine ⟨edge_full hx, fun hd => ?_⟩
  unfold lev2 at hl
  simp only [Bool.or_eq_true, decide_eq_true_eq] at hl
  unfold fullF orF at hd
  rw [Bool.or_eq_true] at hd
  unfold edge
  rcases hl with rfl | rfl
  · simp only [if_true, Bool.or_eq_true]
    simp only [show ¬ ((0 : Int) = 1) by omega, if_false] at hd
    exact hd.imp (dF_direct hr hs hx hy) (rwF_anti hr hs hx hy)
  · simp only [show ¬ ((1 : Int) = 0) by omega, if_false, if_true, List.any_eq_true, List.mem_range, Bool.and_eq_true, Bool.or_eq_true, decide_eq_true_eq]
    simp only [if_true] at hd
    rcases hd with hd | hd
    · exact ⟨y, hy, dF_direct hr hs hx hy hd, .inl rfl⟩
    · unfold compF at hd
      simp only [List.any_eq_true, List.mem_range, Bool.and_eq_true] at hd
      obtain ⟨z, hz, h1, h2⟩ := hd
      exact ⟨z, hz, dF_direct hr hs hx hz h1, .inr (rwF_anti hr hs hz hy h2)⟩
theorem edge_has {h : G.api_Hist} {lev : Int} {s : List G.api_Choice} (hr : right h = true) (hs : ∀ c ∈ s, one h c = true) (hl : lev2 lev = true) (x y : Int) : edge h lev s x y = hasB h.Txns.length (fullF h lev s) x y := by
  unfold hasB
  by_cases hin : inr h x = true ∧ inr h y = true
  · have hx := inr_iff.1 hin.1
    have hy := inr_iff.1 hin.2
    have := full_edge hr hs hl (x := x.toNat) (y := y.toNat) (by omega) (by omega)
    rw [show ((x.toNat : Nat) : Int) = x by omega, show ((y.toNat : Nat) : Int) = y by omega] at this
    rw [this, decide_eq_true (by omega), Bool.true_and]
  · have h1 : edge h lev s x y = false := by
      cases he : edge h lev s x y with
      | false => rfl
      | true => exact absurd (edge_in he) hin
    rw [h1]
    have : ¬ (0 ≤ x ∧ x < (h.Txns.length : Int) ∧ 0 ≤ y ∧ y < (h.Txns.length : Int)) := fun hc => hin ⟨inr_iff.2 ⟨hc.1, hc.2.1⟩, inr_iff.2 ⟨hc.2.2.1, hc.2.2.2⟩⟩
    rw [decide_eq_false this]; rfl
theorem edge_lev {h : G.api_Hist} {lev : Int} {s : List G.api_Choice} (hl : lev2 lev = false) (x y : Int) : edge h lev s x y = false := by
  unfold lev2 at hl
  simp only [Bool.or_eq_false_iff, decide_eq_false_iff_not] at hl
  unfold edge
  rw [if_neg hl.1, if_neg hl.2]
theorem find_cyc {n : Nat} {f : Nat → Nat → Bool} {v L : Nat} (hv : v < n) (hD : dk n f v n v = L + 1) : Cyc n f (sq n f v L L).2 := by
  -- the nodes one by one
  have at_ : ∀ j, j ≤ L → ∀ i, i ≤ j → ∃ y : Nat, (sq n f v L j).2[i]? = some (y : Int) ∧ y < n ∧ dk n f v n y = L - i + 1 ∧ (i = j → y = (sq n f v L j).1) ∧ (∀ (z : Nat), (sq n f v L j).2[i + 1]? = some (z : Int) → f y z = true) := by
    intro j
    induction j with
    | zero =>
      intro _ i hi
      have : i = 0 := by omega
      subst this
      exact ⟨v, rfl, hv, hD, fun _ => rfl, fun z hz => by simp [sq] at hz⟩
    | succ j ih =>
      intro hj i hi
      obtain ⟨h1, h2, h3, h4, h5⟩ := sq_inv hv hD j (by omega)
      obtain ⟨y, hy, e, g1, g2, _⟩ := sq_step (L := L - j) (by omega) h1 h2
      have hnx := sq_next e
      rw [hnx]
      simp only
      by_cases hij : i ≤ j
      · obtain ⟨u, q1, q2, q3, q4, q5⟩ := ih (by omega) i hij
        refine ⟨u, ?_, q2, q3, fun h => by omega, fun z hz => ?_⟩
        · rw [List.getElem?_append_left (by omega)]; exact q1
        · by_cases hi1 : i + 1 ≤ j
          · rw [List.getElem?_append_left (by omega)] at hz
            exact q5 z hz
          · have : i = j := by omega
            subst this
            rw [List.getElem?_append_right (by omega), h3] at hz
            simp at hz
            have hz' : y = z := by omega
            subst hz'
            rw [q4 rfl]; exact g1
      · have : i = j + 1 := by omega
        subst this
        refine ⟨y, ?_, hy, by omega, fun _ => rfl, fun z hz => ?_⟩
        · rw [List.getElem?_append_right (by omega), h3]; simp
        · rw [List.getElem?_eq_none (by simp; omega)] at hz; cases hz
  obtain ⟨_, _, hlen, _, h0⟩ := sq_inv hv hD L (Nat.le_refl _)
  have el : ∀ i (hi : i < (sq n f v L L).2.length), ∃ y : Nat, (sq n f v L L).2[i] = (y : Int) ∧ y < n ∧ dk n f v n y = L - i + 1 ∧ (∀ z : Nat, (sq n f v L L).2[i + 1]? = some (z : Int) → f y z = true) := fun i hi => by
    obtain ⟨y, q1, q2, q3, _, q5⟩ := at_ L (Nat.le_refl _) i (by omega)
    rw [List.getElem?_eq_getElem hi] at q1
    exact ⟨y, Option.some.inj q1, q2, q3, q5⟩
  refine ⟨by omega, fun a ha => ?_, ?_, fun i hi => ?_⟩
  · obtain ⟨i, hi, rfl⟩ := List.getElem_of_mem ha
    obtain ⟨y, q1, q2, _⟩ := el i hi
    rw [q1]; omega
  · rw [List.nodup_iff_pairwise_ne, List.pairwise_iff_getElem]
    intro i j hi hj hij he
    obtain ⟨y, q1, _, q3, _⟩ := el i hi
    obtain ⟨z, r1, _, r3, _⟩ := el j hj
    have : y = z := by rw [q1, r1] at he; omega
    subst this
    omega
  · obtain ⟨y, q1, q2, q3, q4⟩ := el i hi
    by_cases hl : i + 1 < (sq n f v L L).2.length
    · obtain ⟨z, r1, r2, _⟩ := el (i + 1) hl
      simp only [Nat.mod_eq_of_lt hl, q1, r1, Int.toNat_natCast]
      exact q4 z (by rw [List.getElem?_eq_getElem hl, r1])
    · have hiL : i = L := by omega
      have hmod : (i + 1) % (sq n f v L L).2.length = 0 := by rw [hlen, hiL]; exact Nat.mod_self _
      have h00 : (sq n f v L L).2[0]'(by omega) = (v : Int) := by
        rw [List.getElem?_eq_getElem (by omega)] at h0
        exact Option.some.inj h0
      simp only [hmod, q1, h00, Int.toNat_natCast]
      have hd1 : dk n f v n y = 1 := by omega
      have := (dk_pos n (by omega : dk n f v n y ≠ 0)).1
      rw [hd1, wk_one hv] at this
      exact this
theorem pFind {n : Nat} (hn : n ≤ 64) (f : Nat → Nat → Bool) : ∃ r : List Int, G.cycle_Find (gr n f) = some r ∧ r.length ≤ 64 ∧ ((r = [] ∧ ∀ v, v < n → dk n f v n v = 0) ∨ Cyc n f r) := by
  unfold G.cycle_Find
  simp only [graph_Turn hn, Option.bind_some, ne_eq, not_true_eq_false, decide_false, Bool.false_eq_true, if_false]
  have pskip : ∀ v, v < n → dk n f v n v = 0 → G.cycle_Find_b1 (gr n f) (gr n (turnF f), 0) (v : Int) = some (.inl ((v + 1 : Nat) : Int)) := fun v hv h0 => by
    have hvn : (v : Int) < (n : Int) := by omega
    simp only [G.cycle_Find_b1, hvn, decide_true, if_true, cycle_far hn f hv, Option.bind_some]
    rw [show Sh.whole 64 (List.replicate 64 0) = some (List.replicate 64 0) by simp [Sh.whole], Option.bind_some, ar_whole, Option.bind_some, ar_idx _ (by omega)]
    have : farF n f v n v = 0 := by unfold farF; rw [if_pos hv, h0]; rfl
    simp only [Option.bind_some, this, decide_true, if_true, G.cycle_Find_j2, Sh.next, w64_succ (show v < 9223372036854775807 by omega)]
  by_cases hex : ∃ v, v < n ∧ dk n f v n v ≠ 0
  · obtain ⟨v, ⟨hv, hne⟩, hmin⟩ := exists_least _ hex
    have before : ∀ i, i < v → dk n f i n i = 0 := fun i hi => Classical.byContradiction fun h => by
      have := hmin i ⟨by omega, h⟩; omega
    obtain ⟨L, hL⟩ : ∃ L, dk n f v n v = L + 1 := ⟨dk n f v n v - 1, by omega⟩
    have hLn : L + 1 ≤ n := by rw [← hL]; exact dk_le hv
    obtain ⟨_, _, i3, _, i5⟩ := sq_inv hv hL L (by omega)
    have hvn : (v : Int) < (n : Int) := by omega
    have hne0 : ¬ ((L + 1 : Nat) : Int) = 0 := by omega
    have hw : w64 (((L + 1 : Nat) : Int) - 1) = ((L - 0 : Nat) : Int) := by rw [w64_id (by omega) (by omega)]; omega
    refine ⟨(sq n f v L L).2, ?_, by omega, .inr (find_cyc hv hL)⟩
    refine run_exit (fun i => (i : Int)) v _ (fuel_gt (by omega)) (fun i hi => pskip i (by omega) (before i hi)) ?_ rfl
    have hd : farF n f v n v = ((L + 1 : Nat) : Int) := by unfold farF; rw [if_pos hv, hL]
    simp only [G.cycle_Find_b1, hvn, decide_true, if_true, cycle_far hn f hv, Option.bind_some]
    rw [show Sh.whole 64 (List.replicate 64 0) = some (List.replicate 64 0) by simp [Sh.whole], Option.bind_some, ar_whole, Option.bind_some, ar_idx _ (by omega)]
    simp only [Option.bind_some, hd, hne0, decide_false, Bool.false_eq_true, if_false]
    simp only [hw]
    refine run_exit (fun j => ((sq n f v L j).2, ((L - j : Nat) : Int))) L _ (fuel_gt (by omega)) (fun j hj => prog_step hn f hv hL hj) ?_ rfl
    simp only [Nat.sub_self, G.cycle_Find_b2, Int.natCast_zero, Int.lt_irrefl, decide_false, Bool.false_eq_true, if_false, G.cycle_Find_j3]
  · have before : ∀ i, i < n → dk n f i n i = 0 := fun i hi => Classical.byContradiction fun h => hex ⟨i, hi, h⟩
    refine ⟨[], ?_, by simp, .inl ⟨rfl, before⟩⟩
    refine run_exit (fun i => (i : Int)) n _ (fuel_gt (by omega)) (fun i hi => pskip i hi (before i hi)) ?_ rfl
    simp only [G.cycle_Find_b1, Int.lt_irrefl, decide_false, Bool.false_eq_true, if_false, G.cycle_Find_j1]
/-- A ring of edges is a cycle of the whole graph. -/
theorem ring_cyc {h : G.api_Hist} {lev : Int} {s : List G.api_Choice} (hr : right h = true) (hs : ∀ c ∈ s, one h c = true) (hl : lev2 lev = true) (row : List Int) : ring h lev s row = cyB h.Txns.length (fullF h lev s) row := by
  rw [Bool.eq_iff_iff, cy_iff]
  unfold ring
  simp only [Bool.and_eq_true, decide_eq_true_eq, List.all_eq_true, List.mem_range, Bool.not_eq_true', List.any_eq_false]
  constructor
  · rintro ⟨h0, hall⟩
    have nodes : ∀ i (hi : i < row.length), 0 ≤ row[i] ∧ row[i] < h.Txns.length := fun i hi => by
      have := (edge_in (hall i hi).2).1
      rw [getD_at hi] at this
      exact inr_iff.1 this
    refine ⟨h0, fun a ha => ?_, ?_, fun i hi => ?_⟩
    · obtain ⟨i, hi, rfl⟩ := List.getElem_of_mem ha
      exact nodes i hi
    · rw [List.nodup_iff_pairwise_ne, List.pairwise_iff_getElem]
      intro i j hi hj hij he
      have := (hall j hj).1 row[i] (List.mem_take_iff_getElem.2 ⟨i, by omega, rfl⟩)
      rw [getD_at hj] at this
      exact this (by simpa using he.symm)
    · have hm : (i + 1) % row.length < row.length := Nat.mod_lt _ (by omega)
      have := (hall i hi).2
      rw [getD_at hi, getD_at hm, edge_has hr hs hl, hasB_iff] at this
      exact this.2
  · rintro ⟨h0, hnodes, hnd, he⟩
    refine ⟨h0, fun i hi => ⟨fun x hx => ?_, ?_⟩⟩
    · obtain ⟨j, hj, rfl⟩ := List.mem_take_iff_getElem.1 hx
      have hji : j < i := by omega
      have hjl : j < row.length := by omega
      rw [List.nodup_iff_pairwise_ne, List.pairwise_iff_getElem] at hnd
      have := hnd j i hjl hi hji
      rw [getD_at hi]
      simpa using fun h1 => this h1.symm
    · have hm : (i + 1) % row.length < row.length := Nat.mod_lt _ (by omega)
      rw [getD_at hi, getD_at hm, edge_has hr hs hl, hasB_iff]
      have a1 := hnodes _ (List.getElem_mem hi)
      have a2 := hnodes _ (List.getElem_mem hm)
      exact ⟨⟨a1.1, a1.2, a2.1, a2.2⟩, he i hi⟩
theorem ring_lev {h : G.api_Hist} {lev : Int} {s : List G.api_Choice} (hl : lev2 lev = false) (row : List Int) : ring h lev s row = false := by
  unfold ring
  rcases Nat.eq_zero_or_pos row.length with h0 | h0
  · simp [h0]
  · rw [Bool.and_eq_false_iff]
    right
    rw [List.all_eq_false]
    refine ⟨0, List.mem_range.2 h0, ?_⟩
    rw [edge_lev hl]; simp
theorem EdgeCycle (a : G.inquestlaw19_At) : G.inquestlaw19_EdgeCycle a = some true := by
  unfold G.inquestlaw19_EdgeCycle G.inquestlaw19_EdgeCycle_j1
  rw [awake19, rFew (by omega)]
  simp only [Option.bind_some, Bool.not_true, Bool.false_eq_true, if_false]
  cases hF : few a.H 40 with
  | false => rfl
  | true =>
    have hf := few_fits (by omega) hF
    simp only [Bool.not_true, Bool.false_eq_true, if_false]
    by_cases hlen : (60 : Int) < Sh.len a.L
    · rw [decide_eq_true hlen]; rfl
    · rw [decide_eq_false hlen]
      have hl : a.L.length ≤ 60 := by simp [Sh.len] at hlen; omega
      by_cases hlr : (50 : Int) < Sh.len a.Row
      · rw [decide_eq_true hlr]; rfl
      · rw [decide_eq_false hlr]
        have hlr2 : a.Row.length ≤ 50 := by simp [Sh.len] at hlr; omega
        simp only [Bool.false_eq_true, if_false, pChoice hf (show a.L.length ≤ 20000 by omega), Option.bind_some]
        rw [show (right a.H && a.L.all (one a.H)) = cr a.H a.L from rfl]
        cases hc : cr a.H a.L with
        | false => rfl
        | true =>
          obtain ⟨hr, hone⟩ := cr_iff.1 hc
          have hn := right_le hr
          have hn64 : a.H.Txns.length ≤ 64 := by omega
          simp only [Bool.not_true, Bool.false_eq_true, if_false, pFull hf _ (show a.L.length ≤ 20000 by omega), Option.bind_some]
          unfold fullG
          rw [hc]
          cases hv : lev2 a.Level with
          | false =>
            rw [pCycle hf (show a.L.length < 9223372036854775807 by omega) _ (show a.Row.length < 9223372036854775808 by omega), ring_lev hv]; rfl
          | true =>
            obtain ⟨r, h1, h2, h3⟩ := pFind hn64 (fullF a.H a.Level a.L)
            simp only [Bool.and_self, if_true, ne_eq, not_true_eq_false, decide_false, Bool.false_eq_true, if_false, h1, Option.bind_some]
            rw [pCycle hf (show a.L.length < 9223372036854775807 by omega) _ (show a.Row.length < 9223372036854775808 by omega), pCycle hf (show a.L.length < 9223372036854775807 by omega) _ (show r.length < 9223372036854775808 by omega), cycle_Is hn64 _ _ (show a.Row.length < 9223372036854775808 by omega)]
            simp only [Option.bind_some, ring_cyc hr hone hv]
            rw [if_pos (by simp)]
            congr 1
            rcases h3 with ⟨rfl, _⟩ | h3
            · have : cyB a.H.Txns.length (fullF a.H a.Level a.L) [] = false := cy_false fun hc => absurd hc.some (by simp)
              rw [this]; rfl
            · rw [cy_iff.2 h3]
              have := h3.some
              simp [Sh.len, this]
end Pl
end
