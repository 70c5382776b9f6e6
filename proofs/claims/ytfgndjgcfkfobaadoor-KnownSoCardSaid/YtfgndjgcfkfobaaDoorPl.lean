/- What the plain functions answer. -/
import Derived.Test.YtfgndjgcfkfobaaDoorBase1
import Derived.Test.YtfgndjgcfkfobaaDoorSh
import Derived.KernelRfl
set_option linter.unusedSimpArgs false
set_option linter.unusedVariables false
section
/- What is used to reason about the plain functions. -/
namespace Pl
open Go Go.Av

theorem w64_id {n : Int} (h1 : -9223372036854775808 ≤ n) (h2 : n < 9223372036854775808) : w64 n = n := i64_wrap h1 h2
theorem idx_at {α : Type} {l : List α} {k : Nat} (h : k < l.length) : Sh.idx l (k : Int) = some l[k] := by
  simp [Sh.idx, h]
theorem idx_of {α : Type} {l : List α} {i : Int} (h0 : 0 ≤ i) (h : i < l.length) : Sh.idx l i = some (l[i.toNat]'(by omega)) := by
  unfold Sh.idx
  rw [if_pos h0]
  exact List.getElem?_eq_getElem (by omega)
theorem app_ok {α : Type} {b : Nat} {l m : List α} (h : (l.length + m.length) * b ≤ 140737488355328) : Sh.app b l m = some (l ++ m) := by
  simp [Sh.app, h]
theorem mk_ok {α : Type} {b m : Nat} {z : α} (h : b * m ≤ 140737488355328) (h2 : m ≤ 4611686018427387904) : Sh.mk b (m : Int) (m : Int) z = some (List.replicate m z) := by
  have : ((b : Int) * (m : Int)) ≤ 140737488355328 := by
    rw [← Int.natCast_mul]; omega
  unfold Sh.mk
  rw [if_pos ⟨by omega, by omega, this, by omega⟩]
  simp
theorem sub_ok {α : Type} {l : List α} {m k : Nat} (h1 : m ≤ k) (h2 : k ≤ l.length) : Sh.sub l (m : Int) (k : Int) = some ((l.drop m).take (k - m)) := by
  unfold Sh.sub
  rw [if_pos ⟨by omega, by omega, by omega⟩]
  simp
theorem set_at {α : Type} (l : List α) (k : Nat) (x : α) : Sh.set l (k : Int) x = l.set k x := by simp [Sh.set]
theorem cpy_ok {α : Type} {l m : List α} (h : m.length = l.length) : Sh.cpy l m = some m := by simp [Sh.cpy, h]

/-- A loop that counts up from 0, where each round turns a state: what it answers. -/
theorem count {σ α : Type} {b : σ × Int → Option ((σ × Int) ⊕ α)} (S : Nat → σ) (m : Nat) (r : α) (hm : m < Sh.FUEL) (h : ∀ k, k < m → b (S k, (k : Int)) = some (.inl (S (k + 1), ((k + 1 : Nat) : Int)))) (hr : b (S m, (m : Int)) = some (.inr r)) {s : σ} (hs : s = S 0) :
    Sh.loop b (s, 0) = some r := by
  subst hs
  exact Sh.loop_run (fun k => (S k, (k : Int))) m r hm h hr
theorem next_some {σ α : Type} (s : σ) : Sh.next (α := α) s = some (.inl s) := rfl
theorem exit_some {σ α : Type} (x : α) : Sh.exit (σ := σ) (some x) = some (.inr x) := rfl
theorem fuel_gt {n : Nat} (h : n < 9223372036854775808) : n < Sh.FUEL := h
theorem w64_succ {k : Nat} (h : k < 9223372036854775807) : w64 ((k : Int) + 1) = ((k + 1 : Nat) : Int) := by
  rw [w64_id (by omega) (by omega)]; omega
theorem len_eq {α : Type} (l : List α) : Sh.len l = (l.length : Int) := rfl
theorem dec_lt {k n : Nat} : decide ((k : Int) < (n : Int)) = decide (k < n) := by
  congr 1; exact propext (by omega)
end Pl
namespace Pl
open Go Go.Av
/-- A loop that goes on as long as something holds, and answers the same wherever it does not. -/
theorem scan {α : Type} {b : Int → Option (Int ⊕ α)} (s m : Nat) (p : Nat → Bool) (A B : α) (hsm : s ≤ m) (hm : m < Sh.FUEL) (h : ∀ k, s ≤ k → k < m → b (k : Int) = if p k then some (.inl ((k + 1 : Nat) : Int)) else some (.inr B)) (hr : b (m : Int) = some (.inr A)) :
    Sh.loop b (s : Int) = some (if ∀ k, k < m → s ≤ k → p k = true then A else B) := by
  by_cases hall : ∀ k, k < m → s ≤ k → p k = true
  · rw [if_pos hall]
    refine Sh.loop_run (fun k => ((s + k : Nat) : Int)) (m - s) A (by omega) (fun k hk => ?_) ?_
    · rw [h (s + k) (by omega) (by omega), if_pos (hall _ (by omega) (by omega))]; rfl
    · rw [show s + (m - s) = m by omega]; exact hr
  · rw [if_neg hall]
    have hex : ∃ k, s ≤ k ∧ k < m ∧ p k = false := by
      apply Classical.byContradiction
      intro hn
      exact hall (fun k h2 h1 => by
        cases hp : p k with
        | true => rfl
        | false => exact absurd ⟨k, h1, h2, hp⟩ hn)
    obtain ⟨k, hk, hmin⟩ := exists_least _ hex
    refine Sh.loop_run (fun q => ((s + q : Nat) : Int)) (k - s) B (by omega) (fun q hq => ?_) ?_
    · have : p (s + q) = true := by
        cases hp : p (s + q) with
        | true => rfl
        | false => have := hmin (s + q) ⟨by omega, by omega, hp⟩; omega
      rw [h (s + q) (by omega) (by omega), if_pos this]; rfl
    · rw [show s + (k - s) = k by omega, h k hk.1 hk.2.1, if_neg (by rw [hk.2.2]; simp)]
theorem scan0 {α : Type} {b : Int → Option (Int ⊕ α)} (m : Nat) (p : Nat → Bool) (A B : α) (hm : m < Sh.FUEL) (h : ∀ k, k < m → b (k : Int) = if p k then some (.inl ((k + 1 : Nat) : Int)) else some (.inr B)) (hr : b (m : Int) = some (.inr A)) :
    Sh.loop b 0 = some (if ∀ k, k < m → p k = true then A else B) := by
  have := scan 0 m p A B (by omega) hm (fun k _ hk => h k hk) hr
  simpa using this
theorem scan_true {b : Int → Option (Int ⊕ Bool)} (m : Nat) (p : Nat → Bool) (hm : m < Sh.FUEL) (h : ∀ k, k < m → b (k : Int) = if p k then some (.inl ((k + 1 : Nat) : Int)) else some (.inr false)) (hr : b (m : Int) = some (.inr true)) :
    Sh.loop b 0 = some (decide (∀ k, k < m → p k = true)) := by
  rw [scan0 m p true false hm h hr]
  by_cases hq : ∀ k, k < m → p k = true
  · rw [if_pos hq, decide_eq_true hq]
  · rw [if_neg hq, decide_eq_false hq]
end Pl
namespace Pl
open Go Go.Av
/-- Rounds one by one, and then what comes behind the loop. -/
theorem run_exit {σ α : Type} {b : σ → Option (σ ⊕ α)} (S : Nat → σ) (m : Nat) (X : Option α) (hm : m < Sh.FUEL) (h : ∀ k, k < m → b (S k) = some (.inl (S (k + 1)))) (hr : b (S m) = Sh.exit X) {s : σ} (hs : s = S 0) : Sh.loop b s = X := by
  subst hs
  unfold Sh.loop
  rw [show Sh.FUEL = m + ((Sh.FUEL - m - 1) + 1) by omega, Sh.iter_go S m h]
  simp only [Sh.iter, hr]
  cases X <;> rfl
theorem count_exit {σ α : Type} {b : σ × Int → Option ((σ × Int) ⊕ α)} (S : Nat → σ) (m : Nat) (X : Option α) (hm : m < Sh.FUEL) (h : ∀ k, k < m → b (S k, (k : Int)) = some (.inl (S (k + 1), ((k + 1 : Nat) : Int)))) (hr : b (S m, (m : Int)) = Sh.exit X) {s : σ} (hs : s = S 0) :
    Sh.loop b (s, 0) = X := run_exit (fun k => (S k, (k : Int))) m X hm h hr (by rw [hs]; rfl)
end Pl
end

section
/- Loops over lists. -/
namespace Pl
open Go Go.Av

/-- What a loop over a list does that may be left early: by each element a state turns, or an answer is there. -/
def foldE {σ α β : Type} (step : Nat → σ → α → σ ⊕ β) (X : σ → Option β) : Nat → List α → σ → Option β
  | _, [], s => X s
  | k, x :: l, s => match step k s x with
    | .inl s' => foldE step X (k + 1) l s'
    | .inr r => some r

theorem loop_step {σ β : Type} {b : σ → Option (σ ⊕ β)} {n : Nat} {s s' : σ} (h : b s = some (.inl s')) : Sh.iter b (n + 1) s = Sh.iter b n s' := by simp [Sh.iter, h]
theorem loop_stop {σ β : Type} {b : σ → Option (σ ⊕ β)} {n : Nat} {s : σ} {r : β} (h : b s = some (.inr r)) : Sh.iter b (n + 1) s = some r := by simp [Sh.iter, h]
theorem loop_exit {σ β : Type} {b : σ → Option (σ ⊕ β)} {n : Nat} {s : σ} {X : Option β} (h : b s = Sh.exit X) : Sh.iter b (n + 1) s = X := by cases X <;> simp [Sh.iter, h, Sh.exit]

theorem iter_fold {σ τ α β : Type} {b : τ → Option (τ ⊕ β)} (S : σ → Nat → τ) (step : Nat → σ → α → σ ⊕ β) (X : σ → Option β) (l0 : List α)
    (h : ∀ (k : Nat) (s : σ) (hk : k < l0.length), b (S s k) = match step k s l0[k] with | .inl s' => some (.inl (S s' (k + 1))) | .inr r => some (.inr r))
    (he : ∀ s, b (S s l0.length) = Sh.exit (X s)) : ∀ (l : List α) (k n : Nat) (s : σ), l0.drop k = l → k ≤ l0.length → l.length < n → Sh.iter b n (S s k) = foldE step X k l s := by
  intro l
  induction l with
  | nil =>
    intro k n s hl hk hn
    have hk2 : k = l0.length := by
      have : (l0.drop k).length = 0 := by rw [hl]; rfl
      simp at this; omega
    subst hk2
    obtain ⟨n, rfl⟩ : ∃ m, n = m + 1 := ⟨n - 1, by simp at hn; omega⟩
    exact loop_exit (he s)
  | cons x l ih =>
    intro k n s hl hk hn
    have hlen : (l0.drop k).length = l.length + 1 := by rw [hl]; rfl
    have hk2 : k < l0.length := by simp at hlen; omega
    obtain ⟨n, rfl⟩ : ∃ m, n = m + 1 := ⟨n - 1, by simp at hn; omega⟩
    have hx : l0[k] = x ∧ l0.drop (k + 1) = l := by
      rw [List.drop_eq_getElem_cons hk2] at hl
      simp only [List.cons.injEq] at hl
      exact hl
    have hb := h k s hk2
    rw [hx.1] at hb
    simp only [foldE]
    cases hs : step k s x with
    | inl s' =>
      rw [hs] at hb
      rw [loop_step hb]
      exact ih (k + 1) n s' hx.2 hk2 (by simp at hn; omega)
    | inr r =>
      rw [hs] at hb
      exact loop_stop hb

theorem loop_fold {σ τ α β : Type} {b : τ → Option (τ ⊕ β)} (S : σ → Nat → τ) (step : Nat → σ → α → σ ⊕ β) (X : σ → Option β) (l : List α) (hm : l.length < Sh.FUEL)
    (h : ∀ (k : Nat) (s : σ) (hk : k < l.length), b (S s k) = match step k s l[k] with | .inl s' => some (.inl (S s' (k + 1))) | .inr r => some (.inr r))
    (he : ∀ s, b (S s l.length) = Sh.exit (X s)) (s : σ) {t : τ} (ht : t = S s 0) : Sh.loop b t = foldE step X 0 l s := by
  subst ht
  exact iter_fold S step X l h he l 0 Sh.FUEL s rfl (Nat.zero_le _) hm

/-- A loop that looks for the first element of a kind. -/
theorem find_loop {α β : Type} {b : Int → Option (Int ⊕ β)} (l : List α) (p : α → Bool) (A : Nat → β) (X : Option β) (hm : l.length < Sh.FUEL)
    (h : ∀ (k : Nat) (hk : k < l.length), b (k : Int) = if p l[k] then some (.inr (A k)) else some (.inl ((k + 1 : Nat) : Int)))
    (he : b (l.length : Int) = Sh.exit X) : Sh.loop b 0 = (l.findIdx? p).elim X (fun k => some (A k)) := by
  rw [loop_fold (σ := Unit) (α := α) (fun _ k => (k : Int)) (fun k _ x => if p x then .inr (A k) else .inl ()) (fun _ => X) l hm (fun k s hk => ?_) (fun _ => he) () (t := (0 : Int)) rfl]
  · have key : ∀ (l : List α) (k : Nat), foldE (fun k (_ : Unit) x => if p x then Sum.inr (A k) else Sum.inl ()) (fun _ => X) k l () = (l.findIdx? p).elim X (fun i => some (A (k + i))) := by
      intro l
      induction l with
      | nil => intro k; simp [foldE]
      | cons x l ih =>
        intro k
        simp only [foldE, List.findIdx?_cons]
        cases hp : p x with
        | true => simp
        | false =>
          simp only [Bool.false_eq_true, if_false]
          rw [ih (k + 1)]
          cases l.findIdx? p with
          | none => rfl
          | some i => simp only [Option.map_some, Option.elim_some]; congr 2; omega
    rw [key l 0]
    simp
  · rw [h k hk]
    cases p l[k] <;> rfl

/-- A loop that asks whether there is an element of a kind. -/
theorem any_loop {α β : Type} {b : Int → Option (Int ⊕ β)} (l : List α) (p : α → Bool) (A : β) (X : Option β) (hm : l.length < Sh.FUEL)
    (h : ∀ (k : Nat) (hk : k < l.length), b (k : Int) = if p l[k] then some (.inr A) else some (.inl ((k + 1 : Nat) : Int)))
    (he : b (l.length : Int) = Sh.exit X) : Sh.loop b 0 = if l.any p then some A else X := by
  rw [find_loop l p (fun _ => A) X hm h he]
  cases hf : l.findIdx? p with
  | none =>
    have : l.any p = false := by
      rw [List.findIdx?_eq_none_iff] at hf
      rw [List.any_eq_false]
      intro x hx
      simpa using hf x hx
    rw [this]; rfl
  | some i =>
    have : l.any p = true := by
      rw [List.any_eq_true]
      rw [List.findIdx?_eq_some_iff_getElem] at hf
      obtain ⟨hi, hp, _⟩ := hf
      exact ⟨l[i], List.getElem_mem hi, hp⟩
    rw [this]; rfl

/-- Where the first one stands; -1: nowhere. -/
def pos {α : Type} (l : List α) (p : α → Bool) : Int := (l.findIdx? p).elim (-1) (fun k => (k : Int))
theorem pos_some {α : Type} (l : List α) (p : α → Bool) : (l.findIdx? p).elim (some (-1 : Int)) (fun k => some (k : Int)) = some (pos l p) := by unfold pos; cases l.findIdx? p <;> rfl
theorem contains_of_find {α : Type} (l : List α) (p : α → Bool) : decide ((0 : Int) ≤ pos l p) = l.any p := by
  unfold pos
  cases hf : l.findIdx? p with
  | none =>
    have : l.any p = false := by
      rw [List.findIdx?_eq_none_iff] at hf
      rw [List.any_eq_false]
      intro x hx
      simpa using hf x hx
    rw [this]; rfl
  | some i =>
    have : l.any p = true := by
      rw [List.any_eq_true]
      rw [List.findIdx?_eq_some_iff_getElem] at hf
      obtain ⟨hi, hp, _⟩ := hf
      exact ⟨l[i], List.getElem_mem hi, hp⟩
    rw [this]; simp
end Pl
end

section
/- Whether a history may be. -/
namespace Pl
open Go Go.Av

theorem pIdx {l : List Int} (hl : l.length < 9223372036854775808) (v : Int) : G.slices_Index_int_int l v = some (pos l (fun x => decide (v = x))) := by
  unfold G.slices_Index_int_int
  rw [find_loop l (fun x => decide (v = x)) (fun k => (k : Int)) (some (-1)) (fuel_gt hl) (fun k hk => ?_) ?_, pos_some]
  · simp [G.slices_Index_int_int_b1, G.slices_Index_int_int_j1]
  · simp only [G.slices_Index_int_int_b1, dec_lt, hk, decide_true, if_true, idx_at hk, Option.bind_some, w64_succ (show k < 9223372036854775807 by omega)]
    rfl
theorem pHas {l : List Int} (hl : l.length < 9223372036854775808) (v : Int) : G.slices_Contains_int_int l v = some (l.any (fun x => decide (v = x))) := by
  unfold G.slices_Contains_int_int
  rw [pIdx hl, Option.bind_some, contains_of_find]

/-- The numbers rise, from one on, and lie below 16. -/
def rising : Int → List Int → Bool
  | _, [] => true
  | last, x :: l => decide (last < x) && decide (x < 16) && rising x l
def hasW (t : G.api_Txn) (k : Int) : Bool := t.Writes.any (fun x => decide (k = x))
def there (h : G.api_Hist) (n : Int) (x : G.api_Take) : Bool :=
  decide (x.From = -1) || (decide (0 ≤ x.From) && decide (x.From < (h.Txns.length : Int)) && decide (x.From ≠ n) && match h.Txns[x.From.toNat]? with | some t => hasW t x.Key | none => false)
def takes (h : G.api_Hist) (n : Int) : Int → List G.api_Take → Bool
  | _, [] => true
  | last, x :: l => decide (last < x.Key) && decide (x.Key < 16) && there h n x && takes h n x.Key l
def okT (h : G.api_Hist) (n : Int) (t : G.api_Txn) : Bool := rising (-1) t.Writes && takes h n (-1) t.Reads && decide (0 ≤ t.Session) && decide (t.Session < 8)
def okAll (h : G.api_Hist) : Nat → List G.api_Txn → Bool
  | _, [] => true
  | n, t :: l => okT h n t && okAll h (n + 1) l
def right (h : G.api_Hist) : Bool := decide (h.Txns.length ≤ 32) && okAll h 0 h.Txns

/-- Nothing is too long for a number. -/
structure Fits (h : G.api_Hist) : Prop where
  txns : h.Txns.length < 9223372036854775807
  writes : ∀ t ∈ h.Txns, t.Writes.length < 9223372036854775807
  reads : ∀ t ∈ h.Txns, t.Reads.length < 9223372036854775807

theorem y1 (c y : Bool) : G.hist_Right__r c y = some (if y then (c, true) else (false, false)) := by cases y <;> rfl

theorem pThere {h : G.api_Hist} (hf : Fits h) (n : Int) (x : G.api_Take) {α : Type} (K : Bool → Option α) :
    (if decide (x.From = (-1)) then K true else if decide ((0 : Int) ≤ x.From) then if decide (x.From < (Sh.len h.Txns)) then if decide (x.From ≠ n) then (Sh.idx h.Txns x.From).bind fun x840 => (G.slices_Contains_int_int x840.Writes x.Key).bind fun r842 => K r842 else K false else K false else K false) = K (there h n x) := by
  unfold there
  by_cases h1 : x.From = -1
  · simp [h1]
  · by_cases h2 : 0 ≤ x.From
    · by_cases h3 : x.From < (h.Txns.length : Int)
      · by_cases h4 : x.From = n
        · subst h4; simp [h1, h2, h3]
        · have h5 : h.Txns[x.From.toNat]? = some (h.Txns[x.From.toNat]'(by omega)) := List.getElem?_eq_getElem (by omega)
          rw [idx_of h2 h3, h5]
          have := hf.writes _ (List.getElem_mem (show x.From.toNat < h.Txns.length by omega))
          have h6 := pHas (l := (h.Txns[x.From.toNat]'(by omega)).Writes) (by omega) x.Key
          simp [h1, h2, h3, h4, h6, hasW]
      · simp [h1, h2, h3]
    · simp [h1, h2]

theorem pReads {h : G.api_Hist} (hf : Fits h) (n : Int) (t : G.api_Txn) (ht : t ∈ h.Txns) (c : Bool) : G.hist_faults_1__hist_Right__r_j2 h n t c = if takes h n (-1) t.Reads then G.hist_faults_1__hist_Right__r_j3 n t c else some (.inr (false, false)) := by
  unfold G.hist_faults_1__hist_Right__r_j2
  have hl := hf.reads t ht
  rw [loop_fold (σ := Bool × Int) (fun s k => (s.1, s.2, (k : Int))) (fun _ s x => if decide (s.2 < x.Key) && decide (x.Key < 16) && there h n x then .inl (s.1, x.Key) else .inr (.inr (false, false))) (fun s => G.hist_faults_1__hist_Right__r_j3 n t s.1) t.Reads (fuel_gt (by omega)) (fun k s hk => ?_) (fun s => ?_) (c, -1) (t := (c, (-1 : Int), (0 : Int))) rfl]
  · have key : ∀ (l : List G.api_Take) (k : Nat) (last : Int), foldE (fun _ (s : Bool × Int) (x : G.api_Take) => if decide (s.2 < x.Key) && decide (x.Key < 16) && there h n x then Sum.inl (s.1, x.Key) else Sum.inr (.inr (false, false))) (fun s => G.hist_faults_1__hist_Right__r_j3 n t s.1) k l (c, last) = if takes h n last l then G.hist_faults_1__hist_Right__r_j3 n t c else some (.inr (false, false)) := by
      intro l
      induction l with
      | nil => intro k last; simp [foldE, takes]
      | cons x l ih =>
        intro k last
        simp only [foldE]
        rw [show takes h n last (x :: l) = (decide (last < x.Key) && decide (x.Key < 16) && there h n x && takes h n x.Key l) from rfl]
        by_cases hq : (decide (last < x.Key) && decide (x.Key < 16) && there h n x) = true
        · rw [if_pos hq, hq, Bool.true_and]; exact ih (k + 1) x.Key
        · rw [if_neg hq, Bool.eq_false_iff.2 hq]; simp
    exact key t.Reads 0 (-1)
  · obtain ⟨c, last⟩ := s
    simp only [G.hist_faults_1__hist_Right__r_b2, dec_lt, hk, decide_true, if_true, idx_at hk, Option.bind_some]
    rw [pThere hf n t.Reads[k] (fun b => G.hist_faults_1__hist_Right__r_j4 c last k t.Reads[k] b)]
    simp only [G.hist_faults_1__hist_Right__r_j4, y1, G.hist_faults_1__hist_Right__r_j5, w64_succ (show k < 9223372036854775807 by omega), Option.bind_some]
    by_cases h1 : last < t.Reads[k].Key
    · by_cases h2 : t.Reads[k].Key < 16
      · cases h3 : there h n t.Reads[k] <;> simp [h1, h2, Sh.exit, Sh.next]
      · simp [h1, h2, Sh.exit]
    · simp [h1, Sh.exit]
  · simp [G.hist_faults_1__hist_Right__r_b2]

theorem pWrites {h : G.api_Hist} (hf : Fits h) (n : Nat) (hn : n < 9223372036854775807) (t : G.api_Txn) (ht : t ∈ h.Txns) (c : Bool) :
    Sh.loop (fun (p : Bool × Int × Int) => G.hist_faults_1__hist_Right__r_b3 h n t p.1 p.2.1 p.2.2) (c, (-1), 0) = if okT h n t then some (.inl (c, ((n + 1 : Nat) : Int))) else some (.inr (false, false)) := by
  have hl := hf.writes t ht
  rw [loop_fold (σ := Bool × Int) (fun s k => (s.1, s.2, (k : Int))) (fun _ s x => if decide (s.2 < x) && decide (x < 16) then .inl (s.1, x) else .inr (.inr (false, false))) (fun s => G.hist_faults_1__hist_Right__r_j2 h n t s.1) t.Writes (fuel_gt (by omega)) (fun k s hk => ?_) (fun s => ?_) (c, -1) (t := (c, (-1 : Int), (0 : Int))) rfl]
  · have key : ∀ (l : List Int) (k : Nat) (last : Int), foldE (fun _ (s : Bool × Int) (x : Int) => if decide (s.2 < x) && decide (x < 16) then Sum.inl (s.1, x) else Sum.inr (.inr (false, false))) (fun s => G.hist_faults_1__hist_Right__r_j2 h n t s.1) k l (c, last) = if rising last l then G.hist_faults_1__hist_Right__r_j2 h n t c else some (.inr (false, false)) := by
      intro l
      induction l with
      | nil => intro k last; simp [foldE, rising]
      | cons x l ih =>
        intro k last
        simp only [foldE]
        rw [show rising last (x :: l) = (decide (last < x) && decide (x < 16) && rising x l) from rfl]
        by_cases hq : (decide (last < x) && decide (x < 16)) = true
        · rw [if_pos hq, hq, Bool.true_and]; exact ih (k + 1) x
        · rw [if_neg hq, Bool.eq_false_iff.2 hq]; simp
    rw [key t.Writes 0 (-1), pReads hf n t ht]
    unfold okT
    cases h1 : rising (-1) t.Writes
    · simp
    · cases h2 : takes h n (-1) t.Reads
      · simp
      · simp only [G.hist_faults_1__hist_Right__r_j3, y1, G.hist_faults_1__hist_Right__r_j1, w64_succ hn, Option.bind_some]
        by_cases h3 : 0 ≤ t.Session
        · by_cases h4 : t.Session < 8 <;> simp [h3, h4, Sh.exit, Sh.next]
        · simp [h3, Sh.exit]
  · obtain ⟨c, last⟩ := s
    simp only [G.hist_faults_1__hist_Right__r_b3, dec_lt, hk, decide_true, if_true, idx_at hk, Option.bind_some, y1, G.hist_faults_1__hist_Right__r_j6, w64_succ (show k < 9223372036854775807 by omega)]
    by_cases h1 : last < t.Writes[k]
    · by_cases h2 : t.Writes[k] < 16 <;> simp [h1, h2, Sh.exit, Sh.next]
    · simp [h1, Sh.exit]
  · simp [G.hist_faults_1__hist_Right__r_b3]

theorem pRight {h : G.api_Hist} (hf : Fits h) : G.hist_Right h = some (right h) := by
  have hl := hf.txns
  have hloop : ∀ c, Sh.loop (fun (p : Bool × Int) => G.hist_faults_1__hist_Right__r_b1 h p.1 p.2) (c, 0) = if okAll h 0 h.Txns then some (c, true) else some (false, false) := by
    intro c
    rw [loop_fold (σ := Bool) (fun s k => (s, (k : Int))) (fun k s x => if okT h k x then .inl s else .inr (false, false)) (fun s => some (s, true)) h.Txns (fuel_gt (by omega)) (fun k s hk => ?_) (fun s => ?_) c (t := (c, (0 : Int))) rfl]
    · have key : ∀ (l : List G.api_Txn) (k : Nat), foldE (fun k (s : Bool) (x : G.api_Txn) => if okT h (k : Nat) x then Sum.inl s else Sum.inr (false, false)) (fun s => some (s, true)) k l c = if okAll h k l then some (c, true) else some (false, false) := by
        intro l
        induction l with
        | nil => intro k; simp [foldE, okAll]
        | cons x l ih =>
          intro k
          simp only [foldE]
          rw [show okAll h k (x :: l) = (okT h (k : Nat) x && okAll h (k + 1) l) from rfl]
          by_cases hq : okT h (k : Nat) x = true
          · rw [if_pos hq, hq, Bool.true_and]; exact ih (k + 1)
          · rw [if_neg hq, Bool.eq_false_iff.2 hq]; simp
      exact key h.Txns 0
    · simp only [G.hist_faults_1__hist_Right__r_b1, dec_lt, hk, decide_true, if_true, idx_at hk, Option.bind_some]
      rw [pWrites hf k (by omega) _ (List.getElem_mem hk)]
      cases okT h k h.Txns[k] <;> rfl
    · simp [G.hist_faults_1__hist_Right__r_b1]
  unfold G.hist_Right G.hist_faults G.hist_faults_1__hist_Right__r right
  simp only [Option.bind_some, y1, len_eq]
  by_cases h1 : h.Txns.length ≤ 32
  · have h2 : ((h.Txns.length : Int) ≤ 32) := by omega
    simp only [h1, h2, decide_true, if_true, hloop, Bool.true_and]
    cases okAll h 0 h.Txns <;> simp
  · have h2 : ¬ ((h.Txns.length : Int) ≤ 32) := by omega
    simp [h1, h2]

/-! ### The reference -/
end Pl
end

section
/- Edges, one by one: what the program and the reference answer. -/


namespace Pl
open Go Go.Av

def tx (h : G.api_Hist) (x : Int) : G.api_Txn := (h.Txns[x.toNat]?).getD default
def inr (h : G.api_Hist) (x : Int) : Bool := decide (0 ≤ x) && decide (x < (h.Txns.length : Int))
theorem inr_iff {h : G.api_Hist} {x : Int} : inr h x = true ↔ 0 ≤ x ∧ x < (h.Txns.length : Int) := by simp [inr]
theorem idx_tx {h : G.api_Hist} {x : Int} (hx : inr h x = true) : Sh.idx h.Txns x = some (tx h x) := by
  rw [inr_iff] at hx
  rw [idx_of hx.1 hx.2]
  simp [tx, List.getElem?_eq_getElem (show x.toNat < h.Txns.length by omega)]
/-! ### What edges are -/
def isW (h : G.api_Hist) (x y : Int) (c : G.api_Choice) : Bool := decide (c.A = x) && decide (c.B = y) && decide (x ≠ y) && hasW (tx h x) c.Key && hasW (tx h y) c.Key
def dirS (h : G.api_Hist) (l : List G.api_Choice) (x y : Int) : Bool :=
  (decide (x < y) && decide ((tx h x).Session = (tx h y).Session)) || (tx h y).Reads.any (fun r => decide (r.From = x)) || l.any (isW h x y)
def isO (h : G.api_Hist) (l : List G.api_Choice) (y : Int) (r : G.api_Take) : Bool :=
  hasW (tx h y) r.Key && (decide (r.From < 0) || (decide (r.From ≠ y) && l.any (fun c => decide (G.api_Choice.mk r.Key r.From y = c))))
def antS (h : G.api_Hist) (l : List G.api_Choice) (x y : Int) : Bool := decide (x ≠ y) && (tx h x).Reads.any (isO h l y)
def two (h : G.api_Hist) (x y : Int) : Bool := right h && inr h x && inr h y
def direct (h : G.api_Hist) (l : List G.api_Choice) (x y : Int) : Bool := two h x y && dirS h l x y
def anti (h : G.api_Hist) (l : List G.api_Choice) (x y : Int) : Bool := two h x y && antS h l x y
def edge (h : G.api_Hist) (lev : Int) (l : List G.api_Choice) (x y : Int) : Bool :=
  if lev = 0 then direct h l x y || anti h l x y
  else if lev = 1 then (List.range h.Txns.length).any (fun m => direct h l x m && (decide ((m : Int) = y) || anti h l m y))
  else false
/-! ### The program -/
end Pl
end

section
/- Rings of edges, and what the reference answers of edges. -/
namespace Pl
open Go Go.Av

/-! ### The reference -/
end Pl
end

section
/- The reference's word on histories: whether one may be, and whether it is small. -/
namespace Pl
open Go Go.Av

/-- The same, asked at each place. -/
def step {α : Type} (key : α → Int) (ok : α → Bool) (l : List α) (k : Nat) : Bool :=
  match l[k]? with
  | none => true
  | some x => decide (0 ≤ key x) && decide (key x < 16) && ok x && (decide (k = 0) || match l[k - 1]? with | none => true | some y => decide (key y < key x))
/-! ### Small histories -/
theorem dec_len_gt {α : Type} (l : List α) : decide ((20 : Int) < Sh.len l) = !decide (l.length ≤ 20) := by
  by_cases h : l.length ≤ 20 <;> simp [h, Sh.len] <;> omega
def few (h : G.api_Hist) (m : Int) : Bool := decide ((h.Txns.length : Int) ≤ m) && h.Txns.all (fun t => decide (t.Writes.length ≤ 20) && decide (t.Reads.length ≤ 20))
theorem rFew {h : G.api_Hist} {m : Int} (hm : m < 9223372036854775807) : G.inquestref08_Few h m = some (few h m) := by
  unfold G.inquestref08_Few few
  by_cases h1 : (h.Txns.length : Int) ≤ m
  · have h2 : ¬ m < (h.Txns.length : Int) := by omega
    simp only [Sh.len, h2, decide_false, Bool.false_eq_true, if_false, h1, decide_true, Bool.true_and]
    rw [any_loop h.Txns (fun t => !(decide (t.Writes.length ≤ 20) && decide (t.Reads.length ≤ 20))) false (some true) (fuel_gt (by omega)) (fun k hk => ?_) ?_]
    · rw [List.any_eq_not_all_not]
      simp only [Bool.not_not]
      cases h.Txns.all (fun t => decide (t.Writes.length ≤ 20) && decide (t.Reads.length ≤ 20)) <;> rfl
    · simp [G.inquestref08_Few_b1, G.inquestref08_Few_j1]
    · simp only [G.inquestref08_Few_b1, dec_lt, hk, decide_true, if_true, idx_at hk, Option.bind_some, dec_len_gt, G.inquestref08_Few_j2, w64_succ (show k < 9223372036854775807 by omega), Sh.exit, Sh.next, Option.map_some]
      by_cases a : (h.Txns[k]).Writes.length ≤ 20 <;> by_cases b : (h.Txns[k]).Reads.length ≤ 20 <;> simp [a, b]
  · have h2 : m < (h.Txns.length : Int) := by omega
    simp [Sh.len, h2, h1]
theorem few_fits {h : G.api_Hist} {m : Int} (hm : m < 9223372036854775807) (hf : few h m = true) : Fits h := by
  simp only [few, Bool.and_eq_true, decide_eq_true_eq, List.all_eq_true] at hf
  exact ⟨by omega, fun t ht => by have := (hf.2 t ht).1; omega, fun t ht => by have := (hf.2 t ht).2; omega⟩
end Pl
end

section
/- Law 19, first half: edges as the reference sees them; what one more choice adds. -/

namespace Pl
open Go Go.Av

/-! ### One choice more -/
def one (h : G.api_Hist) (c : G.api_Choice) : Bool := decide (c.A ≠ c.B) && inr h c.A && inr h c.B && hasW (tx h c.A) c.Key && hasW (tx h c.B) c.Key
end Pl
end

section
/- Facts: what follows from what; the program's answer and the reference's. -/


namespace Pl
open Go Go.Av

def back (c : G.api_Choice) : G.api_Choice := ⟨c.Key, c.B, c.A⟩
def may (h : G.api_Hist) (lev : Int) : Bool := right h && (decide (lev = 0) || decide (lev = 1))
/-! ### The program -/
/-! ### What more facts add -/
/-! ### The reference -/
end Pl
end

section
/- Sets of numbers as bits: the program's functions, and the reference's, say the same. -/
namespace Pl
open Go Go.Av

@[simp] theorem bits_bit (i : Int) : G.bits_bit i = some (Bv.bit i) := by
  unfold G.bits_bit G.bits_bit_j1 Bv.bit
  by_cases h : i < 0
  · simp [h]; omega
  · by_cases h2 : 64 ≤ i
    · simp [h, h2]; omega
    · simp [h, h2, Sh.shl, show 0 ≤ i by omega, show i < 64 by omega]
@[simp] theorem bits_With (s : BitVec 64) (i : Int) : G.bits_With s i = some (s ||| Bv.bit i) := by simp [G.bits_With]
theorem has_bit (s : BitVec 64) (i : Int) : decide ((s &&& Bv.bit i) ≠ 0#64) = Bv.has s i := by
  unfold Bv.bit Bv.has
  by_cases h : 0 ≤ i ∧ i < 64
  · rw [if_pos h]
    simp only [h.1, h.2, decide_true, Bool.true_and]
    obtain ⟨k, rfl⟩ : ∃ k : Nat, i = k := ⟨i.toNat, by omega⟩
    have hk : k < 64 := by omega
    simp only [Int.toNat_natCast]
    cases hb : s.getLsbD k with
    | true =>
      rw [decide_eq_true_eq]
      intro h0
      have := congrArg (fun x : BitVec 64 => x.getLsbD k) h0
      simp only [BitVec.getLsbD_and, BitVec.getLsbD_shiftLeft, hk, hb, BitVec.getLsbD_zero] at this
      simp [BitVec.getLsbD_one] at this
    | false =>
      rw [decide_eq_false_iff_not]
      refine not_not_intro ?_
      apply Bv.ext
      intro j hj
      simp only [BitVec.getLsbD_and, BitVec.getLsbD_shiftLeft, hj, decide_true, Bool.true_and, BitVec.getLsbD_zero]
      by_cases hjk : j = k
      · subst hjk; simp [hb]
      · by_cases hlt : j < k
        · simp [hlt]
        · simp [hlt, BitVec.getLsbD_one]; omega
  · rw [if_neg h]
    simp only [BitVec.and_zero, ne_eq, not_true_eq_false, decide_false]
    by_cases h0 : 0 ≤ i
    · have : ¬ i < 64 := fun h1 => h ⟨h0, h1⟩
      simp [this]
    · simp [h0]
@[simp] theorem bits_Has (s : BitVec 64) (i : Int) : G.bits_Has s i = some (Bv.has s i) := by
  simp only [G.bits_Has, bits_bit, Option.bind_some, has_bit]
@[simp] theorem bits_Sub (a b : BitVec 64) : G.bits_Sub a b = some (decide (a &&& ~~~b = 0#64)) := rfl

def join (l : List (BitVec 64)) : BitVec 64 := l.foldl (· ||| ·) 0#64
theorem join_take (l : List (BitVec 64)) (k : Nat) (h : k < l.length) : join (l.take (k+1)) = join (l.take k) ||| l[k] := by
  unfold join
  rw [List.take_succ_eq_append_getElem h, List.foldl_append]; rfl
theorem bits_Join (l : List (BitVec 64)) (hl : l.length < 9223372036854775808) : G.bits_Join l = some (join l) := by
  unfold G.bits_Join
  refine count (fun k => join (l.take k)) l.length _ hl (fun k hk => ?_) ?_ rfl
  · simp only [G.bits_Join_b1, len_eq, dec_lt, hk, decide_true, if_true, idx_at hk, Option.bind_some, Sh.next, join_take l k hk, w64_succ (show k < 9223372036854775807 by omega)]
  · simp [G.bits_Join_b1, len_eq, G.bits_Join_j1, Sh.exit]
theorem join_two (a b : BitVec 64) : G.bits_Join [a, b] = some (a ||| b) := by
  rw [bits_Join _ (by simp)]; simp [join]

theorem shr_nat (a : BitVec 64) (n : Nat) : Sh.shr a (n : Int) = some (a >>> n) := by simp [Sh.shr]
theorem ctz_zero : Bv.ctz 0#64 = 64 := by decide
theorem tab_at (s : BitVec 64) (h2 : Bv.ctz s < 64) : Sh.idx Sh.tab8 ((((1#64 <<< Bv.ctz s) * Bv.dB) >>> 58).toNat : Int) = some ((Bv.ctz s : Nat) : Int) := by
  have h4 := Bv.tab_ok ⟨Bv.ctz s, h2⟩
  simp only [Sh.idx, Sh.tab8, List.getElem?_map]
  rw [if_pos (by omega), Int.toNat_natCast, h4]
  rfl
@[simp] theorem tz (s : BitVec 64) : G.bits_TrailingZeros64 s = some (Bv.ctz s : Int) := by
  unfold G.bits_TrailingZeros64
  by_cases h : s = 0#64
  · subst h
    rw [if_pos (decide_eq_true rfl), ctz_zero]; rfl
  · obtain ⟨_, h2, h3⟩ := Bv.list_cons s h
    rw [if_neg (by simpa using h), h3]
    have h5 : Sh.shr ((1#64 <<< Bv.ctz s) * 285870213051353865#64) ((58 : Nat) : Int) = some (((1#64 <<< Bv.ctz s) * 285870213051353865#64) >>> 58) := shr_nat _ _
    have e2 : (((58#64).toNat : Nat) : Int) = ((58 : Nat) : Int) := rfl
    rw [e2, h5]
    have h6 := tab_at s h2
    unfold Bv.dB at h6
    rw [Option.bind_some, h6, Option.bind_some]
    rw [w64_id (by omega) (by omega)]

/-- A set's numbers, as the program has them. -/
def ilist (s : BitVec 64) : List Int := (Bv.list s).map fun (k : Nat) => (k : Int)
theorem ilist_len (s : BitVec 64) : (ilist s).length ≤ 64 := by simp [ilist, Bv.list_length_le]

theorem list_iter : ∀ (n : Nat) (s : BitVec 64) (acc : List Int), (Bv.list s).length < n → acc.length + (Bv.list s).length ≤ 64 →
    Sh.iter (fun (p : (BitVec 64) × (List Int)) => G.bits_List_b1 p.1 p.2) n (s, acc) = some (acc ++ ilist s) := by
  intro n
  induction n with
  | zero => intro s acc h; omega
  | succ n ih =>
    intro s acc h1 h2
    by_cases h : s = 0#64
    · subst h
      simp [Sh.iter, G.bits_List_b1, G.bits_List_j1, Sh.exit, ilist, Bv.list_zero]
    · obtain ⟨e, _, _⟩ := Bv.list_cons s h
      have hl : (Bv.list s).length = (Bv.list (s &&& (s - 1#64))).length + 1 := by rw [e]; simp
      have ha : Sh.app 8 acc [((Bv.ctz s : Nat) : Int)] = some (acc ++ [((Bv.ctz s : Nat) : Int)]) := app_ok (by simp; omega)
      have hb : G.bits_List_b1 s acc = some (.inl (s &&& (s - 1#64), acc ++ [((Bv.ctz s : Nat) : Int)])) := by
        simp only [G.bits_List_b1, h, ne_eq, not_false_eq_true, decide_true, if_true, tz, Option.bind_some, ha, Sh.next]
      simp only [Sh.iter, hb]
      rw [ih _ _ (by omega) (by simp; omega)]
      simp only [ilist, Option.some.injEq]
      rw [e]; simp
@[simp] theorem bits_List (s : BitVec 64) : G.bits_List s = some (ilist s) := by
  have := Bv.list_length_le s
  have h := list_iter Sh.FUEL s [] (Nat.lt_of_le_of_lt this (fuel_gt (by omega))) (by simpa using this)
  simpa [G.bits_List, Sh.loop] using h
theorem least_eq (s : BitVec 64) : Bv.least s = if s = 0#64 then -1 else (Bv.ctz s : Int) := by
  by_cases h : s = 0#64
  · subst h; decide
  · rw [if_neg h, Bv.least_ctz s h]
@[simp] theorem bits_Least (s : BitVec 64) : G.bits_Least s = some (Bv.least s) := by
  unfold G.bits_Least
  rw [least_eq]
  by_cases h : s = 0#64
  · simp [h]
  · simp only [h, decide_false, Bool.false_eq_true, if_false, tz, Option.bind_some]

/-! ### The reference -/
@[simp] theorem r10_In (i : Int) : G.inquestref10_In i = some (decide (0 ≤ i ∧ i ≤ 63)) := by
  unfold G.inquestref10_In
  by_cases h : 0 ≤ i <;> simp [h]
theorem r10_Power (i : Nat) (h : i ≤ 63) : G.inquestref10_Power (i : Int) = some (1#64 <<< i) := by
  unfold G.inquestref10_Power
  refine count (fun k => 1#64 <<< k) i _ (fuel_gt (by omega)) (fun k hk => ?_) ?_ (by simp)
  · simp only [G.inquestref10_Power_b1, dec_lt, hk, decide_true, if_true, Sh.next, w64_succ (show k < 9223372036854775807 by omega)]
    congr 3
    apply BitVec.eq_of_toNat_eq
    simp only [BitVec.toNat_add, BitVec.toNat_shiftLeft, Nat.shiftLeft_eq, BitVec.toNat_ofNat]
    rw [Nat.pow_succ]; omega
  · simp [G.inquestref10_Power_b1, G.inquestref10_Power_j1, Sh.exit]
theorem div_mod_bit (s : BitVec 64) (k : Nat) (hk : k < 64) : decide (s / (1#64 <<< k) % 2#64 = 1#64) = s.getLsbD k := by
  have h1 : (1#64 <<< k).toNat = 2 ^ k := by
    have : 2 ^ k < 2 ^ 64 := Nat.pow_lt_pow_right (by omega) hk
    simp [Nat.shiftLeft_eq, Nat.mod_eq_of_lt this]
  have h2 : (s / (1#64 <<< k) % 2#64).toNat = s.toNat / 2 ^ k % 2 := by
    simp only [BitVec.toNat_umod, BitVec.toNat_udiv, h1, BitVec.toNat_ofNat]
  have h3 : s.getLsbD k = decide (s.toNat / 2 ^ k % 2 = 1) := by
    simp only [BitVec.getLsbD, Nat.testBit_eq_decide_div_mod_eq]
  rw [h3]
  congr 1
  apply propext
  rw [← h2]
  constructor
  · intro h; rw [h]; rfl
  · intro h; apply BitVec.eq_of_toNat_eq; rw [h]; rfl
@[simp] theorem r10_Has (s : BitVec 64) (i : Int) : G.inquestref10_Has s i = some (Bv.has s i) := by
  unfold G.inquestref10_Has Bv.has
  simp only [r10_In, Option.bind_some]
  by_cases h : 0 ≤ i ∧ i ≤ 63
  · obtain ⟨k, rfl⟩ : ∃ k : Nat, i = k := ⟨i.toNat, by omega⟩
    have hk : k < 64 := by omega
    have hne : (1#64 <<< k) ≠ 0#64 := by
      intro h0
      have := congrArg (fun x : BitVec 64 => x.getLsbD k) h0
      simp [hk] at this
    have e1 : Sh.udiv s (1#64 <<< k) = some (s / (1#64 <<< k)) := by simp only [Sh.udiv, hne, ne_eq, not_false_eq_true, if_true]
    simp only [h, decide_true, Bool.not_true, Bool.false_eq_true, if_false, r10_Power k (by omega), Option.bind_some, e1, Sh.umod]
    have e2 : (2#64 : BitVec 64) ≠ 0#64 := by decide
    simp only [e2, ne_eq, not_false_eq_true, if_true, Option.bind_some, div_mod_bit s k hk]
    have : ((k : Int) < 64) := by omega
    simp [this]
  · rw [decide_eq_false h]
    by_cases h0 : 0 ≤ i
    · have : ¬ i < 64 := by omega
      simp [h0, this]
    · simp [h0]
theorem has_nat (s : BitVec 64) {k : Nat} (hk : k < 64) : Bv.has s (k : Int) = s.getLsbD k := by
  unfold Bv.has
  have h1 : (0 : Int) ≤ (k : Int) := by omega
  have h2 : (k : Int) < 64 := by omega
  simp [h2]
theorem add_bit (s : BitVec 64) (k : Nat) (hk : k < 64) (hb : s.getLsbD k = false) : s + 1#64 <<< k = s ||| 1#64 <<< k := by
  rw [BitVec.add_eq_or_of_and_eq_zero]
  apply Bv.ext
  intro j hj
  simp only [BitVec.getLsbD_and, BitVec.getLsbD_shiftLeft, hj, decide_true, Bool.true_and, BitVec.getLsbD_zero]
  by_cases hjk : j = k
  · subst hjk; simp [hb]
  · by_cases hlt : j < k
    · simp [hlt]
    · simp [hlt, BitVec.getLsbD_one]; omega
theorem or_bit (s : BitVec 64) (k : Nat) (hk : k < 64) (hb : s.getLsbD k = true) : s ||| 1#64 <<< k = s := by
  apply Bv.ext
  intro j hj
  simp only [BitVec.getLsbD_or, BitVec.getLsbD_shiftLeft, hj, decide_true, Bool.true_and]
  by_cases hjk : j = k
  · subst hjk; simp [hb]
  · by_cases hlt : j < k
    · simp [hlt]
    · simp [hlt, BitVec.getLsbD_one]; omega
@[simp] theorem r10_With (s : BitVec 64) (i : Int) : G.inquestref10_With s i = some (s ||| Bv.bit i) := by
  unfold G.inquestref10_With G.inquestref10_With_j1
  simp only [r10_Has, r10_In, Option.bind_some]
  by_cases h : 0 ≤ i ∧ i ≤ 63
  · obtain ⟨k, rfl⟩ : ∃ k : Nat, i = k := ⟨i.toNat, by omega⟩
    have hk : k < 64 := by omega
    have hbit : Bv.bit (k : Int) = 1#64 <<< k := by unfold Bv.bit; rw [if_pos ⟨by omega, by omega⟩]; simp
    have hh : Bv.has s (k : Int) = s.getLsbD k := has_nat s hk
    rw [hh, hbit]
    cases hb : s.getLsbD k with
    | true => simp [or_bit s k hk hb]
    | false => simp [h, r10_Power k (by omega), add_bit s k hk hb]
  · have hbit : Bv.bit i = 0#64 := by unfold Bv.bit; rw [if_neg (by omega)]
    have hh : Bv.has s i = false := by
      unfold Bv.has
      by_cases h0 : 0 ≤ i
      · have : ¬ i < 64 := by omega
        simp [this]
      · simp [h0]
    simp [hh, hbit, h]
theorem ilist_filter (s : BitVec 64) (m : Nat) : ((List.range m).filter fun i => s.getLsbD i).length ≤ m := by
  have := List.length_filter_le (fun i => s.getLsbD i) (List.range m)
  simpa using this
@[simp] theorem r10_List (s : BitVec 64) : G.inquestref10_List s = some (ilist s) := by
  unfold G.inquestref10_List
  refine count (fun k => ((List.range k).filter fun i => s.getLsbD i).map fun (k : Nat) => (k : Int)) 64 _ (fuel_gt (by omega)) (fun k hk => ?_) ?_ (by simp)
  · have hh : Bv.has s (k : Int) = s.getLsbD k := has_nat s hk
    have hk' : ((k : Int) < 64) := by omega
    simp only [G.inquestref10_List_b1, hk', decide_true, if_true, r10_Has, hh, Option.bind_some, G.inquestref10_List_j2, Sh.next, w64_succ (show k < 9223372036854775807 by omega)]
    have := ilist_filter s k
    cases hb : s.getLsbD k with
    | true =>
      simp only [if_true]
      rw [app_ok (by simp; omega)]
      simp [List.range_succ, hb]
    | false => simp [List.range_succ, hb]
  · simp [G.inquestref10_List_b1, G.inquestref10_List_j1, Sh.exit, ilist, Bv.list]
theorem sub_iff (a b : BitVec 64) : a &&& ~~~b = 0#64 ↔ ∀ i, a.getLsbD i = true → b.getLsbD i = true := by
  constructor
  · intro h i hi
    have hi64 : i < 64 := by
      rcases Nat.lt_or_ge i 64 with h | h
      · exact h
      · simp [BitVec.getLsbD_of_ge a i h] at hi
    have := congrArg (fun x : BitVec 64 => x.getLsbD i) h
    simp only [BitVec.getLsbD_and, BitVec.getLsbD_not, hi64, decide_true, Bool.true_and, BitVec.getLsbD_zero, hi] at this
    simpa using this
  · intro h
    apply Bv.ext
    intro i hi
    simp only [BitVec.getLsbD_and, BitVec.getLsbD_not, hi, decide_true, Bool.true_and, BitVec.getLsbD_zero]
    cases ha : a.getLsbD i with
    | true => simp [h i ha]
    | false => rfl
end Pl
namespace Pl
open Go Go.Av
end Pl
end

section
/- Graphs as rows of bits: the program's functions and the reference's, over the edges. -/
namespace Pl
open Go Go.Av

/-- A row of a graph of n nodes. -/
def row : Nat → (Nat → Bool) → BitVec 64
  | 0, _ => 0#64
  | n + 1, p => if p n then row n p ||| (1#64 <<< n) else row n p
theorem shift_get (k i : Nat) (hk : k < 64) : (1#64 <<< k).getLsbD i = decide (i = k) := by
  by_cases hi : i < 64
  · simp only [BitVec.getLsbD_shiftLeft, hi, decide_true, Bool.true_and]
    by_cases hik : i = k
    · subst hik; simp
    · by_cases hlt : i < k
      · simp [hlt, hik]
      · simp [hlt, hik, BitVec.getLsbD_one]; omega
  · have : ¬ i = k := by omega
    simp [BitVec.getLsbD_of_ge _ i (show 64 ≤ i by omega), this]
theorem row_get {n : Nat} (hn : n ≤ 64) (p : Nat → Bool) (i : Nat) : (row n p).getLsbD i = (decide (i < n) && p i) := by
  induction n with
  | zero => simp [row]
  | succ n ih =>
    have ih := ih (by omega)
    unfold row
    by_cases hp : p n = true
    · rw [if_pos hp, BitVec.getLsbD_or, ih, shift_get n i (by omega)]
      by_cases h : i = n
      · subst h; simp [hp]
      · by_cases h2 : i < n
        · simp [h, h2, show i < n + 1 by omega]
        · simp [h, h2, show ¬ i < n + 1 by omega]
    · rw [if_neg hp, ih]
      by_cases h : i = n
      · subst h; simp [hp]
      · by_cases h2 : i < n
        · simp [h2, show i < n + 1 by omega]
        · simp [h2, show ¬ i < n + 1 by omega]
def rows (n : Nat) (f : Nat → Nat → Bool) : List (BitVec 64) := (List.range n).map fun x => row n (f x)
@[simp] theorem rows_len (n : Nat) (f : Nat → Nat → Bool) : (rows n f).length = n := by simp [rows]
theorem rows_at {n : Nat} {f : Nat → Nat → Bool} {x : Nat} (h : x < (rows n f).length) : (rows n f)[x] = row n (f x) := by simp [rows]
theorem rows_idx {n : Nat} {f : Nat → Nat → Bool} {x : Nat} (h : x < n) : Sh.idx (rows n f) (x : Int) = some (row n (f x)) := by
  rw [idx_at (by simpa using h), rows_at]
abbrev gr (n : Nat) (f : Nat → Nat → Bool) : G.graph_Graph := ⟨(n : Int), rows n f⟩
abbrev rg (n : Nat) (f : Nat → Nat → Bool) : G.inquestref12_G := ⟨(n : Int), rows n f⟩

theorem row_ext {n : Nat} (hn : n ≤ 64) {p q : Nat → Bool} : row n p = row n q ↔ ∀ i, i < n → p i = q i := by
  constructor
  · intro h i hi
    have := congrArg (fun x : BitVec 64 => x.getLsbD i) h
    simpa [row_get hn, hi] using this
  · intro h
    apply Bv.ext
    intro i _
    rw [row_get hn, row_get hn]
    by_cases hi : i < n
    · simp [hi, h i hi]
    · simp [hi]
theorem rows_ext {n : Nat} (hn : n ≤ 64) {f h : Nat → Nat → Bool} : rows n f = rows n h ↔ ∀ x y, x < n → y < n → f x y = h x y := by
  constructor
  · intro e x y hx hy
    have h1 : (rows n f)[x]? = (rows n h)[x]? := by rw [e]
    rw [List.getElem?_eq_getElem (by simpa using hx), List.getElem?_eq_getElem (by simpa using hx), rows_at, rows_at] at h1
    exact (row_ext hn).1 (Option.some.inj h1) y hy
  · intro e
    unfold rows
    apply List.map_congr_left
    intro x hx
    exact (row_ext hn).2 (fun y hy => e x y (by simpa using hx) hy)
/-- May it be a graph? -/
def rightB (N : Int) (R : List (BitVec 64)) : Bool := decide (0 ≤ N ∧ N ≤ 64 ∧ (R.length : Int) = N ∧ ∀ r ∈ R, ∀ i : Nat, i < 64 → N ≤ (i : Int) → r.getLsbD i = false)
theorem right_rows {n : Nat} (hn : n ≤ 64) (f : Nat → Nat → Bool) : rightB (n : Int) (rows n f) = true := by
  refine decide_eq_true ⟨by omega, by omega, by simp, fun r hr i _ hi => ?_⟩
  simp only [rows, List.mem_map] at hr
  obtain ⟨x, _, rfl⟩ := hr
  rw [row_get hn]
  have : ¬ i < n := by omega
  simp [this]
/-! ### The program's -/
theorem nodes_get (n : Nat) (hn : n ≤ 64) (i : Nat) (hi : i < 64) : ((1#64 <<< n) - 1#64).getLsbD i = decide (i < n) := by
  rcases Nat.lt_or_ge n 64 with h | h
  · have e : ((1#64 <<< n) - 1#64).toNat = 2 ^ n - 1 := by
      have h1 : 2 ^ n < 2 ^ 64 := Nat.pow_lt_pow_right (by omega) h
      have h2 : 0 < 2 ^ n := Nat.pow_pos (by omega)
      rw [BitVec.toNat_sub]
      simp only [BitVec.toNat_shiftLeft, BitVec.toNat_ofNat, Nat.shiftLeft_eq]
      omega
    simp only [BitVec.getLsbD, e, Nat.testBit_two_pow_sub_one]
  · have : n = 64 := by omega
    subst this
    have e : (1#64 <<< 64) - 1#64 = BitVec.allOnes 64 := by decide
    rw [e, BitVec.getLsbD_allOnes]
theorem join_get (l : List (BitVec 64)) (i : Nat) : (join l).getLsbD i = l.any (·.getLsbD i) := by
  have key : ∀ (l : List (BitVec 64)) (a : BitVec 64), (l.foldl (· ||| ·) a).getLsbD i = (a.getLsbD i || l.any (·.getLsbD i)) := by
    intro l
    induction l with
    | nil => intro a; simp
    | cons x l ih => intro a; simp [ih, Bool.or_assoc]
  simp [join, key]
theorem graph_Right (g : G.graph_Graph) (hl : g.Rows.length < 9223372036854775808) : G.graph_Right g = some (rightB g.N g.Rows) := by
  unfold G.graph_Right G.graph_nodes rightB
  by_cases h1 : 0 ≤ g.N
  · by_cases h2 : g.N ≤ 64
    · by_cases h3 : (g.Rows.length : Int) = g.N
      · have hs : Sh.shl 1#64 g.N = some (1#64 <<< g.N.toNat) := by simp [Sh.shl, h1]
        simp only [h1, h2, h3, decide_true, if_true, bits_Join _ hl, hs, Option.bind_some, bits_Sub, true_and, Option.some.injEq]
        congr 1
        apply propext
        rw [sub_iff]
        constructor
        · intro h r hr i hi hN
          cases hb : r.getLsbD i with
          | false => rfl
          | true =>
            have := h i (by rw [join_get, List.any_eq_true]; exact ⟨r, hr, hb⟩)
            rw [nodes_get _ (by omega) i hi] at this
            have := of_decide_eq_true this
            omega
        · intro h i hi
          have hi64 : i < 64 := by
            rcases Nat.lt_or_ge i 64 with h' | h'
            · exact h'
            · rw [BitVec.getLsbD_of_ge _ i h'] at hi; cases hi
          rw [nodes_get _ (by omega) i hi64]
          apply decide_eq_true
          rw [join_get, List.any_eq_true] at hi
          obtain ⟨r, hr, hb⟩ := hi
          rcases Nat.lt_or_ge i g.N.toNat with h' | h'
          · exact h'
          · rw [h r hr i hi64 (by omega)] at hb; cases hb
      · simp [h1, h2, h3]
    · simp [h1, h2]
  · simp [h1]
@[simp] theorem Right_gr {n : Nat} (hn : n ≤ 64) (f : Nat → Nat → Bool) : G.graph_Right (gr n f) = some true := by
  rw [graph_Right _ (by simp; omega)]
  exact congrArg some (right_rows hn f)
theorem graph_New (n : Nat) (hn : n ≤ 64) : G.graph_New (n : Int) = some (⟨(n : Int), List.replicate n 0#64⟩, 0) := by
  unfold G.graph_New G.graph_New_j1
  have h1 : ¬ (n : Int) < 0 := by omega
  have h2 : ¬ (64 : Int) < (n : Int) := by omega
  simp only [h1, h2, decide_false, Bool.false_eq_true, if_false, mk_ok (show 8 * n ≤ 140737488355328 by omega) (show n ≤ 4611686018427387904 by omega), Option.bind_some]
theorem zero_rows (n : Nat) : List.replicate n 0#64 = rows n (fun _ _ => false) := by
  unfold rows
  apply List.ext_getElem (by simp)
  intro x h1 h2
  simp only [List.getElem_replicate, List.getElem_map]
  have : ∀ m, row m (fun _ => false) = 0#64 := fun m => by
    induction m with
    | zero => rfl
    | succ m ih => simp [row, ih]
  rw [this]
theorem row_has {n : Nat} (hn : n ≤ 64) (p : Nat → Bool) {k : Nat} (hk : k < n) : Bv.has (row n p) (k : Int) = p k := by
  rw [has_nat _ (by omega), row_get hn]; simp [hk]
theorem row_has_out {n : Nat} (hn : n ≤ 64) (p : Nat → Bool) {b : Int} (hb : b < 0 ∨ (n : Int) ≤ b) : Bv.has (row n p) b = false := by
  unfold Bv.has
  rcases hb with hb | hb
  · have : ¬ 0 ≤ b := by omega
    simp [this]
  · rw [row_get hn]
    have : ¬ b.toNat < n := by omega
    simp [this]
/-- Whether a graph has an edge: of whatever numbers. -/
def hasB (n : Nat) (f : Nat → Nat → Bool) (a b : Int) : Bool := decide (0 ≤ a ∧ a < n ∧ 0 ≤ b ∧ b < n) && f a.toNat b.toNat
theorem graph_Has {n : Nat} (hn : n ≤ 64) (f : Nat → Nat → Bool) (a b : Int) : G.graph_Has (gr n f) a b = some (hasB n f a b) := by
  unfold G.graph_Has hasB
  simp only [Right_gr hn, Option.bind_some, if_true]
  by_cases h1 : 0 ≤ a
  · by_cases h2 : a < n
    · obtain ⟨k, rfl⟩ : ∃ k : Nat, a = k := ⟨a.toNat, by omega⟩
      have hk : k < n := by omega
      simp only [h1, h2, decide_true, if_true, rows_idx hk, Option.bind_some, bits_Has]
      by_cases h3 : 0 ≤ b ∧ b < n
      · obtain ⟨j, rfl⟩ : ∃ j : Nat, b = j := ⟨b.toNat, by omega⟩
        rw [row_has hn _ (by omega)]
        simp [h3]
      · rw [row_has_out hn _ (by omega)]
        have : ¬ (True ∧ True ∧ 0 ≤ b ∧ b < n) := fun h => h3 h.2.2
        rw [decide_eq_false this]; rfl
    · simp [h1, h2]
  · simp [h1]
theorem hasB_nat {n : Nat} {f : Nat → Nat → Bool} {x y : Nat} (hx : x < n) (hy : y < n) : hasB n f (x : Int) (y : Int) = f x y := by
  simp [hasB, hx, hy]
theorem row_with {n : Nat} (hn : n ≤ 64) (p : Nat → Bool) {k : Nat} (hk : k < n) : row n p ||| Bv.bit (k : Int) = row n (fun i => p i || decide (i = k)) := by
  apply Bv.ext
  intro i hi
  rw [row_get hn, BitVec.getLsbD_or, row_get hn]
  have hb : Bv.bit (k : Int) = 1#64 <<< k := by unfold Bv.bit; rw [if_pos ⟨by omega, by omega⟩]; simp
  rw [hb]
  simp only [BitVec.getLsbD_shiftLeft, hi, decide_true, Bool.true_and]
  by_cases hik : i = k
  · subst hik; simp [hk]
  · by_cases hlt : i < k
    · simp [hlt, hik]
    · simp [hlt, hik, BitVec.getLsbD_one]; omega
theorem rows_set {n : Nat} (f : Nat → Nat → Bool) {x : Nat} (_hx : x < n) (p : Nat → Bool) : (rows n f).set x (row n p) = rows n (fun a => if a = x then p else f a) := by
  apply List.ext_getElem (by simp)
  intro a h1 h2
  rw [List.getElem_set, rows_at, rows_at]
  by_cases ha : x = a
  · subst ha; simp
  · simp [ha, Ne.symm ha]
def addF (f : Nat → Nat → Bool) (a b : Nat) : Nat → Nat → Bool := fun x y => f x y || decide (x = a ∧ y = b)
theorem graph_Add {n : Nat} (hn : n ≤ 64) (f : Nat → Nat → Bool) {a b : Nat} (ha : a < n) (hb : b < n) : G.graph_Add (gr n f) (a : Int) (b : Int) = some (gr n (addF f a b), 0) := by
  unfold G.graph_Add G.graph_Add_j1
  have h1 : ¬ (a : Int) < 0 := by omega
  have h2 : ¬ (n : Int) ≤ (a : Int) := by omega
  have h3 : ¬ (b : Int) < 0 := by omega
  have h4 : ¬ (n : Int) ≤ (b : Int) := by omega
  simp only [Right_gr hn, Option.bind_some, Bool.not_true, Bool.false_eq_true, if_false, h1, h2, h3, h4, decide_false, graph_New n hn, cpy_ok (show (rows n f).length = (List.replicate n 0#64).length by simp), rows_idx ha, bits_With, row_with hn _ hb, set_at, rows_set f ha]
  have e : rows n (fun x => if x = a then (fun i => f a i || decide (i = b)) else f x) = rows n (addF f a b) := by
    rw [rows_ext hn]
    intro x y _ _
    unfold addF
    by_cases hx : x = a
    · subst hx; simp
    · simp [hx]
  rw [e]
/-! ### Rows turned one by one -/
/-- The rows of which the first ones are those of another graph. -/
def mixF (f h : Nat → Nat → Bool) (k : Nat) : Nat → Nat → Bool := fun x y => if x < k then h x y else f x y
theorem mix_zero {n : Nat} (f h : Nat → Nat → Bool) : rows n (mixF f h 0) = rows n f := by
  unfold rows mixF; simp
theorem mix_all {n : Nat} (hn : n ≤ 64) (f h : Nat → Nat → Bool) : rows n (mixF f h n) = rows n h := by
  rw [rows_ext hn]; intro x y hx _; simp [mixF, hx]
theorem mix_set {n : Nat} (hn : n ≤ 64) (f h : Nat → Nat → Bool) {k : Nat} (hk : k < n) : (rows n (mixF f h k)).set k (row n (h k)) = rows n (mixF f h (k + 1)) := by
  rw [rows_set _ hk, rows_ext hn]
  intro x y _ _
  unfold mixF
  by_cases hx : x = k
  · subst hx; simp
  · by_cases hlt : x < k
    · simp [hx, hlt, show x < k + 1 by omega]
    · simp [hx, hlt, show ¬ x < k + 1 by omega]
theorem row_or {n : Nat} (hn : n ≤ 64) (p q : Nat → Bool) : row n p ||| row n q = row n (fun i => p i || q i) := by
  apply Bv.ext
  intro i _
  rw [BitVec.getLsbD_or, row_get hn, row_get hn, row_get hn]
  by_cases hi : i < n <;> simp [hi]

def orF (f h : Nat → Nat → Bool) : Nat → Nat → Bool := fun x y => f x y || h x y
theorem like_gr {n m : Nat} (hn : n ≤ 64) (hm : m ≤ 64) (f h : Nat → Nat → Bool) : G.graph_like (gr n f) (gr m h) = some (decide (n = m)) := by
  unfold G.graph_like
  simp [Right_gr hn, Right_gr hm, Int.ofNat_inj]
theorem graph_Union {n : Nat} (hn : n ≤ 64) (f h : Nat → Nat → Bool) : G.graph_Union (gr n f) (gr n h) = some (gr n (orF f h), 0) := by
  unfold G.graph_Union
  simp only [like_gr hn hn, decide_true, Option.bind_some, Bool.not_true, Bool.false_eq_true, if_false, graph_New n hn]
  refine count (fun k => rows n (mixF (fun _ _ => false) (orF f h) k)) n _ (fuel_gt (by omega)) (fun k hk => ?_) ?_ (by rw [mix_zero, zero_rows])
  · simp only [G.graph_Union_b1, len_eq, List.length_replicate, dec_lt, hk, decide_true, if_true, rows_idx hk, Option.bind_some, join_two, row_or hn, set_at, Sh.next, w64_succ (show k < 9223372036854775807 by omega)]
    have := mix_set hn (fun _ _ => false) (orF f h) hk
    rw [← this]; rfl
  · simp only [G.graph_Union_b1, len_eq, List.length_replicate, Int.lt_irrefl, decide_false, Bool.false_eq_true, if_false, G.graph_Union_j1, exit_some, mix_all hn]
/-! ### A row that gathers -/
/-! ### All edges -/
def edgesOf (n : Nat) (f : Nat → Nat → Bool) : List G.graph_Edge := (List.range n).flatMap fun x => (ilist (row n (f x))).map fun y => ⟨(x : Int), y⟩
theorem edges_take (n : Nat) (f : Nat → Nat → Bool) (k : Nat) (_h : k < n) : ((List.range (k + 1)).flatMap fun x => (ilist (row n (f x))).map fun y => (⟨(x : Int), y⟩ : G.graph_Edge)) = ((List.range k).flatMap fun x => (ilist (row n (f x))).map fun y => (⟨(x : Int), y⟩ : G.graph_Edge)) ++ (ilist (row n (f k))).map fun y => ⟨(k : Int), y⟩ := by
  rw [List.range_succ, List.flatMap_append]; simp
theorem edges_len (n : Nat) (f : Nat → Nat → Bool) (k : Nat) : ((List.range k).flatMap fun x => (ilist (row n (f x))).map fun y => (⟨(x : Int), y⟩ : G.graph_Edge)).length ≤ 64 * k := by
  induction k with
  | zero => simp
  | succ k ih =>
    rw [List.range_succ, List.flatMap_append, List.length_append]
    have := ilist_len (row n (f k))
    simp only [List.flatMap_cons, List.flatMap_nil, List.append_nil, List.length_map]
    omega
theorem edges_inner (x : Nat) (hx : x < 64) (s : BitVec 64) (acc : List G.graph_Edge) (hacc : acc.length ≤ 4096) :
    Sh.loop (fun (p : (List G.graph_Edge) × Int) => G.graph_Edges_b2 (x : Int) (ilist s) p.1 p.2) (acc, 0) = some (.inl (acc ++ (ilist s).map (fun y => ⟨(x : Int), y⟩), ((x + 1 : Nat) : Int))) := by
  have hl := ilist_len s
  refine count (fun k => acc ++ ((ilist s).take k).map (fun y => ⟨(x : Int), y⟩)) (ilist s).length _ (fuel_gt (by omega)) (fun k hk => ?_) ?_ (by simp)
  · simp only [G.graph_Edges_b2, len_eq, dec_lt, hk, decide_true, if_true, idx_at hk, Option.bind_some]
    rw [app_ok (by simp; omega)]
    simp only [Option.bind_some, Sh.next, w64_succ (show k < 9223372036854775807 by omega)]
    rw [List.take_succ_eq_append_getElem hk, List.map_append, List.append_assoc]
    rfl
  · simp only [G.graph_Edges_b2, len_eq, Int.lt_irrefl, decide_false, Bool.false_eq_true, if_false, G.graph_Edges_j2, next_some, exit_some, List.take_length, w64_succ (show x < 9223372036854775807 by omega)]
theorem graph_Edges {n : Nat} (hn : n ≤ 64) (f : Nat → Nat → Bool) : G.graph_Edges (gr n f) = some (edgesOf n f) := by
  unfold G.graph_Edges
  simp only [Right_gr hn, Option.bind_some, Bool.not_true, Bool.false_eq_true, if_false]
  refine count (fun k => (List.range k).flatMap fun x => (ilist (row n (f x))).map fun y => ⟨(x : Int), y⟩) n _ (fuel_gt (by omega)) (fun k hk => ?_) ?_ (by simp)
  · have hl := edges_len n f k
    simp only [G.graph_Edges_b1, len_eq, rows_len, dec_lt, hk, decide_true, if_true, rows_idx hk, Option.bind_some, bits_List]
    rw [edges_inner k (by omega) _ _ (by omega), edges_take n f k hk]
  · simp only [G.graph_Edges_b1, len_eq, rows_len, Int.lt_irrefl, decide_false, Bool.false_eq_true, if_false, G.graph_Edges_j1, exit_some]
    rfl
end Pl
end

section
/- The reference's graphs. -/
namespace Pl
open Go Go.Av

/-- Are two rows of rows the same? -/
theorem r12_Same (a b : G.inquestref12_G) (hl : a.Rows.length < 9223372036854775808) : G.inquestref12_Same a b = some (decide (a = b)) := by
  unfold G.inquestref12_Same G.inquestref12_Same_j1
  obtain ⟨N, R⟩ := a
  obtain ⟨M, S⟩ := b
  by_cases h1 : N = M
  · subst h1
    by_cases h2 : R.length = S.length
    · have h2' : (R.length : Int) = (S.length : Int) := by omega
      simp only [ne_eq, not_true_eq_false, decide_false, Bool.false_eq_true, if_false, len_eq, h2']
      have key := scan_true (b := fun (p : Int) => G.inquestref12_Same_b1 ⟨N, R⟩ ⟨N, S⟩ p) R.length (fun k => decide (R[k]? = S[k]?)) hl (fun k hk => ?_) ?_
      · rw [key]
        congr 2
        apply propext
        simp only [decide_eq_true_eq, G.inquestref12_G.mk.injEq, true_and]
        constructor
        · intro h
          apply List.ext_getElem? (fun i => ?_)
          rcases Nat.lt_or_ge i R.length with hi | hi
          · exact h i hi
          · rw [List.getElem?_eq_none hi, List.getElem?_eq_none (by omega)]
        · rintro rfl k _; rfl
      · have hk2 : k < S.length := by omega
        have hl' : R.length < 9223372036854775808 := hl
        simp only [G.inquestref12_Same_b1, len_eq, dec_lt, hk, decide_true, if_true, idx_at hk, idx_at hk2, Option.bind_some, List.getElem?_eq_getElem hk, List.getElem?_eq_getElem hk2, Option.some.injEq, w64_succ (show k < 9223372036854775807 by omega), Sh.next, exit_some]
        by_cases he : R[k] = S[k] <;> simp [he]
      · simp [G.inquestref12_Same_b1, G.inquestref12_Same_j2, Sh.exit]
    · have h2' : ¬ (R.length : Int) = (S.length : Int) := by omega
      have h3 : ¬ R = S := fun h => h2 (by rw [h])
      simp [h2', h3]
  · simp [h1]
theorem same_rg {n : Nat} (hn : n ≤ 64) (f h : Nat → Nat → Bool) : G.inquestref12_Same (rg n f) (rg n h) = some (decide (rows n f = rows n h)) := by
  rw [r12_Same _ _ (by simp; omega)]
  simp [rg]
theorem same_self {n : Nat} (hn : n ≤ 64) (f : Nat → Nat → Bool) : G.inquestref12_Same (rg n f) (rg n f) = some true := by
  rw [same_rg hn]; simp
/-! ### Loops over the nodes that lay edges -/
end Pl
namespace Pl
open Go Go.Av
end Pl
end

section
/- Where ways lead. -/

namespace Pl
open Go Go.Av

/-- A way: an edge, or an edge and a way behind it. -/
inductive Way (n : Nat) (f : Nat → Nat → Bool) : Nat → Nat → Prop
  | edge {x y : Nat} : x < n → y < n → f x y = true → Way n f x y
  | cons {x y z : Nat} : x < n → y < n → f x y = true → Way n f y z → Way n f x z

theorem Way.trans {n : Nat} {f : Nat → Nat → Bool} {x y z : Nat} (h : Way n f x y) (k : Way n f y z) : Way n f x z := by
  induction h with
  | edge hx hy hf => exact .cons hx hy hf k
  | cons hx hy hf _ ih => exact .cons hx hy hf (ih k)
theorem Way.left {n : Nat} {f : Nat → Nat → Bool} {x y : Nat} (h : Way n f x y) : x < n := by cases h <;> assumption
theorem Way.right {n : Nat} {f : Nat → Nat → Bool} {x y : Nat} (h : Way n f x y) : y < n := by
  induction h with
  | edge _ hy _ => exact hy
  | cons _ _ _ _ ih => exact ih
theorem Way.snoc {n : Nat} {f : Nat → Nat → Bool} {x y z : Nat} (h : Way n f x y) (hz : z < n) (hf : f y z = true) : Way n f x z := h.trans (.edge h.right hz hf)
theorem Way.mono {n : Nat} {f h : Nat → Nat → Bool} (hm : ∀ x y, x < n → y < n → f x y = true → Way n h x y) {x y : Nat} (w : Way n f x y) : Way n h x y := by
  induction w with
  | edge hx hy hf => exact hm _ _ hx hy hf
  | cons hx hy hf _ ih => exact (hm _ _ hx hy hf).trans ih
/-- A way's last edge. -/
theorem Way.last {n : Nat} {f : Nat → Nat → Bool} {x z : Nat} (h : Way n f x z) : ∃ y, y < n ∧ f y z = true ∧ (y = x ∨ Way n f x y) := by
  induction h with
  | edge hx hy hf => exact ⟨_, hx, hf, .inl rfl⟩
  | cons hx hy hf _ ih =>
    obtain ⟨y, h1, h2, h3⟩ := ih
    refine ⟨y, h1, h2, .inr ?_⟩
    rcases h3 with rfl | h3
    · exact .edge hx hy hf
    · exact .cons hx hy hf h3

noncomputable def wayF (n : Nat) (f : Nat → Nat → Bool) : Nat → Nat → Bool := fun x y => @decide (Way n f x y) (Classical.propDecidable _)
theorem way_iff {n : Nat} {f : Nat → Nat → Bool} {x y : Nat} : wayF n f x y = true ↔ Way n f x y := by
  unfold wayF; exact @decide_eq_true_iff _ (Classical.propDecidable _)

theorem filter_lt {α : Type} (l : List α) (p q : α → Bool) (hpq : ∀ x, q x = true → p x = true) {k : α} (hk : k ∈ l) (hp : p k = true) (hq : q k = false) : (l.filter q).length < (l.filter p).length := by
  induction l with
  | nil => cases hk
  | cons a l ih =>
    have hle : ∀ l : List α, (l.filter q).length ≤ (l.filter p).length := fun l => by
      induction l with
      | nil => simp
      | cons b l ih =>
        simp only [List.filter_cons]
        cases hb : q b with
        | true => simp [hpq b hb]; exact ih
        | false =>
          cases p b <;> simp <;> omega
    simp only [List.filter_cons]
    rcases List.mem_cons.1 hk with rfl | hk
    · simp only [hp, hq, if_true, Bool.false_eq_true, if_false, List.length_cons]
      have := hle l; omega
    · have := ih hk
      cases hb : q a with
      | true => simp [hpq a hb]; exact this
      | false => cases p a <;> simp <;> omega

/-- What the search has found, and what is left to look at. -/
structure FromInv (n : Nat) (f : Nat → Nat → Bool) (a : Nat) (seen left : BitVec 64) : Prop where
  way : ∀ y, (seen.getLsbD y = true ∨ left.getLsbD y = true) → Way n f a y
  first : ∀ y, y < n → f a y = true → seen.getLsbD y = true ∨ left.getLsbD y = true
  next : ∀ x y, seen.getLsbD x = true → y < n → f x y = true → seen.getLsbD y = true ∨ left.getLsbD y = true
  apart : ∀ y, seen.getLsbD y = true → left.getLsbD y = false

theorem getLsbD_andNot (a b : BitVec 64) (i : Nat) : (a &&& ~~~b).getLsbD i = (a.getLsbD i && !b.getLsbD i) := by
  by_cases h : i < 64
  · simp [h]
  · simp [BitVec.getLsbD_of_ge a i (by omega)]
theorem least_spec (s : BitVec 64) : (s = 0#64 ∧ Bv.least s = -1) ∨ ∃ k : Nat, s ≠ 0#64 ∧ Bv.least s = (k : Int) ∧ s.getLsbD k = true ∧ ∀ j, j < k → s.getLsbD j = false := by
  by_cases h : s = 0#64
  · left; subst h; exact ⟨rfl, by decide⟩
  · right
    obtain ⟨e, h2, _⟩ := Bv.list_cons s h
    refine ⟨Bv.ctz s, h, Bv.least_ctz s h, ?_, fun j hj => ?_⟩
    · rw [← Bv.mem_list, e]; simp
    · cases hb : s.getLsbD j with
      | false => rfl
      | true =>
        have h3 : j ∈ Bv.list s := Bv.mem_list.2 hb
        have h4 := Bv.list_sorted s
        rw [e] at h3 h4
        rcases List.mem_cons.1 h3 with rfl | h3
        · omega
        · have := List.rel_of_pairwise_cons h4 h3; omega
theorem bit_get (k i : Nat) (hk : k < 64) : (Bv.bit (k : Int)).getLsbD i = decide (i = k) := by
  have hb : Bv.bit (k : Int) = 1#64 <<< k := by unfold Bv.bit; rw [if_pos ⟨by omega, by omega⟩]; simp
  rw [hb, shift_get k i hk]
theorem from_step {n : Nat} (hn : n ≤ 64) (f : Nat → Nat → Bool) {a : Nat} {seen left : BitVec 64} (h : FromInv n f a seen left) {k : Nat} (hk : left.getLsbD k = true) :
    k < n ∧ FromInv n f a (seen ||| Bv.bit (k : Int)) ((left ||| row n (f k)) &&& ~~~(seen ||| Bv.bit (k : Int))) := by
  have hw := h.way k (.inr hk)
  have hkn := hw.right
  have hk64 : k < 64 := by omega
  have e1 : ∀ i, (seen ||| Bv.bit (k : Int)).getLsbD i = (seen.getLsbD i || decide (i = k)) := fun i => by rw [BitVec.getLsbD_or, bit_get k i hk64]
  have e2 : ∀ i, ((left ||| row n (f k)) &&& ~~~(seen ||| Bv.bit (k : Int))).getLsbD i = ((left.getLsbD i || (decide (i < n) && f k i)) && !(seen.getLsbD i || decide (i = k))) := fun i => by
    rw [getLsbD_andNot, BitVec.getLsbD_or, row_get hn, e1]
  have cover : ∀ y, (seen.getLsbD y = true ∨ left.getLsbD y = true ∨ (y < n ∧ f k y = true)) → (seen ||| Bv.bit (k : Int)).getLsbD y = true ∨ ((left ||| row n (f k)) &&& ~~~(seen ||| Bv.bit (k : Int))).getLsbD y = true := fun y hy => by
    rw [e1, e2]
    by_cases hs : seen.getLsbD y = true
    · simp [hs]
    · by_cases hyk : y = k
      · simp [hyk]
      · right
        simp only [Bool.not_eq_true] at hs
        rcases hy with hy | hy | hy
        · rw [hy] at hs; cases hs
        · simp [hs, hyk, hy]
        · simp [hs, hyk, hy.1, hy.2]
  refine ⟨hkn, ?_, ?_, ?_, ?_⟩
  · intro y hy
    rw [e1, e2] at hy
    simp only [Bool.or_eq_true, Bool.and_eq_true, decide_eq_true_eq] at hy
    rcases hy with (hy | rfl) | ⟨(hy | ⟨h1, h2⟩), _⟩
    · exact h.way y (.inl hy)
    · exact hw
    · exact h.way y (.inr hy)
    · exact hw.snoc h1 h2
  · intro y hy hf
    rcases h.first y hy hf with h1 | h1
    · exact cover y (.inl h1)
    · exact cover y (.inr (.inl h1))
  · intro x y hx hy hf
    rw [e1] at hx
    simp only [Bool.or_eq_true, decide_eq_true_eq] at hx
    rcases hx with hx | rfl
    · rcases h.next x y hx hy hf with h1 | h1
      · exact cover y (.inl h1)
      · exact cover y (.inr (.inl h1))
    · exact cover y (.inr (.inr ⟨hy, hf⟩))
  · intro y hy
    rw [e1] at hy
    rw [e2, hy]; simp
theorem from_end {n : Nat} (hn : n ≤ 64) (f : Nat → Nat → Bool) {a : Nat} {seen : BitVec 64} (h : FromInv n f a seen 0#64) : seen = row n (wayF n f a) := by
  apply Bv.ext
  intro i _
  rw [row_get hn, Bool.eq_iff_iff]
  simp only [Bool.and_eq_true, decide_eq_true_eq, way_iff]
  constructor
  · intro hs
    have := h.way i (.inl hs)
    exact ⟨this.right, this⟩
  · rintro ⟨_, hw⟩
    have key : ∀ x y, Way n f x y → (x = a ∨ seen.getLsbD x = true) → seen.getLsbD y = true := by
      intro x y w
      induction w with
      | edge hx hy hf =>
        rintro (rfl | hs)
        · rcases h.first _ hy hf with h1 | h1
          · exact h1
          · simp at h1
        · rcases h.next _ _ hs hy hf with h1 | h1
          · exact h1
          · simp at h1
      | cons hx hy hf _ ih =>
        rintro (rfl | hs)
        · rcases h.first _ hy hf with h1 | h1
          · exact ih (.inr h1)
          · simp at h1
        · rcases h.next _ _ hs hy hf with h1 | h1
          · exact ih (.inr h1)
          · simp at h1
    exact key a i hw (.inl rfl)
theorem from_iter {n : Nat} (hn : n ≤ 64) (f : Nat → Nat → Bool) (a : Nat) : ∀ (m : Nat) (seen left : BitVec 64), FromInv n f a seen left → ((List.range n).filter fun i => !seen.getLsbD i).length < m →
    Sh.iter (fun (p : (BitVec 64) × (BitVec 64)) => G.reach_From_b1 (gr n f) p.1 p.2) m (seen, left) = some (row n (wayF n f a)) := by
  intro m
  induction m with
  | zero => intro seen left _ h; omega
  | succ m ih =>
    intro seen left hI hm
    rcases least_spec left with ⟨rfl, h2⟩ | ⟨k, h1, h2, h3, _⟩
    · have hb : G.reach_From_b1 (gr n f) seen 0#64 = some (.inr seen) := by
        simp [G.reach_From_b1, h2, Sh.exit]
      simp only [Sh.iter, hb]
      rw [from_end hn f hI]
    · obtain ⟨hk, hI'⟩ := from_step hn f hI h3
      have hneg : ¬ ((k : Int) < 0) := by omega
      have hb : G.reach_From_b1 (gr n f) seen left = some (.inl (seen ||| Bv.bit (k : Int), (left ||| row n (f k)) &&& ~~~(seen ||| Bv.bit (k : Int)))) := by
        simp only [G.reach_From_b1, bits_Least, h2, Option.bind_some, hneg, decide_false, Bool.false_eq_true, if_false, bits_With, rows_idx hk, join_two, Sh.next]
      simp only [Sh.iter, hb]
      refine ih _ _ hI' ?_
      have hs : seen.getLsbD k = false := by
        cases hb : seen.getLsbD k with
        | false => rfl
        | true => have := hI.apart k hb; rw [h3] at this; cases this
      have := filter_lt (List.range n) (fun i => !seen.getLsbD i) (fun i => !(seen ||| Bv.bit (k : Int)).getLsbD i) (fun x hx => by
        rw [BitVec.getLsbD_or] at hx; simp at hx; simp [hx.1]) (k := k) (by simpa using hk) (by simp [hs]) (by rw [BitVec.getLsbD_or, bit_get k k (by omega)]; simp)
      omega
theorem from_start {n : Nat} (hn : n ≤ 64) (f : Nat → Nat → Bool) {a : Nat} (ha : a < n) : FromInv n f a 0#64 (row n (f a)) where
  way y hy := by
    rcases hy with hy | hy
    · simp at hy
    · rw [row_get hn] at hy
      simp only [Bool.and_eq_true, decide_eq_true_eq] at hy
      exact .edge ha hy.1 hy.2
  first y hy hf := by right; rw [row_get hn]; simp [hy, hf]
  next x y hx := by simp at hx
  apart y hy := by simp at hy
theorem reach_From {n : Nat} (hn : n ≤ 64) (f : Nat → Nat → Bool) {a : Nat} (ha : a < n) : G.reach_From (gr n f) (a : Int) = some (row n (wayF n f a)) := by
  unfold G.reach_From
  have h1 : ¬ (a : Int) < 0 := by omega
  have h2 : ¬ (n : Int) ≤ (a : Int) := by omega
  simp only [Right_gr hn, Option.bind_some, Bool.not_true, Bool.false_eq_true, if_false, h1, h2, decide_false, G.reach_From_j1, rows_idx ha, bits_Least]
  have h0 := from_start hn f ha
  rcases least_spec (row n (f a)) with ⟨e, h2⟩ | ⟨k, e1, h2, h3, _⟩
  · rw [h2]
    rw [e] at h0
    simp [from_end hn f h0]
  · obtain ⟨hk, hI'⟩ := from_step hn f h0 h3
    have hneg : ¬ ((k : Int) < 0) := by omega
    simp only [h2, hneg, decide_false, Bool.false_eq_true, if_false, bits_With, Option.bind_some, rows_idx hk, join_two]
    unfold Sh.loop
    refine from_iter hn f a Sh.FUEL _ _ hI' ?_
    have := List.length_filter_le (fun i => !(0#64 ||| Bv.bit (k : Int)).getLsbD i) (List.range n)
    rw [List.length_range] at this
    exact fuel_gt (by omega)
theorem reach_Close {n : Nat} (hn : n ≤ 64) (f : Nat → Nat → Bool) : G.reach_Close (gr n f) = some (gr n (wayF n f), 0) := by
  unfold G.reach_Close
  simp only [graph_New n hn, Option.bind_some, ne_eq, not_true_eq_false, decide_false, Bool.false_eq_true, if_false, Right_gr hn, Bool.not_true, G.reach_Close_j1]
  refine count (fun k => rows n (mixF (fun _ _ => false) (wayF n f) k)) n _ (fuel_gt (by omega)) (fun k hk => ?_) ?_ (by rw [mix_zero, zero_rows])
  · simp only [G.reach_Close_b1, dec_lt, hk, decide_true, if_true, reach_From hn f hk, rows_idx hk, Option.bind_some, set_at, mix_set hn _ _ hk, Sh.next, w64_succ (show k < 9223372036854775807 by omega)]
  · simp only [G.reach_Close_b1, Int.lt_irrefl, decide_false, Bool.false_eq_true, if_false, G.reach_Close_j2, exit_some, mix_all hn]
/-- Does some way lead back? -/
noncomputable def cycB (n : Nat) (f : Nat → Nat → Bool) : Bool := @decide (∃ x, Way n f x x) (Classical.propDecidable _)
theorem cyc_iff {n : Nat} {f : Nat → Nat → Bool} : cycB n f = true ↔ ∃ x, Way n f x x := by
  unfold cycB; exact @decide_eq_true_iff _ (Classical.propDecidable _)
theorem reach_Cyclic {n : Nat} (hn : n ≤ 64) (f : Nat → Nat → Bool) : G.reach_Cyclic (gr n f) = some (cycB n f) := by
  unfold G.reach_Cyclic
  refine (scan0 n (fun k => !wayF n f k k) false true (fuel_gt (by omega)) (fun k hk => ?_) ?_).trans ?_
  · simp only [G.reach_Cyclic_b1, Right_gr hn, Option.bind_some, if_true, dec_lt, hk, decide_true, G.reach_Cyclic_j2, reach_From hn f hk, bits_Has, row_has hn _ hk, exit_some, Sh.next, w64_succ (show k < 9223372036854775807 by omega)]
    cases wayF n f k k <;> rfl
  · simp only [G.reach_Cyclic_b1, Right_gr hn, Option.bind_some, if_true, Int.lt_irrefl, decide_false, G.reach_Cyclic_j2, Bool.false_eq_true, if_false, G.reach_Cyclic_j1, exit_some]
  · congr 1
    by_cases h : ∀ k, k < n → (!wayF n f k k) = true
    · rw [if_pos h]
      symm
      rw [← Bool.not_eq_true, cyc_iff]
      rintro ⟨x, hx⟩
      have := h x hx.left
      simp [way_iff.2 hx] at this
    · rw [if_neg h]
      symm
      rw [cyc_iff]
      apply Classical.byContradiction
      intro hno
      apply h
      intro k hk
      cases hb : wayF n f k k with
      | false => rfl
      | true => exact absurd ⟨k, way_iff.1 hb⟩ hno
end Pl
end

section
/- The statements on graphs. -/

namespace Pl
open Go Go.Av

end Pl
end

section
/- The statements on where ways lead. -/

namespace Pl
open Go Go.Av

/-! ### The reference -/
/-! ### The statements -/
end Pl
end

section
/- The reference's graphs of a history: what must come ahead of what. -/
namespace Pl
open Go Go.Av

theorem inr_nat {h : G.api_Hist} {x : Nat} : inr h (x : Int) = true ↔ x < h.Txns.length := by rw [inr_iff]; omega
theorem idx_nat {h : G.api_Hist} {x : Nat} (hx : x < h.Txns.length) : Sh.idx h.Txns (x : Int) = some (tx h x) := idx_tx (inr_nat.2 hx)
def soF (h : G.api_Hist) (x y : Nat) : Bool := decide (x < y) && decide ((tx h x).Session = (tx h y).Session)
/-! ### Choices -/
/-! ### All together -/
end Pl
end

section
/- What follows must be so: whoever chooses all pairs, and lets nothing lead back, chooses it too. -/
namespace Pl
open Go Go.Av

end Pl
end

section
/- All pairs, and all ways to choose them. -/

namespace Pl
open Go Go.Av

def writers (h : G.api_Hist) (key : Int) : List Int := if right h then ((List.range h.Txns.length).filter fun t : Nat => hasW (tx h t) key).map fun t : Nat => (t : Int) else []
def pairsI (key : Int) (ws : List Int) (i : Nat) : List G.api_Choice := (ws.drop (i + 1)).map fun w => ⟨key, ws.getD i 0, w⟩
def pairsK (key : Int) (ws : List Int) : List G.api_Choice := (List.range ws.length).flatMap (pairsI key ws)
def pairs (h : G.api_Hist) : List G.api_Choice := (List.range 16).flatMap fun k : Nat => pairsK k (writers h k)
theorem flat_succ {α : Type} (f : Nat → List α) (k : Nat) : (List.range (k + 1)).flatMap f = (List.range k).flatMap f ++ f k := by
  rw [List.range_succ, List.flatMap_append]; simp
/-! ### All ways to choose -/
inductive Sel : List G.api_Choice → List G.api_Choice → Prop
  | nil : Sel [] []
  | so {x : G.api_Choice} {r s : List G.api_Choice} : Sel r s → Sel (x :: r) (x :: s)
  | not {x : G.api_Choice} {r s : List G.api_Choice} : Sel r s → Sel (x :: r) (back x :: s)
theorem Sel.len {r s : List G.api_Choice} (h : Sel r s) : s.length = r.length := by induction h <;> simp_all
theorem Sel.mem {r s : List G.api_Choice} (h : Sel r s) : ∀ c ∈ r, c ∈ s ∨ back c ∈ s := by
  induction h with
  | nil => intro c hc; cases hc
  | so _ ih =>
    intro c hc
    rcases List.mem_cons.1 hc with rfl | hc
    · exact .inl (List.mem_cons_self ..)
    · exact (ih c hc).imp (List.mem_cons_of_mem _) (List.mem_cons_of_mem _)
  | not _ ih =>
    intro c hc
    rcases List.mem_cons.1 hc with rfl | hc
    · exact .inr (List.mem_cons_self ..)
    · exact (ih c hc).imp (List.mem_cons_of_mem _) (List.mem_cons_of_mem _)
theorem Sel.all {r s : List G.api_Choice} (h : Sel r s) {p : G.api_Choice → Prop} (h1 : ∀ c ∈ r, p c) (h2 : ∀ c, p c → p (back c)) : ∀ c ∈ s, p c := by
  induction h with
  | nil => intro c hc; cases hc
  | so _ ih =>
    intro c hc
    rcases List.mem_cons.1 hc with rfl | hc
    · exact h1 _ (List.mem_cons_self ..)
    · exact ih (fun c hc => h1 c (List.mem_cons_of_mem _ hc)) c hc
  | not _ ih =>
    intro c hc
    rcases List.mem_cons.1 hc with rfl | hc
    · exact h2 _ (h1 _ (List.mem_cons_self ..))
    · exact ih (fun c hc => h1 c (List.mem_cons_of_mem _ hc)) c hc
end Pl
end

section
/- What is left of sorted numbers when what comes twice is left out. -/
namespace Pl
open Go Go.Av

end Pl
end

section
/- Who writes, and who reads, each key: what the program answers. -/
namespace Pl
open Go Go.Av

theorem right_le {h : G.api_Hist} (hr : right h = true) : h.Txns.length ≤ 32 := by
  simp only [right, Bool.and_eq_true, decide_eq_true_eq] at hr; exact hr.1
/-! ### Who writes a key -/
/-! ### Who reads a key from somebody -/
/-! ### All keys -/
def keysN (h : G.api_Hist) : List Nat := (List.range 16).filter fun k : Nat => h.Txns.any fun t => hasW t k
def keys (h : G.api_Hist) : List Int := if right h then (keysN h).map fun k : Nat => (k : Int) else []
/-! ### All pairs -/
end Pl
end

section
/- What is known of a history's order, and what follows from choices: the graphs that the program makes. -/
namespace Pl
open Go Go.Av

theorem gr_ext {n : Nat} (hn : n ≤ 64) {f g : Nat → Nat → Bool} (h : ∀ x y, x < n → y < n → f x y = g x y) : gr n f = gr n g := by
  have := (rows_ext hn (f := f) (h := g)).2 h
  unfold gr
  rw [this]
/-- A graph with some edges more, none from a node to itself. -/
def addL (f : Nat → Nat → Bool) (l : List (Nat × Nat)) : Nat → Nat → Bool := fun x y => f x y || l.any fun e => decide (e.1 ≠ e.2) && decide (e.1 = x) && decide (e.2 = y)
theorem addL_nil (f : Nat → Nat → Bool) : addL f [] = f := by funext x y; simp [addL]
theorem addL_snoc {n : Nat} (hn : n ≤ 64) (f : Nat → Nat → Bool) (l : List (Nat × Nat)) {a b : Nat} (hab : a ≠ b) : gr n (addF (addL f l) a b) = gr n (addL f (l ++ [(a, b)])) := by
  refine gr_ext hn fun x y _ _ => ?_
  unfold addF addL
  rw [List.any_append, List.any_cons, List.any_nil, Bool.or_false, Bool.or_assoc]
  congr 2
  rw [Bool.eq_iff_iff]
  simp only [decide_eq_true_eq, Bool.and_eq_true]
  constructor
  · rintro ⟨rfl, rfl⟩; exact ⟨⟨hab, rfl⟩, rfl⟩
  · rintro ⟨⟨_, h1⟩, h2⟩; exact ⟨h1.symm, h2.symm⟩
theorem addL_same {n : Nat} (hn : n ≤ 64) (f : Nat → Nat → Bool) (l : List (Nat × Nat)) (a : Nat) : gr n (addL f l) = gr n (addL f (l ++ [(a, a)])) := by
  refine gr_ext hn fun x y _ _ => ?_
  unfold addL
  rw [List.any_append]; simp
theorem pLaid {n : Nat} (hn : n ≤ 64) (f : Nat → Nat → Bool) (l : List (Nat × Nat)) {a b : Nat} (ha : a < n) (hb : b < n) : G.known_laid_1__2 a b (gr n (addL f l)) = some (gr n (addL f (l ++ [(a, b)]))) := by
  unfold G.known_laid_1__2 G.known_laid_1__2_j1
  have h0 : (0 : Int) ≤ (a : Int) := by omega
  simp only [h0, decide_true, if_true]
  by_cases hab : a = b
  · subst hab
    simp only [ne_eq, not_true_eq_false, decide_false, Bool.false_eq_true, if_false]
    rw [← addL_same hn]
  · have h1 : ((a : Int) ≠ (b : Int)) := by omega
    simp only [h1, ne_eq, not_false_eq_true, decide_true, if_true, graph_Add hn _ ha hb, Option.bind_some]
    rw [addL_snoc hn f l hab]
def no0 : Nat → Nat → Bool := fun _ _ => false
theorem gr_zero (n : Nat) : (⟨(n : Int), List.replicate n 0#64⟩ : G.graph_Graph) = gr n (addL no0 []) := by
  rw [addL_nil, zero_rows]; rfl
def g0 : G.graph_Graph := ⟨0, []⟩

/-! ### The sessions' order -/
def soL (h : G.api_Hist) (t : Nat) : List (Nat × Nat) := ((List.range t).filter fun j : Nat => decide ((tx h j).Session = (tx h t).Session)).map fun j => (j, t)
theorem take_idx {h : G.api_Hist} {t j : Nat} (ht : t < h.Txns.length) (hj : j < t) : Sh.idx (h.Txns.take t) (j : Int) = some (tx h j) := by
  have h1 : j < (h.Txns.take t).length := by simp; omega
  rw [idx_at h1]
  have h2 := idx_nat (h := h) (x := j) (by omega)
  rw [idx_at (show j < h.Txns.length by omega)] at h2
  rw [← h2]; simp
theorem pSo_loop {h : G.api_Hist} (hn : h.Txns.length ≤ 32) : G.known_So_1__known_laid_1_2 h (gr h.Txns.length (addL no0 [])) = some (gr h.Txns.length (addL no0 ((List.range h.Txns.length).flatMap (soL h)))) := by
  unfold G.known_So_1__known_laid_1_2
  refine count_exit (fun k => gr h.Txns.length (addL no0 ((List.range k).flatMap (soL h)))) h.Txns.length _ (fuel_gt (by omega)) (fun t ht => ?_) ?_ rfl
  · simp only [G.known_So_1__known_laid_1_2_b1, dec_lt, ht, decide_true, if_true, idx_nat ht, Option.bind_some]
    rw [show Sh.sub h.Txns 0 (t : Int) = some (h.Txns.take t) by have := sub_ok (l := h.Txns) (m := 0) (k := t) (by omega) (by omega); simpa using this]
    simp only [Option.bind_some]
    refine count_exit (fun i => gr h.Txns.length (addL no0 ((List.range t).flatMap (soL h) ++ (((List.range i).filter fun j : Nat => decide ((tx h j).Session = (tx h t).Session)).map fun j => (j, t))))) t _ (fuel_gt (by omega)) (fun j hj => ?_) ?_ (by simp)
    · have hl : (Sh.len (h.Txns.take t)) = ((t : Nat) : Int) := by simp [Sh.len]; omega
      simp only [G.known_So_1__known_laid_1_2_b2, hl, dec_lt, hj, decide_true, if_true, take_idx ht hj, Option.bind_some, G.known_So_1__known_laid_1_2_j2, w64_succ (show j < 9223372036854775807 by omega), Sh.next]
      rw [List.range_succ, List.filter_append, List.map_append, ← List.append_assoc]
      by_cases hs : (tx h j).Session = (tx h t).Session
      · simp only [hs, decide_true, if_true, pLaid (show h.Txns.length ≤ 64 by omega) _ _ (show j < h.Txns.length by omega) ht, Option.bind_some]
        simp [hs]
      · simp [hs]
    · have hl : (Sh.len (h.Txns.take t)) = ((t : Nat) : Int) := by simp [Sh.len]; omega
      simp only [G.known_So_1__known_laid_1_2_b2, hl, dec_lt, Nat.lt_irrefl, decide_false, Bool.false_eq_true, if_false, G.known_So_1__known_laid_1_2_j1, w64_succ (show t < 9223372036854775807 by omega), Sh.next, flat_succ]
      rfl
  · simp only [G.known_So_1__known_laid_1_2_b1, dec_lt, Nat.lt_irrefl, decide_false, Bool.false_eq_true, if_false]
theorem so_eq {h : G.api_Hist} (hn : h.Txns.length ≤ 64) : gr h.Txns.length (addL no0 ((List.range h.Txns.length).flatMap (soL h))) = gr h.Txns.length (soF h) := by
  refine gr_ext hn fun x y hx hy => ?_
  unfold addL soF soL no0
  rw [Bool.false_or, Bool.eq_iff_iff]
  simp only [List.any_eq_true, List.mem_flatMap, List.mem_range, List.mem_map, List.mem_filter, decide_eq_true_eq, Bool.and_eq_true]
  constructor
  · rintro ⟨e, ⟨t, ht, j, ⟨hj, hs⟩, rfl⟩, ⟨h1, h2⟩, h3⟩
    simp only at h1 h2 h3
    subst h2 h3
    exact ⟨hj, hs⟩
  · rintro ⟨h1, h2⟩
    exact ⟨(x, y), ⟨y, hy, x, ⟨h1, h2⟩, rfl⟩, ⟨by simp; omega, rfl⟩, rfl⟩
def soG (h : G.api_Hist) : G.graph_Graph := if right h then gr h.Txns.length (soF h) else g0
theorem pSo {h : G.api_Hist} (hf : Fits h) : G.known_So h = some (soG h) := by
  unfold G.known_So G.known_laid__known_So_1 soG
  rw [pRight hf]
  simp only [Option.bind_some]
  cases hr : right h with
  | false => rfl
  | true =>
    have hn := right_le hr
    simp only [Bool.not_true, Bool.false_eq_true, if_false, if_true]
    rw [show (Sh.len h.Txns) = ((h.Txns.length : Nat) : Int) from rfl, graph_New _ (by omega)]
    simp only [Option.bind_some]
    rw [gr_zero, pSo_loop hn]
    simp only [Option.bind_some]
    rw [so_eq (by omega)]

/-! ### Who reads from whom -/
/-! ### Who reads what was there at first -/
end Pl
end

section
/- What follows from choices: the graphs that the program makes. -/
namespace Pl
open Go Go.Av

end Pl
end

section
/- From whom anybody reads a key: what the program answers. -/
namespace Pl
open Go Go.Av

end Pl
end

section
/- Law 17: what is known of a history's order. -/
namespace Pl
open Go Go.Av

theorem awake17 : G.inquestlaw17_awake = some true := by kernel_rfl
theorem plain_gr (n : Nat) (f : Nat → Nat → Bool) : G.inquestlaw17_plain (gr n f) = some (rg n f) := rfl
/-! ### Nobody leads to themselves -/
theorem so_self (h : G.api_Hist) (x : Nat) : soF h x x = false := by simp [soF]
/-! ### Reads -/
/-! ### The sessions' order -/
theorem so_way {h : G.api_Hist} {x y : Nat} (w : Way h.Txns.length (soF h) x y) : soF h x y = true := by
  induction w with
  | edge _ _ h1 => exact h1
  | cons _ _ h1 _ ih =>
    unfold soF at *
    simp only [Bool.and_eq_true, decide_eq_true_eq] at *
    exact ⟨by omega, h1.2.trans ih.2⟩
theorem KnownSo (h : G.api_Hist) (a b : Int) : G.inquestlaw17_KnownSo h a b = some true := by
  unfold G.inquestlaw17_KnownSo
  rw [awake17, rFew (by omega)]
  simp only [Option.bind_some, Bool.not_true, Bool.false_eq_true, if_false]
  cases hF : few h 40 with
  | false => rfl
  | true =>
    have hf := few_fits (by omega) hF
    simp only [Bool.not_true, Bool.false_eq_true, if_false, pRight hf, Option.bind_some]
    cases hr : right h with
    | false => rfl
    | true =>
      have hn := right_le hr
      have hn64 : h.Txns.length ≤ 64 := by omega
      have e1 : soG h = gr h.Txns.length (soF h) := by unfold soG; rw [if_pos hr]
      have e2 : gr h.Txns.length (wayF h.Txns.length (soF h)) = gr h.Txns.length (soF h) := gr_ext hn64 fun x y hx hy => by
        rw [Bool.eq_iff_iff, way_iff]
        exact ⟨so_way, fun h1 => .edge hx hy h1⟩
      have e3 : cycB h.Txns.length (soF h) = false := by
        cases hc : cycB h.Txns.length (soF h) with
        | false => rfl
        | true =>
          obtain ⟨x, w⟩ := cyc_iff.1 hc
          have := so_way w
          rw [so_self] at this; cases this
      simp only [G.inquestlaw17_KnownSo_j1, Bool.not_true, Bool.false_eq_true, if_false, pSo hf, e1, reach_Close hn64, e2, Option.bind_some, ne_eq, not_true_eq_false, decide_false, plain_gr, same_self hn64, reach_Cyclic hn64, e3]
      simp only [G.inquestlaw17_KnownSo_j2, Bool.false_eq_true, if_false]
      have out : ¬ (0 ≤ a ∧ a < (h.Txns.length : Int) ∧ 0 ≤ b ∧ b < (h.Txns.length : Int)) → hasB h.Txns.length (soF h) a b = false := fun hc => by
        unfold hasB; rw [decide_eq_false hc]; rfl
      by_cases c1 : a < 0
      · rw [decide_eq_true c1]
        simp only [if_true, G.inquestlaw17_KnownSo_j3, graph_Has hn64, out (by omega), Option.bind_some, Bool.not_false]
      by_cases c2 : (h.Txns.length : Int) ≤ a
      · rw [decide_eq_false c1, decide_eq_true (show Sh.len h.Txns ≤ a from c2)]
        simp only [Bool.false_eq_true, if_false, if_true, G.inquestlaw17_KnownSo_j3, graph_Has hn64, out (by omega), Option.bind_some, Bool.not_false]
      by_cases c3 : b < 0
      · rw [decide_eq_false c1, decide_eq_false (show ¬ Sh.len h.Txns ≤ a from c2), decide_eq_true c3]
        simp only [Bool.false_eq_true, if_false, if_true, G.inquestlaw17_KnownSo_j3, graph_Has hn64, out (by omega), Option.bind_some, Bool.not_false]
      by_cases c4 : (h.Txns.length : Int) ≤ b
      · rw [decide_eq_false c1, decide_eq_false (show ¬ Sh.len h.Txns ≤ a from c2), decide_eq_false c3, decide_eq_true (show Sh.len h.Txns ≤ b from c4)]
        simp only [Bool.false_eq_true, if_false, if_true, G.inquestlaw17_KnownSo_j3, graph_Has hn64, out (by omega), Option.bind_some, Bool.not_false]
      rw [decide_eq_false c1, decide_eq_false (show ¬ Sh.len h.Txns ≤ a from c2), decide_eq_false c3, decide_eq_false (show ¬ Sh.len h.Txns ≤ b from c4)]
      obtain ⟨x, rfl⟩ : ∃ x : Nat, a = (x : Int) := ⟨a.toNat, by omega⟩
      obtain ⟨y, rfl⟩ : ∃ y : Nat, b = (y : Int) := ⟨b.toNat, by omega⟩
      have hx : x < h.Txns.length := by omega
      have hy : y < h.Txns.length := by omega
      simp only [Bool.false_eq_true, if_false, G.inquestlaw17_KnownSo_j3, graph_Has hn64, hasB_nat hx hy, Option.bind_some, idx_nat hx, idx_nat hy]
      unfold soF
      by_cases hxy : x < y
      · have : (x : Int) < (y : Int) := by omega
        simp [hxy]
      · have : ¬ (x : Int) < (y : Int) := by omega
        simp [hxy]
end Pl
end
