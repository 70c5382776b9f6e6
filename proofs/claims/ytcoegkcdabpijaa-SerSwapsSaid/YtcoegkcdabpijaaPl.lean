/- What the plain functions answer. -/
import Derived.Test.YtcoegkcdabpijaaBase1
import Derived.Test.YtcoegkcdabpijaaSh
import Derived.KernelRfl
set_option linter.unusedSimpArgs false
set_option linter.unusedVariables false
section
/- What is used to reason about the plain functions. -/
namespace Pl
open Go Go.Av

theorem w64_id {n : Int} (h1 : -9223372036854775808 ≤ n) (h2 : n < 9223372036854775808) : w64 n = n := i64_wrap h1 h2
theorem idx_at {α : Type} {l : List α} {k : Nat} (h : k < l.length) : Sh.idx l (k : Int) = some l[k] := by
  simp [Sh.idx, h]
theorem idx_of {α : Type} {l : List α} {i : Int} (h0 : 0 ≤ i) (h : i < l.length) : Sh.idx l i = some (l[i.toNat]'(by omega)) := by
  unfold Sh.idx
  rw [if_pos h0]
  exact List.getElem?_eq_getElem (by omega)
theorem app_ok {α : Type} {b : Nat} {l m : List α} (h : (l.length + m.length) * b ≤ 140737488355328) : Sh.app b l m = some (l ++ m) := by
  simp [Sh.app, h]
theorem mk_ok {α : Type} {b m : Nat} {z : α} (h : b * m ≤ 140737488355328) (h2 : m ≤ 4611686018427387904) : Sh.mk b (m : Int) (m : Int) z = some (List.replicate m z) := by
  have : ((b : Int) * (m : Int)) ≤ 140737488355328 := by
    rw [← Int.natCast_mul]; omega
  unfold Sh.mk
  rw [if_pos ⟨by omega, by omega, this, by omega⟩]
  simp
theorem set_at {α : Type} (l : List α) (k : Nat) (x : α) : Sh.set l (k : Int) x = l.set k x := by simp [Sh.set]
theorem fuel_gt {n : Nat} (h : n < 9223372036854775808) : n < Sh.FUEL := h
theorem w64_succ {k : Nat} (h : k < 9223372036854775807) : w64 ((k : Int) + 1) = ((k + 1 : Nat) : Int) := by
  rw [w64_id (by omega) (by omega)]; omega
theorem len_eq {α : Type} (l : List α) : Sh.len l = (l.length : Int) := rfl
theorem dec_lt {k n : Nat} : decide ((k : Int) < (n : Int)) = decide (k < n) := by
  congr 1; exact propext (by omega)
end Pl
namespace Pl
open Go Go.Av
theorem scan {α : Type} {b : Int → Option (Int ⊕ α)} (s m : Nat) (p : Nat → Bool) (A B : α) (hsm : s ≤ m) (hm : m < Sh.FUEL) (h : ∀ k, s ≤ k → k < m → b (k : Int) = if p k then some (.inl ((k + 1 : Nat) : Int)) else some (.inr B)) (hr : b (m : Int) = some (.inr A)) :
    Sh.loop b (s : Int) = some (if ∀ k, k < m → s ≤ k → p k = true then A else B) := by
  by_cases hall : ∀ k, k < m → s ≤ k → p k = true
  · rw [if_pos hall]
    refine Sh.loop_run (fun k => ((s + k : Nat) : Int)) (m - s) A (by omega) (fun k hk => ?_) ?_
    · rw [h (s + k) (by omega) (by omega), if_pos (hall _ (by omega) (by omega))]; rfl
    · rw [show s + (m - s) = m by omega]; exact hr
  · rw [if_neg hall]
    have hex : ∃ k, s ≤ k ∧ k < m ∧ p k = false := by
      apply Classical.byContradiction
      intro hn
      exact hall (fun k h2 h1 => by
        cases hp : p k with
        | true => rfl
        | false => exact absurd ⟨k, h1, h2, hp⟩ hn)
    obtain ⟨k, hk, hmin⟩ := exists_least _ hex
    refine Sh.loop_run (fun q => ((s + q : Nat) : Int)) (k - s) B (by omega) (fun q hq => ?_) ?_
    · have : p (s + q) = true := by
        cases hp : p (s + q) with
        | true => rfl
        | false => have := hmin (s + q) ⟨by omega, by omega, hp⟩; omega
      rw [h (s + q) (by omega) (by omega), if_pos this]; rfl
    · rw [show s + (k - s) = k by omega, h k hk.1 hk.2.1, if_neg (by rw [hk.2.2]; simp)]
theorem scan0 {α : Type} {b : Int → Option (Int ⊕ α)} (m : Nat) (p : Nat → Bool) (A B : α) (hm : m < Sh.FUEL) (h : ∀ k, k < m → b (k : Int) = if p k then some (.inl ((k + 1 : Nat) : Int)) else some (.inr B)) (hr : b (m : Int) = some (.inr A)) :
    Sh.loop b 0 = some (if ∀ k, k < m → p k = true then A else B) := by
  have := scan 0 m p A B (by omega) hm (fun k _ hk => h k hk) hr
  simpa using this
theorem scan_true {b : Int → Option (Int ⊕ Bool)} (m : Nat) (p : Nat → Bool) (hm : m < Sh.FUEL) (h : ∀ k, k < m → b (k : Int) = if p k then some (.inl ((k + 1 : Nat) : Int)) else some (.inr false)) (hr : b (m : Int) = some (.inr true)) :
    Sh.loop b 0 = some (decide (∀ k, k < m → p k = true)) := by
  rw [scan0 m p true false hm h hr]
  by_cases hq : ∀ k, k < m → p k = true
  · rw [if_pos hq, decide_eq_true hq]
  · rw [if_neg hq, decide_eq_false hq]
end Pl
namespace Pl
open Go Go.Av
theorem run_exit {σ α : Type} {b : σ → Option (σ ⊕ α)} (S : Nat → σ) (m : Nat) (X : Option α) (hm : m < Sh.FUEL) (h : ∀ k, k < m → b (S k) = some (.inl (S (k + 1)))) (hr : b (S m) = Sh.exit X) {s : σ} (hs : s = S 0) : Sh.loop b s = X := by
  subst hs
  unfold Sh.loop
  rw [show Sh.FUEL = m + ((Sh.FUEL - m - 1) + 1) by omega, Sh.iter_go S m h]
  simp only [Sh.iter, hr]
  cases X <;> rfl
end Pl
end

section
/- Loops over lists. -/
namespace Pl
open Go Go.Av

def foldE {σ α β : Type} (step : Nat → σ → α → σ ⊕ β) (X : σ → Option β) : Nat → List α → σ → Option β
  | _, [], s => X s
  | k, x :: l, s => match step k s x with
    | .inl s' => foldE step X (k + 1) l s'
    | .inr r => some r

theorem loop_step {σ β : Type} {b : σ → Option (σ ⊕ β)} {n : Nat} {s s' : σ} (h : b s = some (.inl s')) : Sh.iter b (n + 1) s = Sh.iter b n s' := by simp [Sh.iter, h]
theorem loop_stop {σ β : Type} {b : σ → Option (σ ⊕ β)} {n : Nat} {s : σ} {r : β} (h : b s = some (.inr r)) : Sh.iter b (n + 1) s = some r := by simp [Sh.iter, h]
theorem loop_exit {σ β : Type} {b : σ → Option (σ ⊕ β)} {n : Nat} {s : σ} {X : Option β} (h : b s = Sh.exit X) : Sh.iter b (n + 1) s = X := by cases X <;> simp [Sh.iter, h, Sh.exit]

theorem iter_fold {σ τ α β : Type} {b : τ → Option (τ ⊕ β)} (S : σ → Nat → τ) (step : Nat → σ → α → σ ⊕ β) (X : σ → Option β) (l0 : List α)
    (h : ∀ (k : Nat) (s : σ) (hk : k < l0.length), b (S s k) = match step k s l0[k] with | .inl s' => some (.inl (S s' (k + 1))) | .inr r => some (.inr r))
    (he : ∀ s, b (S s l0.length) = Sh.exit (X s)) : ∀ (l : List α) (k n : Nat) (s : σ), l0.drop k = l → k ≤ l0.length → l.length < n → Sh.iter b n (S s k) = foldE step X k l s := by
  intro l
  induction l with
  | nil =>
    intro k n s hl hk hn
    have hk2 : k = l0.length := by
      have : (l0.drop k).length = 0 := by rw [hl]; rfl
      simp at this; omega
    subst hk2
    obtain ⟨n, rfl⟩ : ∃ m, n = m + 1 := ⟨n - 1, by simp at hn; omega⟩
    exact loop_exit (he s)
  | cons x l ih =>
    intro k n s hl hk hn
    have hlen : (l0.drop k).length = l.length + 1 := by rw [hl]; rfl
    have hk2 : k < l0.length := by simp at hlen; omega
    obtain ⟨n, rfl⟩ : ∃ m, n = m + 1 := ⟨n - 1, by simp at hn; omega⟩
    have hx : l0[k] = x ∧ l0.drop (k + 1) = l := by
      rw [List.drop_eq_getElem_cons hk2] at hl
      simp only [List.cons.injEq] at hl
      exact hl
    have hb := h k s hk2
    rw [hx.1] at hb
    simp only [foldE]
    cases hs : step k s x with
    | inl s' =>
      rw [hs] at hb
      rw [loop_step hb]
      exact ih (k + 1) n s' hx.2 hk2 (by simp at hn; omega)
    | inr r =>
      rw [hs] at hb
      exact loop_stop hb

theorem loop_fold {σ τ α β : Type} {b : τ → Option (τ ⊕ β)} (S : σ → Nat → τ) (step : Nat → σ → α → σ ⊕ β) (X : σ → Option β) (l : List α) (hm : l.length < Sh.FUEL)
    (h : ∀ (k : Nat) (s : σ) (hk : k < l.length), b (S s k) = match step k s l[k] with | .inl s' => some (.inl (S s' (k + 1))) | .inr r => some (.inr r))
    (he : ∀ s, b (S s l.length) = Sh.exit (X s)) (s : σ) {t : τ} (ht : t = S s 0) : Sh.loop b t = foldE step X 0 l s := by
  subst ht
  exact iter_fold S step X l h he l 0 Sh.FUEL s rfl (Nat.zero_le _) hm

theorem find_loop {α β : Type} {b : Int → Option (Int ⊕ β)} (l : List α) (p : α → Bool) (A : Nat → β) (X : Option β) (hm : l.length < Sh.FUEL)
    (h : ∀ (k : Nat) (hk : k < l.length), b (k : Int) = if p l[k] then some (.inr (A k)) else some (.inl ((k + 1 : Nat) : Int)))
    (he : b (l.length : Int) = Sh.exit X) : Sh.loop b 0 = (l.findIdx? p).elim X (fun k => some (A k)) := by
  rw [loop_fold (σ := Unit) (α := α) (fun _ k => (k : Int)) (fun k _ x => if p x then .inr (A k) else .inl ()) (fun _ => X) l hm (fun k s hk => ?_) (fun _ => he) () (t := (0 : Int)) rfl]
  · have key : ∀ (l : List α) (k : Nat), foldE (fun k (_ : Unit) x => if p x then Sum.inr (A k) else Sum.inl ()) (fun _ => X) k l () = (l.findIdx? p).elim X (fun i => some (A (k + i))) := by
      intro l
      induction l with
      | nil => intro k; simp [foldE]
      | cons x l ih =>
        intro k
        simp only [foldE, List.findIdx?_cons]
        cases hp : p x with
        | true => simp
        | false =>
          simp only [Bool.false_eq_true, if_false]
          rw [ih (k + 1)]
          cases l.findIdx? p with
          | none => rfl
          | some i => simp only [Option.map_some, Option.elim_some]; congr 2; omega
    rw [key l 0]
    simp
  · rw [h k hk]
    cases p l[k] <;> rfl

theorem any_loop {α β : Type} {b : Int → Option (Int ⊕ β)} (l : List α) (p : α → Bool) (A : β) (X : Option β) (hm : l.length < Sh.FUEL)
    (h : ∀ (k : Nat) (hk : k < l.length), b (k : Int) = if p l[k] then some (.inr A) else some (.inl ((k + 1 : Nat) : Int)))
    (he : b (l.length : Int) = Sh.exit X) : Sh.loop b 0 = if l.any p then some A else X := by
  rw [find_loop l p (fun _ => A) X hm h he]
  cases hf : l.findIdx? p with
  | none =>
    have : l.any p = false := by
      rw [List.findIdx?_eq_none_iff] at hf
      rw [List.any_eq_false]
      intro x hx
      simpa using hf x hx
    rw [this]; rfl
  | some i =>
    have : l.any p = true := by
      rw [List.any_eq_true]
      rw [List.findIdx?_eq_some_iff_getElem] at hf
      obtain ⟨hi, hp, _⟩ := hf
      exact ⟨l[i], List.getElem_mem hi, hp⟩
    rw [this]; rfl

def pos {α : Type} (l : List α) (p : α → Bool) : Int := (l.findIdx? p).elim (-1) (fun k => (k : Int))
theorem pos_some {α : Type} (l : List α) (p : α → Bool) : (l.findIdx? p).elim (some (-1 : Int)) (fun k => some (k : Int)) = some (pos l p) := by unfold pos; cases l.findIdx? p <;> rfl
theorem contains_of_find {α : Type} (l : List α) (p : α → Bool) : decide ((0 : Int) ≤ pos l p) = l.any p := by
  unfold pos
  cases hf : l.findIdx? p with
  | none =>
    have : l.any p = false := by
      rw [List.findIdx?_eq_none_iff] at hf
      rw [List.any_eq_false]
      intro x hx
      simpa using hf x hx
    rw [this]; rfl
  | some i =>
    have : l.any p = true := by
      rw [List.any_eq_true]
      rw [List.findIdx?_eq_some_iff_getElem] at hf
      obtain ⟨hi, hp, _⟩ := hf
      exact ⟨l[i], List.getElem_mem hi, hp⟩
    rw [this]; simp
end Pl
end

section
/- Whether a history may be. -/
namespace Pl
open Go Go.Av

theorem pIdx {l : List Int} (hl : l.length < 9223372036854775808) (v : Int) : G.slices_Index_int_int l v = some (pos l (fun x => decide (v = x))) := by
  unfold G.slices_Index_int_int
  rw [find_loop l (fun x => decide (v = x)) (fun k => (k : Int)) (some (-1)) (fuel_gt hl) (fun k hk => ?_) ?_, pos_some]
  · simp [G.slices_Index_int_int_b1, G.slices_Index_int_int_j1]
  · simp only [G.slices_Index_int_int_b1, dec_lt, hk, decide_true, if_true, idx_at hk, Option.bind_some, w64_succ (show k < 9223372036854775807 by omega)]
    rfl
theorem pHas {l : List Int} (hl : l.length < 9223372036854775808) (v : Int) : G.slices_Contains_int_int l v = some (l.any (fun x => decide (v = x))) := by
  unfold G.slices_Contains_int_int
  rw [pIdx hl, Option.bind_some, contains_of_find]

def rising : Int → List Int → Bool
  | _, [] => true
  | last, x :: l => decide (last < x) && decide (x < 16) && rising x l
def hasW (t : G.api_Txn) (k : Int) : Bool := t.Writes.any (fun x => decide (k = x))
def there (h : G.api_Hist) (n : Int) (x : G.api_Take) : Bool :=
  decide (x.From = -1) || (decide (0 ≤ x.From) && decide (x.From < (h.Txns.length : Int)) && decide (x.From ≠ n) && match h.Txns[x.From.toNat]? with | some t => hasW t x.Key | none => false)
def takes (h : G.api_Hist) (n : Int) : Int → List G.api_Take → Bool
  | _, [] => true
  | last, x :: l => decide (last < x.Key) && decide (x.Key < 16) && there h n x && takes h n x.Key l
def okT (h : G.api_Hist) (n : Int) (t : G.api_Txn) : Bool := rising (-1) t.Writes && takes h n (-1) t.Reads && decide (0 ≤ t.Session) && decide (t.Session < 8)
def okAll (h : G.api_Hist) : Nat → List G.api_Txn → Bool
  | _, [] => true
  | n, t :: l => okT h n t && okAll h (n + 1) l
def right (h : G.api_Hist) : Bool := decide (h.Txns.length ≤ 32) && okAll h 0 h.Txns

structure Fits (h : G.api_Hist) : Prop where
  txns : h.Txns.length < 9223372036854775807
  writes : ∀ t ∈ h.Txns, t.Writes.length < 9223372036854775807
  reads : ∀ t ∈ h.Txns, t.Reads.length < 9223372036854775807

theorem y1 (c y : Bool) : G.hist_Right__r c y = some (if y then (c, true) else (false, false)) := by cases y <;> rfl

theorem pThere {h : G.api_Hist} (hf : Fits h) (n : Int) (x : G.api_Take) {α : Type} (K : Bool → Option α) :
    (if decide (x.From = (-1)) then K true else if decide ((0 : Int) ≤ x.From) then if decide (x.From < (Sh.len h.Txns)) then if decide (x.From ≠ n) then (Sh.idx h.Txns x.From).bind fun x840 => (G.slices_Contains_int_int x840.Writes x.Key).bind fun r842 => K r842 else K false else K false else K false) = K (there h n x) := by
  unfold there
  by_cases h1 : x.From = -1
  · simp [h1]
  · by_cases h2 : 0 ≤ x.From
    · by_cases h3 : x.From < (h.Txns.length : Int)
      · by_cases h4 : x.From = n
        · subst h4; simp [h1, h2, h3]
        · have h5 : h.Txns[x.From.toNat]? = some (h.Txns[x.From.toNat]'(by omega)) := List.getElem?_eq_getElem (by omega)
          rw [idx_of h2 h3, h5]
          have := hf.writes _ (List.getElem_mem (show x.From.toNat < h.Txns.length by omega))
          have h6 := pHas (l := (h.Txns[x.From.toNat]'(by omega)).Writes) (by omega) x.Key
          simp [h1, h2, h3, h4, h6, hasW]
      · simp [h1, h2, h3]
    · simp [h1, h2]

theorem pReads {h : G.api_Hist} (hf : Fits h) (n : Int) (t : G.api_Txn) (ht : t ∈ h.Txns) (c : Bool) : G.hist_faults_1__hist_Right__r_j2 h n t c = if takes h n (-1) t.Reads then G.hist_faults_1__hist_Right__r_j3 n t c else some (.inr (false, false)) := by
  unfold G.hist_faults_1__hist_Right__r_j2
  have hl := hf.reads t ht
  rw [loop_fold (σ := Bool × Int) (fun s k => (s.1, s.2, (k : Int))) (fun _ s x => if decide (s.2 < x.Key) && decide (x.Key < 16) && there h n x then .inl (s.1, x.Key) else .inr (.inr (false, false))) (fun s => G.hist_faults_1__hist_Right__r_j3 n t s.1) t.Reads (fuel_gt (by omega)) (fun k s hk => ?_) (fun s => ?_) (c, -1) (t := (c, (-1 : Int), (0 : Int))) rfl]
  · have key : ∀ (l : List G.api_Take) (k : Nat) (last : Int), foldE (fun _ (s : Bool × Int) (x : G.api_Take) => if decide (s.2 < x.Key) && decide (x.Key < 16) && there h n x then Sum.inl (s.1, x.Key) else Sum.inr (.inr (false, false))) (fun s => G.hist_faults_1__hist_Right__r_j3 n t s.1) k l (c, last) = if takes h n last l then G.hist_faults_1__hist_Right__r_j3 n t c else some (.inr (false, false)) := by
      intro l
      induction l with
      | nil => intro k last; simp [foldE, takes]
      | cons x l ih =>
        intro k last
        simp only [foldE]
        rw [show takes h n last (x :: l) = (decide (last < x.Key) && decide (x.Key < 16) && there h n x && takes h n x.Key l) from rfl]
        by_cases hq : (decide (last < x.Key) && decide (x.Key < 16) && there h n x) = true
        · rw [if_pos hq, hq, Bool.true_and]; exact ih (k + 1) x.Key
        · rw [if_neg hq, Bool.eq_false_iff.2 hq]; simp
    exact key t.Reads 0 (-1)
  · obtain ⟨c, last⟩ := s
    simp only [G.hist_faults_1__hist_Right__r_b2, dec_lt, hk, decide_true, if_true, idx_at hk, Option.bind_some]
    rw [pThere hf n t.Reads[k] (fun b => G.hist_faults_1__hist_Right__r_j4 c last k t.Reads[k] b)]
    simp only [G.hist_faults_1__hist_Right__r_j4, y1, G.hist_faults_1__hist_Right__r_j5, w64_succ (show k < 9223372036854775807 by omega), Option.bind_some]
    by_cases h1 : last < t.Reads[k].Key
    · by_cases h2 : t.Reads[k].Key < 16
      · cases h3 : there h n t.Reads[k] <;> simp [h1, h2, Sh.exit, Sh.next]
      · simp [h1, h2, Sh.exit]
    · simp [h1, Sh.exit]
  · simp [G.hist_faults_1__hist_Right__r_b2]

theorem pWrites {h : G.api_Hist} (hf : Fits h) (n : Nat) (hn : n < 9223372036854775807) (t : G.api_Txn) (ht : t ∈ h.Txns) (c : Bool) :
    Sh.loop (fun (p : Bool × Int × Int) => G.hist_faults_1__hist_Right__r_b3 h n t p.1 p.2.1 p.2.2) (c, (-1), 0) = if okT h n t then some (.inl (c, ((n + 1 : Nat) : Int))) else some (.inr (false, false)) := by
  have hl := hf.writes t ht
  rw [loop_fold (σ := Bool × Int) (fun s k => (s.1, s.2, (k : Int))) (fun _ s x => if decide (s.2 < x) && decide (x < 16) then .inl (s.1, x) else .inr (.inr (false, false))) (fun s => G.hist_faults_1__hist_Right__r_j2 h n t s.1) t.Writes (fuel_gt (by omega)) (fun k s hk => ?_) (fun s => ?_) (c, -1) (t := (c, (-1 : Int), (0 : Int))) rfl]
  · have key : ∀ (l : List Int) (k : Nat) (last : Int), foldE (fun _ (s : Bool × Int) (x : Int) => if decide (s.2 < x) && decide (x < 16) then Sum.inl (s.1, x) else Sum.inr (.inr (false, false))) (fun s => G.hist_faults_1__hist_Right__r_j2 h n t s.1) k l (c, last) = if rising last l then G.hist_faults_1__hist_Right__r_j2 h n t c else some (.inr (false, false)) := by
      intro l
      induction l with
      | nil => intro k last; simp [foldE, rising]
      | cons x l ih =>
        intro k last
        simp only [foldE]
        rw [show rising last (x :: l) = (decide (last < x) && decide (x < 16) && rising x l) from rfl]
        by_cases hq : (decide (last < x) && decide (x < 16)) = true
        · rw [if_pos hq, hq, Bool.true_and]; exact ih (k + 1) x
        · rw [if_neg hq, Bool.eq_false_iff.2 hq]; simp
    rw [key t.Writes 0 (-1), pReads hf n t ht]
    unfold okT
    cases h1 : rising (-1) t.Writes
    · simp
    · cases h2 : takes h n (-1) t.Reads
      · simp
      · simp only [G.hist_faults_1__hist_Right__r_j3, y1, G.hist_faults_1__hist_Right__r_j1, w64_succ hn, Option.bind_some]
        by_cases h3 : 0 ≤ t.Session
        · by_cases h4 : t.Session < 8 <;> simp [h3, h4, Sh.exit, Sh.next]
        · simp [h3, Sh.exit]
  · obtain ⟨c, last⟩ := s
    simp only [G.hist_faults_1__hist_Right__r_b3, dec_lt, hk, decide_true, if_true, idx_at hk, Option.bind_some, y1, G.hist_faults_1__hist_Right__r_j6, w64_succ (show k < 9223372036854775807 by omega)]
    by_cases h1 : last < t.Writes[k]
    · by_cases h2 : t.Writes[k] < 16 <;> simp [h1, h2, Sh.exit, Sh.next]
    · simp [h1, Sh.exit]
  · simp [G.hist_faults_1__hist_Right__r_b3]

theorem pRight {h : G.api_Hist} (hf : Fits h) : G.hist_Right h = some (right h) := by
  have hl := hf.txns
  have hloop : ∀ c, Sh.loop (fun (p : Bool × Int) => G.hist_faults_1__hist_Right__r_b1 h p.1 p.2) (c, 0) = if okAll h 0 h.Txns then some (c, true) else some (false, false) := by
    intro c
    rw [loop_fold (σ := Bool) (fun s k => (s, (k : Int))) (fun k s x => if okT h k x then .inl s else .inr (false, false)) (fun s => some (s, true)) h.Txns (fuel_gt (by omega)) (fun k s hk => ?_) (fun s => ?_) c (t := (c, (0 : Int))) rfl]
    · have key : ∀ (l : List G.api_Txn) (k : Nat), foldE (fun k (s : Bool) (x : G.api_Txn) => if okT h (k : Nat) x then Sum.inl s else Sum.inr (false, false)) (fun s => some (s, true)) k l c = if okAll h k l then some (c, true) else some (false, false) := by
        intro l
        induction l with
        | nil => intro k; simp [foldE, okAll]
        | cons x l ih =>
          intro k
          simp only [foldE]
          rw [show okAll h k (x :: l) = (okT h (k : Nat) x && okAll h (k + 1) l) from rfl]
          by_cases hq : okT h (k : Nat) x = true
          · rw [if_pos hq, hq, Bool.true_and]; exact ih (k + 1)
          · rw [if_neg hq, Bool.eq_false_iff.2 hq]; simp
      exact key h.Txns 0
    · simp only [G.hist_faults_1__hist_Right__r_b1, dec_lt, hk, decide_true, if_true, idx_at hk, Option.bind_some]
      rw [pWrites hf k (by omega) _ (List.getElem_mem hk)]
      cases okT h k h.Txns[k] <;> rfl
    · simp [G.hist_faults_1__hist_Right__r_b1]
  unfold G.hist_Right G.hist_faults G.hist_faults_1__hist_Right__r right
  simp only [Option.bind_some, y1, len_eq]
  by_cases h1 : h.Txns.length ≤ 32
  · have h2 : ((h.Txns.length : Int) ≤ 32) := by omega
    simp only [h1, h2, decide_true, if_true, hloop, Bool.true_and]
    cases okAll h 0 h.Txns <;> simp
  · have h2 : ¬ ((h.Txns.length : Int) ≤ 32) := by omega
    simp [h1, h2]

theorem rWrites {t : G.api_Txn} (hl : t.Writes.length < 9223372036854775807) (k : Int) : G.inquestref08_Writes t k = some (hasW t k) := by
  unfold G.inquestref08_Writes hasW
  rw [any_loop t.Writes (fun x => decide (k = x)) true (some false) (fuel_gt (by omega)) (fun i hi => ?_) ?_]
  · cases t.Writes.any (fun x => decide (k = x)) <;> rfl
  · simp [G.inquestref08_Writes_b1, G.inquestref08_Writes_j1]
  · simp only [G.inquestref08_Writes_b1, dec_lt, hi, decide_true, if_true, idx_at hi, Option.bind_some, w64_succ (show i < 9223372036854775807 by omega), Sh.exit, Sh.next, Option.map_some]
    by_cases h1 : t.Writes[i] = k
    · simp [h1]
    · have : ¬ k = t.Writes[i] := fun h => h1 h.symm
      simp [h1, this]
end Pl
end

section
/- The reference's word on histories: whether one may be, and whether it is small. -/
namespace Pl
open Go Go.Av

def climbs {α : Type} (key : α → Int) (ok : α → Bool) : Int → List α → Bool
  | _, [] => true
  | last, x :: l => decide (last < key x) && decide (key x < 16) && ok x && climbs key ok (key x) l
theorem rising_eq : ∀ (l : List Int) (last : Int), rising last l = climbs id (fun _ => true) last l
  | [], _ => rfl
  | x :: l, last => by
    rw [show rising last (x :: l) = (decide (last < x) && decide (x < 16) && rising x l) from rfl, rising_eq l x]
    simp [climbs]
theorem takes_eq (h : G.api_Hist) (n : Int) : ∀ (l : List G.api_Take) (last : Int), takes h n last l = climbs (·.Key) (there h n) last l
  | [], _ => rfl
  | x :: l, last => by
    rw [show takes h n last (x :: l) = (decide (last < x.Key) && decide (x.Key < 16) && there h n x && takes h n x.Key l) from rfl, takes_eq h n l x.Key]
    rfl
def step {α : Type} (key : α → Int) (ok : α → Bool) (l : List α) (k : Nat) : Bool :=
  match l[k]? with
  | none => true
  | some x => decide (0 ≤ key x) && decide (key x < 16) && ok x && (decide (k = 0) || match l[k - 1]? with | none => true | some y => decide (key y < key x))
theorem okAll_iff (h : G.api_Hist) : ∀ (l : List G.api_Txn) (n : Nat), okAll h n l = decide (∀ k (hk : k < l.length), okT h ((n + k : Nat) : Int) l[k] = true)
  | [], n => by simp [okAll]
  | t :: l, n => by
    rw [show okAll h n (t :: l) = (okT h (n : Nat) t && okAll h (n + 1) l) from rfl, okAll_iff h l (n + 1), Bool.eq_iff_iff, Bool.and_eq_true, decide_eq_true_eq, decide_eq_true_eq]
    constructor
    · rintro ⟨h1, h2⟩ k hk
      cases k with
      | zero => simpa using h1
      | succ k =>
        have := h2 k (by simpa using hk)
        rw [show n + 1 + k = n + (k + 1) by omega] at this
        simpa using this
    · intro h1
      refine ⟨h1 0 (by simp), fun k hk => ?_⟩
      have := h1 (k + 1) (by simpa using hk)
      rw [show n + 1 + k = n + (k + 1) by omega]
      simpa using this
theorem dec_len_gt {α : Type} (l : List α) : decide ((20 : Int) < Sh.len l) = !decide (l.length ≤ 20) := by
  by_cases h : l.length ≤ 20 <;> simp [h, Sh.len] <;> omega
def few (h : G.api_Hist) (m : Int) : Bool := decide ((h.Txns.length : Int) ≤ m) && h.Txns.all (fun t => decide (t.Writes.length ≤ 20) && decide (t.Reads.length ≤ 20))
theorem rFew {h : G.api_Hist} {m : Int} (hm : m < 9223372036854775807) : G.inquestref08_Few h m = some (few h m) := by
  unfold G.inquestref08_Few few
  by_cases h1 : (h.Txns.length : Int) ≤ m
  · have h2 : ¬ m < (h.Txns.length : Int) := by omega
    simp only [Sh.len, h2, decide_false, Bool.false_eq_true, if_false, h1, decide_true, Bool.true_and]
    rw [any_loop h.Txns (fun t => !(decide (t.Writes.length ≤ 20) && decide (t.Reads.length ≤ 20))) false (some true) (fuel_gt (by omega)) (fun k hk => ?_) ?_]
    · rw [List.any_eq_not_all_not]
      simp only [Bool.not_not]
      cases h.Txns.all (fun t => decide (t.Writes.length ≤ 20) && decide (t.Reads.length ≤ 20)) <;> rfl
    · simp [G.inquestref08_Few_b1, G.inquestref08_Few_j1]
    · simp only [G.inquestref08_Few_b1, dec_lt, hk, decide_true, if_true, idx_at hk, Option.bind_some, dec_len_gt, G.inquestref08_Few_j2, w64_succ (show k < 9223372036854775807 by omega), Sh.exit, Sh.next, Option.map_some]
      by_cases a : (h.Txns[k]).Writes.length ≤ 20 <;> by_cases b : (h.Txns[k]).Reads.length ≤ 20 <;> simp [a, b]
  · have h2 : m < (h.Txns.length : Int) := by omega
    simp [Sh.len, h2, h1]
theorem few_fits {h : G.api_Hist} {m : Int} (hm : m < 9223372036854775807) (hf : few h m = true) : Fits h := by
  simp only [few, Bool.and_eq_true, decide_eq_true_eq, List.all_eq_true] at hf
  exact ⟨by omega, fun t ht => by have := (hf.2 t ht).1; omega, fun t ht => by have := (hf.2 t ht).2; omega⟩
end Pl
end

section
/- Edges, one by one: what the program and the reference answer. -/
namespace Pl
open Go Go.Av

def tx (h : G.api_Hist) (x : Int) : G.api_Txn := (h.Txns[x.toNat]?).getD default
def inr (h : G.api_Hist) (x : Int) : Bool := decide (0 ≤ x) && decide (x < (h.Txns.length : Int))
theorem inr_iff {h : G.api_Hist} {x : Int} : inr h x = true ↔ 0 ≤ x ∧ x < (h.Txns.length : Int) := by simp [inr]
theorem idx_tx {h : G.api_Hist} {x : Int} (hx : inr h x = true) : Sh.idx h.Txns x = some (tx h x) := by
  rw [inr_iff] at hx
  rw [idx_of hx.1 hx.2]
  simp [tx, List.getElem?_eq_getElem (show x.toNat < h.Txns.length by omega)]
theorem tx_mem {h : G.api_Hist} {x : Int} (hx : inr h x = true) : tx h x ∈ h.Txns := by
  rw [inr_iff] at hx
  simp only [tx, List.getElem?_eq_getElem (show x.toNat < h.Txns.length by omega), Option.getD_some]
  exact List.getElem_mem _

def isW (h : G.api_Hist) (x y : Int) (c : G.api_Choice) : Bool := decide (c.A = x) && decide (c.B = y) && decide (x ≠ y) && hasW (tx h x) c.Key && hasW (tx h y) c.Key
def dirS (h : G.api_Hist) (l : List G.api_Choice) (x y : Int) : Bool :=
  (decide (x < y) && decide ((tx h x).Session = (tx h y).Session)) || (tx h y).Reads.any (fun r => decide (r.From = x)) || l.any (isW h x y)
def two (h : G.api_Hist) (x y : Int) : Bool := right h && inr h x && inr h y
def direct (h : G.api_Hist) (l : List G.api_Choice) (x y : Int) : Bool := two h x y && dirS h l x y
end Pl
end

section
/- Transactions one by one: what the program and the reference play. -/
namespace Pl
open Go Go.Av

structure PermO (n : Nat) (o : List Int) : Prop where
  len : o.length = n
  node : ∀ a ∈ o, 0 ≤ a ∧ a < (n : Int)
  nodup : o.Nodup
theorem len_in : ∀ {n : Nat} {o : List Int}, (∀ a ∈ o, 0 ≤ a ∧ a < (n : Int)) → o.Nodup → o.length ≤ n
  | 0, o, h, _ => by
    cases o with
    | nil => simp
    | cons a o => have := h a (List.mem_cons_self ..); omega
  | n + 1, o, h, hd => by
    by_cases hn : (n : Int) ∈ o
    · have h1 := len_in (n := n) (o := o.erase (n : Int)) (fun a ha => by
        obtain ⟨h1, h2⟩ := (List.Nodup.mem_erase_iff hd).1 ha
        have := h a h2; omega) (hd.erase _)
      rw [List.length_erase_of_mem hn] at h1
      omega
    · have h1 := len_in (n := n) (o := o) (fun a ha => by
        have := h a ha
        have : a ≠ (n : Int) := fun e => hn (e ▸ ha)
        omega) hd
      omega
theorem PermO.all {n : Nat} {o : List Int} (p : PermO n o) {k : Nat} (hk : k < n) : (k : Int) ∈ o := by
  apply Classical.byContradiction
  intro hn
  have h1 := len_in (n := n) (o := (k : Int) :: o) (fun a ha => by
    rcases List.mem_cons.1 ha with e | e
    · omega
    · exact p.node a e) (List.nodup_cons.2 ⟨hn, p.nodup⟩)
  simp only [List.length_cons, p.len] at h1
  omega
theorem perm_cover : ∀ {n : Nat} {o : List Int}, o.length = n → (∀ k, k < n → (k : Int) ∈ o) → o.Nodup ∧ ∀ a ∈ o, 0 ≤ a ∧ a < (n : Int)
  | 0, o, hl, _ => by
    have := List.eq_nil_of_length_eq_zero hl
    subst this; simp
  | n + 1, o, hl, h => by
    have hn := h n (Nat.lt_succ_self _)
    have hp := List.perm_cons_erase hn
    have h1 := perm_cover (n := n) (o := o.erase (n : Int)) (by rw [List.length_erase_of_mem hn]; omega) (fun k hk => (List.mem_erase_of_ne (by omega)).2 (h k (by omega)))
    refine ⟨hp.nodup_iff.2 (List.nodup_cons.2 ⟨fun hm => ?_, h1.1⟩), fun a ha => ?_⟩
    · have := h1.2 _ hm; omega
    · rcases List.mem_cons.1 (hp.mem_iff.1 ha) with e | e
      · omega
      · have := h1.2 a e; omega
def okO (n : Nat) (o : List Int) : Bool := decide (o.length = n ∧ (∀ a ∈ o, 0 ≤ a ∧ a < (n : Int)) ∧ o.Nodup)
theorem okO_iff {n : Nat} {o : List Int} : okO n o = true ↔ PermO n o := by
  unfold okO
  rw [decide_eq_true_eq]
  exact ⟨fun ⟨a, b, c⟩ => ⟨a, b, c⟩, fun p => ⟨p.len, p.node, p.nodup⟩⟩
def atO (o : List Int) (t : Int) : Nat := o.findIdx fun x => decide (x = t)
theorem atO_lt {o : List Int} {t : Int} (h : t ∈ o) : atO o t < o.length := List.findIdx_lt_length_of_exists ⟨t, h, by simp⟩
theorem atO_get {o : List Int} {t : Int} (h : t ∈ o) : o[atO o t]'(atO_lt h) = t := by
  have := List.findIdx_getElem (xs := o) (p := fun x => decide (x = t)) (w := atO_lt h)
  exact of_decide_eq_true this
theorem nd_inj {o : List Int} (hd : o.Nodup) {i j : Nat} (hi : i < o.length) (hj : j < o.length) (he : o[i] = o[j]) : i = j := by
  have hp := List.pairwise_iff_getElem.1 hd
  rcases Nat.lt_trichotomy i j with h | h | h
  · exact absurd he (hp i j hi hj h)
  · exact h
  · exact absurd he.symm (hp j i hj hi h)
theorem atO_at {o : List Int} (hd : o.Nodup) {k : Nat} (hk : k < o.length) : atO o o[k] = k := by
  have h1 := atO_get (List.getElem_mem hk)
  exact nd_inj hd _ _ h1
theorem not_in_take {o : List Int} (hd : o.Nodup) {k : Nat} (hk : k < o.length) : o[k] ∉ o.take k := fun hm => by
  obtain ⟨j, hj, he⟩ := List.mem_iff_getElem.1 hm
  rw [List.getElem_take] at he
  have hj' : j < k := by simp at hj; omega
  have := nd_inj hd _ hk he
  omega
theorem mem_take_succ {o : List Int} {k : Nat} (hk : k < o.length) {a : Int} : a ∈ o.take (k + 1) ↔ a ∈ o.take k ∨ a = o[k] := by
  rw [List.take_succ_eq_append_getElem hk, List.mem_append, List.mem_singleton]

def arT {α : Type} (N : Nat) (F : Nat → α) : List α := (List.range N).map F
section
variable {α : Type} {N : Nat}
@[simp] theorem arT_len (F : Nat → α) : (arT N F).length = N := by simp [arT]
theorem arT_ext {F G : Nat → α} (h : ∀ x, x < N → F x = G x) : arT N F = arT N G := List.map_congr_left fun x hx => h x (List.mem_range.1 hx)
theorem arT_get (F : Nat → α) {y : Nat} (h : y < N) : (arT N F)[y]? = some (F y) := by simp [arT, h]
theorem arT_idx (F : Nat → α) {y : Nat} (h : y < N) : Sh.idx (arT N F) (y : Int) = some (F y) := by
  unfold Sh.idx
  rw [if_pos (by omega), Int.toNat_natCast, arT_get F h]
theorem arT_aidx (F : Nat → α) {y : Nat} (h : y < N) : Sh.aidx N (arT N F) (y : Int) = some (F y) := by
  unfold Sh.aidx
  rw [if_pos (arT_len F), arT_idx F h]
theorem arT_set (F : Nat → α) {y : Nat} (c : α) : Sh.set (arT N F) (y : Int) c = arT N fun x => if x = y then c else F x := by
  rw [set_at]
  apply List.ext_getElem? fun i => ?_
  rw [List.getElem?_set]
  by_cases hi : i < N
  · rw [arT_get _ hi]
    by_cases e : y = i
    · subst e; rw [if_pos rfl, arT_len, if_pos hi, arT_get _ hi, if_pos rfl]
    · rw [if_neg e, arT_get _ hi, if_neg (Ne.symm e)]
  · have h1 : (arT N F)[i]? = none := List.getElem?_eq_none (by simp; omega)
    have h2 : (arT N fun x => if x = y then c else F x)[i]? = none := List.getElem?_eq_none (by simp; omega)
    rw [h1, h2]
    split <;> simp; omega
theorem arT_zero (c : α) : List.replicate N c = arT N (fun _ => c) := by
  apply List.ext_getElem (by simp) fun i h1 h2 => by simp [arT]
end

theorem scanS {σ α : Type} {b : σ → Option (σ ⊕ α)} (S : Nat → σ) (m : Nat) (p : Nat → Bool) (A B : Option α) (hm : m < Sh.FUEL) (h : ∀ k, k < m → (∀ j, j < k → p j = true) → b (S k) = if p k then some (.inl (S (k + 1))) else Sh.exit B) (hr : (∀ j, j < m → p j = true) → b (S m) = Sh.exit A) {s : σ} (hs : s = S 0) :
    Sh.loop b s = if ∀ k, k < m → p k = true then A else B := by
  subst hs
  by_cases hall : ∀ k, k < m → p k = true
  · rw [if_pos hall]
    exact run_exit S m A hm (fun k hk => by rw [h k hk (fun j hj => hall j (by omega)), if_pos (hall k hk)]) (hr hall) rfl
  · rw [if_neg hall]
    have hex : ∃ k, k < m ∧ p k = false := by
      apply Classical.byContradiction
      intro hn
      exact hall fun k hk => by
        cases hp : p k with
        | true => rfl
        | false => exact absurd ⟨k, hk, hp⟩ hn
    obtain ⟨k, ⟨hk, hp⟩, hmin⟩ := exists_least _ hex
    have hb : ∀ j, j < k → p j = true := fun j hj => by
      cases hp : p j with
      | true => rfl
      | false => have := hmin j ⟨by omega, hp⟩; omega
    exact run_exit S k B (by omega) (fun j hj => by rw [h j (by omega) (fun i hi => hb i (by omega)), if_pos (hb j hj)]) (by rw [h k hk hb, hp]; rfl) rfl

theorem right_len {h : G.api_Hist} (hr : right h = true) : h.Txns.length ≤ 32 := by
  simp only [right, Bool.and_eq_true, decide_eq_true_eq] at hr; exact hr.1
theorem right_at {h : G.api_Hist} (hr : right h = true) {t : Nat} (ht : t < h.Txns.length) : okT h (t : Int) (tx h t) = true := by
  simp only [right, Bool.and_eq_true] at hr
  have h2 := hr.2
  rw [okAll_iff, decide_eq_true_eq] at h2
  have := h2 t ht
  have e : tx h (t : Int) = h.Txns[t] := by simp [tx, ht]
  rw [e]
  simpa using this
theorem climbs_ge {α : Type} {key : α → Int} {ok : α → Bool} : ∀ {l : List α} {last : Int}, climbs key ok last l = true → ∀ x ∈ l, last < key x ∧ key x < 16
  | [], _, _, x, hx => by simp at hx
  | y :: l, last, h, x, hx => by
    simp only [climbs, Bool.and_eq_true, decide_eq_true_eq] at h
    rcases List.mem_cons.1 hx with e | e
    · subst e; exact ⟨h.1.1.1, h.1.1.2⟩
    · have := climbs_ge h.2 x e
      have := h.1.1.1
      omega
theorem write_key {h : G.api_Hist} (hr : right h = true) {t : Nat} (ht : t < h.Txns.length) : ∀ w ∈ (tx h t).Writes, 0 ≤ w ∧ w < 16 := fun w hw => by
  have h1 := right_at hr ht
  simp only [okT, Bool.and_eq_true] at h1
  have h2 := h1.1.1.1
  rw [rising_eq] at h2
  have := climbs_ge h2 w hw
  simp only [id] at this
  omega
theorem read_key {h : G.api_Hist} (hr : right h = true) {t : Nat} (ht : t < h.Txns.length) : ∀ r ∈ (tx h t).Reads, 0 ≤ r.Key ∧ r.Key < 16 := fun r hw => by
  have h1 := right_at hr ht
  simp only [okT, Bool.and_eq_true] at h1
  have h2 := h1.1.1.2
  rw [takes_eq] at h2
  have := climbs_ge h2 r hw
  omega
theorem sess_key {h : G.api_Hist} (hr : right h = true) {t : Nat} (ht : t < h.Txns.length) : 0 ≤ (tx h t).Session ∧ (tx h t).Session < 8 := by
  have h1 := right_at hr ht
  simp only [okT, Bool.and_eq_true, decide_eq_true_eq] at h1
  exact ⟨h1.1.2, h1.2⟩
theorem idx_txn {h : G.api_Hist} {t : Nat} (ht : t < h.Txns.length) : Sh.idx h.Txns (t : Int) = some (tx h t) := idx_tx (inr_iff.2 ⟨by omega, by omega⟩)
theorem txn_in {h : G.api_Hist} {t : Nat} (ht : t < h.Txns.length) : tx h t ∈ h.Txns := tx_mem (inr_iff.2 ⟨by omega, by omega⟩)
theorem hasW_iff {t : G.api_Txn} {k : Int} : hasW t k = true ↔ k ∈ t.Writes := by simp [hasW]

def lastW (h : G.api_Hist) (o : List Int) (key : Int) : Int := (o.reverse.find? fun t => hasW (tx h t) key).getD (-1)
theorem lastW_snoc {h : G.api_Hist} {o : List Int} {t key : Int} : lastW h (o ++ [t]) key = if hasW (tx h t) key then t else lastW h o key := by
  unfold lastW
  rw [List.reverse_append, List.reverse_singleton, List.singleton_append, List.find?_cons]
  cases hasW (tx h t) key <;> rfl
theorem lastW_cases {h : G.api_Hist} {key : Int} : ∀ {o : List Int}, (lastW h o key = -1 ∧ ∀ t ∈ o, hasW (tx h t) key = false) ∨ (lastW h o key ∈ o ∧ hasW (tx h (lastW h o key)) key = true) := by
  intro o
  unfold lastW
  cases hf : o.reverse.find? fun t => hasW (tx h t) key with
  | none =>
    left
    rw [List.find?_eq_none] at hf
    exact ⟨rfl, fun t ht => by simpa using hf t (List.mem_reverse.2 ht)⟩
  | some t =>
    right
    exact ⟨List.mem_reverse.1 (List.mem_of_find?_eq_some hf), by simpa using List.find?_some hf⟩
theorem lastW_bound {h : G.api_Hist} {o : List Int} {n : Nat} (hp : ∀ a ∈ o, 0 ≤ a ∧ a < (n : Int)) (key : Int) : -1 ≤ lastW h o key ∧ lastW h o key < (n : Int) := by
  rcases lastW_cases (h := h) (key := key) (o := o) with ⟨h1, _⟩ | ⟨h1, _⟩
  · rw [h1]; omega
  · have := hp _ h1; omega
def playT (h : G.api_Hist) (o : List Int) (t : Int) : List G.api_Take := (tx h t).Reads.map fun r => ⟨r.Key, lastW h (o.take (atO o t)) r.Key⟩
def playL (h : G.api_Hist) (o : List Int) : List (List G.api_Take) := arT h.Txns.length fun t : Nat => playT h o t

theorem pSRight {h : G.api_Hist} (hf : Fits h) (o : List Int) : G.ser_right h o = some (right h && okO h.Txns.length o) := by
  unfold G.ser_right
  rw [pRight hf]
  simp only [Option.bind_some]
  cases hr : right h with
  | false => rfl
  | true =>
    have hn := right_len hr
    simp only [Bool.not_true, Bool.false_eq_true, if_false, Bool.true_and]
    by_cases hl : o.length = h.Txns.length
    · have h1 : ¬ (Sh.len o) ≠ (Sh.len h.Txns) := by simp only [Sh.len]; omega
      rw [decide_eq_false h1]
      simp only [G.ser_right_j1, Bool.false_eq_true, if_false]
      rw [scanS (fun k => (arT 32 (fun x : Nat => decide ((x : Int) ∈ o.take k)), (k : Int))) o.length (fun k => match o[k]? with | some a => decide (0 ≤ a ∧ a < (o.length : Int) ∧ a ∉ o.take k) | none => true) (some true) (some false) (fuel_gt (by omega)) (fun k hk hall => ?_) (fun _ => ?_) (by rw [arT_zero]; simp)]
      · have e : (if ∀ k, k < o.length → (match o[k]? with | some a => decide (0 ≤ a ∧ a < (o.length : Int) ∧ a ∉ o.take k) | none => true) = true then some true else some false) = some (decide (∀ k, k < o.length → (match o[k]? with | some a => decide (0 ≤ a ∧ a < (o.length : Int) ∧ a ∉ o.take k) | none => true) = true)) := by
          split
          · rename_i hq; rw [decide_eq_true hq]
          · rename_i hq; rw [decide_eq_false hq]
        rw [e]
        congr 1
        rw [Bool.eq_iff_iff, decide_eq_true_eq, okO_iff]
        constructor
        · intro hq
          have hq' : ∀ k (hk : k < o.length), 0 ≤ o[k] ∧ o[k] < (o.length : Int) ∧ o[k] ∉ o.take k := fun k hk => by
            have := hq k hk
            simpa only [List.getElem?_eq_getElem hk, decide_eq_true_eq] using this
          refine ⟨hl, fun a ha => ?_, ?_⟩
          · obtain ⟨k, hk, rfl⟩ := List.mem_iff_getElem.1 ha
            have := hq' k hk; omega
          · rw [List.Nodup, List.pairwise_iff_getElem]
            intro i j hi hj hij he
            refine (hq' j hj).2.2 (List.mem_iff_getElem.2 ⟨i, by simp; omega, ?_⟩)
            rw [List.getElem_take]; exact he
        · intro p k hk
          simp only [List.getElem?_eq_getElem hk, decide_eq_true_eq]
          have := p.node _ (List.getElem_mem hk)
          exact ⟨this.1, by rw [p.len]; exact this.2, not_in_take p.nodup hk⟩
      · have hk32 : k < 32 := by omega
        simp only [G.ser_right_b1, dec_lt, hk, decide_true, if_true, idx_at hk, Option.bind_some, List.getElem?_eq_getElem hk]
        by_cases h0 : o[k] < 0
        · have : ¬ (0 ≤ o[k] ∧ o[k] < (o.length : Int) ∧ o[k] ∉ o.take k) := fun hq => by omega
          rw [decide_eq_true h0, decide_eq_false this]; rfl
        · by_cases h2 : (Sh.len o) ≤ o[k]
          · have : ¬ (0 ≤ o[k] ∧ o[k] < (o.length : Int) ∧ o[k] ∉ o.take k) := fun hq => by simp only [Sh.len] at h2; omega
            rw [decide_eq_false h0, decide_eq_true h2, decide_eq_false this]; rfl
          · simp only [Sh.len] at h2
            obtain ⟨y, hy⟩ : ∃ y : Nat, o[k] = (y : Int) := ⟨o[k].toNat, by omega⟩
            have hy32 : y < 32 := by omega
            have h3 : ¬ (o.length : Int) ≤ (y : Int) := by omega
            have h4 : ¬ (y : Int) < 0 := by omega
            simp only [hy, h4, h3, decide_false, Bool.false_eq_true, if_false, arT_aidx _ hy32, Option.bind_some, G.ser_right_j3, Sh.len]
            by_cases hm : (y : Int) ∈ o.take k
            · have : ¬ (0 ≤ (y : Int) ∧ (y : Int) < (o.length : Int) ∧ (y : Int) ∉ o.take k) := fun hq => hq.2.2 hm
              rw [decide_eq_true hm, decide_eq_false this]; rfl
            · have : (0 ≤ (y : Int) ∧ (y : Int) < (o.length : Int) ∧ (y : Int) ∉ o.take k) := ⟨by omega, by omega, hm⟩
              rw [decide_eq_false hm, decide_eq_true this]
              simp only [Bool.false_eq_true, if_false, if_true, Sh.next, w64_succ (show k < 9223372036854775807 by omega), arT_set]
              congr 3
              refine arT_ext fun x _ => ?_
              by_cases hx : x = y
              · subst hx
                rw [if_pos rfl, decide_eq_true ((mem_take_succ hk).2 (.inr hy.symm))]
              · rw [if_neg hx]
                congr 1
                refine propext ⟨fun hq => (mem_take_succ hk).2 (.inl hq), fun hq => ?_⟩
                rcases (mem_take_succ hk).1 hq with hq | hq
                · exact hq
                · omega
      · simp [G.ser_right_b1, G.ser_right_j2, Sh.exit]
    · have h1 : (Sh.len o) ≠ (Sh.len h.Txns) := by simp only [Sh.len]; omega
      have h2 : okO h.Txns.length o = false := by
        cases hq : okO h.Txns.length o with
        | false => rfl
        | true => exact absurd (okO_iff.1 hq).len hl
      rw [decide_eq_true h1, h2]; rfl
end Pl
end

section
/- What the program and the reference play, and whether an order shows a history to be serializable. -/
namespace Pl
open Go Go.Av

def lastF (h : G.api_Hist) (o : List Int) (k : Nat) (y : Nat) : Int := lastW h (o.take k) y + 1
def lastR (h : G.api_Hist) (o : List Int) (t : Nat) (k i : Nat) (y : Nat) : Int := if (y : Int) ∈ (tx h t).Writes.take i then (t : Int) + 1 else lastF h o k y
def outR (h : G.api_Hist) (o : List Int) (t : Nat) (k i : Nat) : List (List G.api_Take) := arT h.Txns.length fun x : Nat => if x = t then (playT h o t).take i else if (x : Int) ∈ o.take k then playT h o x else []
def outF (h : G.api_Hist) (o : List Int) (k : Nat) : List (List G.api_Take) := arT h.Txns.length fun x : Nat => if (x : Int) ∈ o.take k then playT h o x else []
theorem playT_len {h : G.api_Hist} {o : List Int} {t : Int} : (playT h o t).length = (tx h t).Reads.length := by simp [playT]
theorem pPlay {h : G.api_Hist} (hf : Fits h) (hb : ∀ t ∈ h.Txns, t.Reads.length ≤ 1000000) (o : List Int) : G.ser_Play h o = some (if right h && okO h.Txns.length o then playL h o else []) := by
  unfold G.ser_Play
  rw [pSRight hf o]
  simp only [Option.bind_some]
  cases hq : (right h && okO h.Txns.length o) with
  | false => rfl
  | true =>
    simp only [Bool.and_eq_true] at hq
    obtain ⟨hr, hok⟩ := hq
    have p := okO_iff.1 hok
    have hn := right_len hr
    simp only [Bool.not_true, Bool.false_eq_true, if_false, if_true]
    rw [show Sh.len o = ((h.Txns.length : Nat) : Int) by simp only [Sh.len, p.len], mk_ok (by omega) (by omega)]
    simp only [Option.bind_some]
    refine run_exit (fun k => (arT 16 (lastF h o k), outF h o k, (k : Int))) h.Txns.length _ (fuel_gt (by omega)) (fun k hk => ?_) ?_ ?_
    · have hko : k < o.length := by rw [p.len]; exact hk
      obtain ⟨t, ht⟩ : ∃ t : Nat, o[k] = (t : Int) := ⟨o[k].toNat, by have := p.node _ (List.getElem_mem hko); omega⟩
      have htn : t < h.Txns.length := by have := p.node _ (List.getElem_mem hko); omega
      have hat : atO o t = k := by rw [← ht]; exact atO_at p.nodup hko
      have hnin : (t : Int) ∉ o.take k := by rw [← ht]; exact not_in_take p.nodup hko
      have hbd := hb _ (txn_in htn)
      have hfr := hf.reads _ (txn_in htn)
      have hfw := hf.writes _ (txn_in htn)
      simp only [G.ser_Play_b1, show Sh.len o = ((o.length : Nat) : Int) from rfl, dec_lt, hko, decide_true, if_true, idx_at hko, ht, Option.bind_some, idx_txn htn]
      refine run_exit (fun i => (outR h o t k i, (i : Int))) (tx h t).Reads.length _ (fuel_gt (by omega)) (fun i hi => ?_) ?_ ?_
      · have hkey := read_key hr htn _ (List.getElem_mem hi)
        obtain ⟨y, hy⟩ : ∃ y : Nat, (tx h t).Reads[i].Key = (y : Int) := ⟨(tx h t).Reads[i].Key.toNat, by omega⟩
        have hy16 : y < 16 := by omega
        have hb1 := lastW_bound (h := h) (o := o.take k) (fun a ha => p.node a (List.mem_of_mem_take ha)) (y : Int)
        have hrow : Sh.idx (outR h o t k i) (t : Int) = some ((playT h o t).take i) := by
          unfold outR; rw [arT_idx _ htn, if_pos rfl]
        have hpl : (playT h o t).take i ++ [⟨(tx h t).Reads[i].Key, w64 (lastF h o k y - 1)⟩] = (playT h o t).take (i + 1) := by
          have hi' : i < (playT h o t).length := by rw [playT_len]; exact hi
          rw [List.take_succ_eq_append_getElem hi']
          congr 2
          simp only [playT, List.getElem_map, hat, hy, lastF]
          congr 1
          rw [w64_id (by omega) (by omega)]; omega
        simp only [G.ser_Play_b3, dec_lt, hi, decide_true, if_true, idx_at hi, Option.bind_some, hrow, hy, arT_aidx _ hy16]
        rw [← hy, app_ok (by simp only [List.length_take, List.length_cons, List.length_nil]; omega)]
        simp only [Option.bind_some, Sh.next, w64_succ (show i < 9223372036854775807 by omega), hpl]
        congr 3
        unfold outR
        rw [arT_set]
        refine arT_ext fun x _ => ?_
        by_cases hx : x = t
        · rw [if_pos hx, if_pos hx]
        · rw [if_neg hx, if_neg hx, if_neg hx]
      · simp only [G.ser_Play_b3, dec_lt, Nat.lt_irrefl, decide_false, Bool.false_eq_true, if_false]
        have hj3 : G.ser_Play_j3 h (arT 16 (lastF h o k)) (k : Int) (t : Int) (outR h o t k (tx h t).Reads.length) = some (.inl (arT 16 (lastF h o (k + 1)), outF h o (k + 1), ((k + 1 : Nat) : Int))) := by
          unfold G.ser_Play_j3
          simp only [idx_txn htn, Option.bind_some]
          refine run_exit (fun i => (arT 16 (lastR h o t k i), (i : Int))) (tx h t).Writes.length _ (fuel_gt (by omega)) (fun i hi => ?_) ?_ ?_
          · have hkey := write_key hr htn _ (List.getElem_mem hi)
            obtain ⟨y, hy⟩ : ∃ y : Nat, (tx h t).Writes[i] = (y : Int) := ⟨(tx h t).Writes[i].toNat, by omega⟩
            have hy16 : y < 16 := by omega
            simp only [G.ser_Play_b2, dec_lt, hi, decide_true, if_true, idx_at hi, hy, Option.bind_some, arT_aidx _ hy16, Sh.next, w64_succ (show i < 9223372036854775807 by omega), arT_set]
            congr 3
            refine arT_ext fun x _ => ?_
            unfold lastR
            by_cases hx : x = y
            · subst hx
              rw [if_pos rfl, if_pos ((mem_take_succ hi).2 (.inr hy.symm)), w64_id (by omega) (by omega)]
            · rw [if_neg hx]
              have : ((x : Int) ∈ (tx h t).Writes.take i) ↔ ((x : Int) ∈ (tx h t).Writes.take (i + 1)) := by
                rw [mem_take_succ hi, hy]
                exact ⟨.inl, fun hq => hq.resolve_right (fun e => hx (by omega))⟩
              simp only [this]
          · simp only [G.ser_Play_b2, dec_lt, Nat.lt_irrefl, decide_false, Bool.false_eq_true, if_false, G.ser_Play_j2, Sh.next, w64_succ (show k < 9223372036854775807 by omega)]
            congr 4
            · refine arT_ext fun x _ => ?_
              unfold lastR lastF
              rw [List.take_length, List.take_succ_eq_append_getElem hko, lastW_snoc, ht]
              by_cases hw : (x : Int) ∈ (tx h t).Writes
              · rw [if_pos hw, hasW_iff.2 hw, if_pos rfl]
              · have : hasW (tx h t) x = false := by
                  cases hq : hasW (tx h t) x with
                  | false => rfl
                  | true => exact absurd (hasW_iff.1 hq) hw
                rw [if_neg hw, this]; rfl
            · unfold outR outF
              congr 1
              refine arT_ext fun x _ => ?_
              rw [← playT_len (o := o), List.take_length]
              by_cases hx : x = t
              · subst hx; rw [if_pos rfl, if_pos ((mem_take_succ hko).2 (.inr ht.symm))]
              · rw [if_neg hx]
                have : ((x : Int) ∈ o.take k) ↔ ((x : Int) ∈ o.take (k + 1)) := by
                  rw [mem_take_succ hko, ht]
                  exact ⟨.inl, fun hq => hq.resolve_right (fun e => hx (by omega))⟩
                simp only [this]
          · rfl
        rw [hj3]
      · congr 1
        unfold outF outR
        refine arT_ext fun x _ => ?_
        by_cases hx : x = t
        · subst hx; rw [if_pos rfl, if_neg hnin]; simp
        · rw [if_neg hx]
    · simp only [G.ser_Play_b1, show Sh.len o = ((o.length : Nat) : Int) from rfl, p.len, dec_lt, Nat.lt_irrefl, decide_false, Bool.false_eq_true, if_false, G.ser_Play_j1]
      congr 2
      unfold playL outF
      refine arT_ext fun x hx => ?_
      rw [← p.len, List.take_length, if_pos (p.all hx)]
    · rw [arT_zero, arT_zero]; rfl

theorem pEqT {a b : List G.api_Take} (ha : a.length < 9223372036854775807) : G.slices_Equal_api_Take_api_Take a b = some (decide (a = b)) := by
  unfold G.slices_Equal_api_Take_api_Take
  by_cases hl : a.length = b.length
  · have h1 : ¬ (Sh.len a) ≠ (Sh.len b) := by simp only [Sh.len]; omega
    rw [decide_eq_false h1]
    simp only [Bool.false_eq_true, if_false]
    rw [scan_true (b := fun (p : Int) => G.slices_Equal_api_Take_api_Take_b1 a b p) a.length (fun i => decide (a[i]? = b[i]?)) (fuel_gt (by omega)) (fun k hk => ?_) ?_]
    · congr 1
      refine decide_eq_decide.2 ⟨fun h => List.ext_getElem? fun i => ?_, fun h i _ => by rw [h]; exact decide_eq_true rfl⟩
      by_cases hi : i < a.length
      · simpa using h i hi
      · rw [List.getElem?_eq_none (by omega), List.getElem?_eq_none (by omega)]
    · simp [G.slices_Equal_api_Take_api_Take_b1, G.slices_Equal_api_Take_api_Take_j1, Sh.exit]
    · have hk2 : k < b.length := by omega
      simp only [G.slices_Equal_api_Take_api_Take_b1, dec_lt, hk, decide_true, if_true, idx_at hk, idx_at hk2, Option.bind_some, w64_succ (show k < 9223372036854775807 by omega), List.getElem?_eq_getElem hk, List.getElem?_eq_getElem hk2, Option.some.injEq]
      by_cases he : a[k] = b[k] <;> simp [he, Sh.exit, Sh.next]
  · have h1 : (Sh.len a) ≠ (Sh.len b) := by simp only [Sh.len]; omega
    have h2 : ¬ a = b := fun e => hl (by rw [e])
    rw [decide_eq_true h1, decide_eq_false h2]; rfl
theorem rPlace {o : List Int} (ho : o.length ≤ 9223372036854775807) (t : Int) : G.inquestref18_place o t = some (pos o (fun x => decide (x = t))) := by
  unfold G.inquestref18_place
  rw [find_loop o (fun x => decide (x = t)) (fun k => (k : Int)) (some (-1)) (fuel_gt (by omega)) (fun k hk => ?_) ?_, pos_some]
  · simp [G.inquestref18_place_b1, G.inquestref18_place_j1]
  · simp only [G.inquestref18_place_b1, dec_lt, hk, decide_true, if_true, idx_at hk, Option.bind_some, w64_succ (show k < 9223372036854775807 by omega)]
    rfl
theorem pos_mem {o : List Int} {t : Int} : (0 ≤ pos o (fun x => decide (x = t))) ↔ t ∈ o := by
  have h := contains_of_find o (fun x => decide (x = t))
  rw [Bool.eq_iff_iff, decide_eq_true_eq, List.any_eq_true] at h
  rw [h]
  exact ⟨fun ⟨x, h1, h2⟩ => by rw [← of_decide_eq_true h2]; exact h1, fun h => ⟨t, h, decide_eq_true rfl⟩⟩
theorem rPerm {n : Nat} (hn : n ≤ 9223372036854775807) (o : List Int) : G.inquestref18_Perm o (n : Int) = some (okO n o) := by
  unfold G.inquestref18_Perm
  by_cases hl : o.length = n
  · have h1 : ¬ (Sh.len o) ≠ (n : Int) := by simp only [Sh.len]; omega
    rw [decide_eq_false h1]
    simp only [Bool.false_eq_true, if_false]
    rw [scan_true (b := fun (p : Int) => G.inquestref18_Perm_b1 o n p) n (fun i => decide ((i : Int) ∈ o)) (fuel_gt (by omega)) (fun k hk => ?_) ?_]
    · congr 1
      rw [Bool.eq_iff_iff, decide_eq_true_eq, okO_iff]
      constructor
      · intro hq
        have := perm_cover hl (fun k hk => of_decide_eq_true (hq k hk))
        exact ⟨hl, this.2, this.1⟩
      · intro p k hk
        exact decide_eq_true (p.all hk)
    · simp [G.inquestref18_Perm_b1, G.inquestref18_Perm_j1, Sh.exit]
    · simp only [G.inquestref18_Perm_b1, dec_lt, hk, decide_true, if_true, rPlace (o := o) (by omega), Option.bind_some, w64_succ (show k < 9223372036854775807 by omega)]
      by_cases hp : (k : Int) ∈ o
      · have : ¬ pos o (fun x => decide (x = (k : Int))) < 0 := by have := pos_mem.2 hp; omega
        rw [decide_eq_false this, decide_eq_true hp]; rfl
      · have : pos o (fun x => decide (x = (k : Int))) < 0 := by
          have h2 : ¬ 0 ≤ pos o (fun x => decide (x = (k : Int))) := fun h => hp (pos_mem.1 h)
          omega
        rw [decide_eq_true this, decide_eq_false hp]; rfl
  · have h1 : (Sh.len o) ≠ (n : Int) := by simp only [Sh.len]; omega
    have h2 : okO n o = false := by
      cases hq : okO n o with
      | false => rfl
      | true => exact absurd (okO_iff.1 hq).len hl
    rw [decide_eq_true h1, h2]; rfl
end Pl
end

section
/- The statements of layer 20, in plain words: each answers true. -/
namespace Pl
open Go Go.Av

def sOK (h : G.api_Hist) (a b : Int) : Prop := ¬ (b < a ∧ (tx h a).Session = (tx h b).Session)
instance (h : G.api_Hist) (a b : Int) : Decidable (sOK h a b) := by unfold sOK; infer_instance
def sessB (h : G.api_Hist) (o : List Int) : Bool := decide (o.Pairwise (sOK h))
def lastS (h : G.api_Hist) (o : List Int) (s : Int) : Int := match o.reverse.find? fun t => decide ((tx h t).Session = s) with | some t => t + 1 | none => 0
theorem lastS_snoc {h : G.api_Hist} {o : List Int} {t s : Int} : lastS h (o ++ [t]) s = if (tx h t).Session = s then t + 1 else lastS h o s := by
  unfold lastS
  rw [List.reverse_append, List.reverse_singleton, List.singleton_append, List.find?_cons]
  by_cases hs : (tx h t).Session = s
  · simp [hs]
  · simp [hs]
theorem sess_step {h : G.api_Hist} : ∀ {o : List Int}, o.Nodup → (∀ a ∈ o, 0 ≤ a) → ((∀ k (hk : k < o.length), lastS h (o.take k) (tx h o[k]).Session ≤ o[k]) ↔ o.Pairwise (sOK h)) := by
  intro o hd hpos
  constructor
  · intro q
    have key : ∀ i (hi : i < o.length), ∀ k (hk : k < i), (tx h (o[k]'(by omega))).Session = (tx h o[i]).Session → o[k]'(by omega) < o[i] := by
      intro i
      induction i using Nat.strongRecOn with
      | ind i ih =>
        intro hi k hk hs
        have h1 := q i hi
        -- the last one of that session
        have key2 : ∀ (m : Nat) (hm : m ≤ i), (∃ k, ∃ hk : k < m, (tx h (o[k]'(by omega))).Session = (tx h o[i]).Session) → ∃ j, ∃ hj : j < m, (tx h (o[j]'(by omega))).Session = (tx h o[i]).Session ∧ lastS h (o.take m) (tx h o[i]).Session = o[j]'(by omega) + 1 ∧ ∀ x (hx : x < m), j < x → (tx h (o[x]'(by omega))).Session ≠ (tx h o[i]).Session := by
          intro m
          induction m with
          | zero => intro _ ⟨k, hk, _⟩; omega
          | succ m ihm =>
            intro hm ⟨k, hk, hks⟩
            have hmo : m < o.length := by omega
            rw [List.take_succ_eq_append_getElem hmo, lastS_snoc]
            by_cases he : (tx h o[m]).Session = (tx h o[i]).Session
            · exact ⟨m, by omega, he, if_pos he, fun x hx hjx => by omega⟩
            · have hkm : k < m := by
                rcases Nat.lt_or_ge k m with hlt | hge
                · exact hlt
                · have : k = m := by omega
                  subst this; exact absurd hks he
              obtain ⟨j, hj, a1, a2, a3⟩ := ihm (by omega) ⟨k, hkm, hks⟩
              refine ⟨j, by omega, a1, by rw [if_neg he]; exact a2, fun x hx hjx => ?_⟩
              by_cases hxm : x = m
              · subst hxm; exact he
              · exact a3 x (by omega) hjx
        obtain ⟨j, hj, a1, a2, a3⟩ := key2 i (Nat.le_refl _) ⟨k, hk, hs⟩
        have hji : o[j]'(by omega) < o[i] := by rw [a2] at h1; omega
        rcases Nat.lt_trichotomy k j with c | c | c
        · have := ih j hj (by omega) k c (hs.trans a1.symm)
          omega
        · subst c; exact hji
        · exact absurd hs (a3 k hk c)
    rw [List.pairwise_iff_getElem]
    intro k i hk hi hki
    intro ⟨h1, h2⟩
    have := key i hi k hki h2
    omega
  · intro q k hk
    have hb : ∀ (m : Nat) (hm : m ≤ k), lastS h (o.take m) (tx h o[k]).Session ≤ o[k] ∨ (∀ x (hx : x < m), (tx h (o[x]'(by omega))).Session ≠ (tx h o[k]).Session) := by
      intro m
      induction m with
      | zero => intro _; right; intro x hx; omega
      | succ m ihm =>
        intro hm
        have hmo : m < o.length := by omega
        rw [List.take_succ_eq_append_getElem hmo, lastS_snoc]
        by_cases he : (tx h o[m]).Session = (tx h o[k]).Session
        · left
          rw [if_pos he]
          have h1 := List.pairwise_iff_getElem.1 q m k hmo hk (by omega)
          have h2 : o[m] ≠ o[k] := fun e => by have := nd_inj hd hmo hk e; omega
          have h3 : ¬ o[k] < o[m] := fun hlt => h1 ⟨hlt, he⟩
          omega
        · rw [if_neg he]
          rcases ihm (by omega) with c | c
          · exact .inl c
          · exact .inr fun x hx => by
              by_cases hxm : x = m
              · subst hxm; exact he
              · exact c x (by omega)
    by_cases h0 : ∃ x, ∃ hx : x < k, (tx h (o[x]'(by omega))).Session = (tx h o[k]).Session
    · obtain ⟨x, hx, hs⟩ := h0
      rcases hb k (Nat.le_refl _) with c | c
      · exact c
      · exact absurd hs (c x hx)
    · have hne : ∀ m, m ≤ k → lastS h (o.take m) (tx h o[k]).Session = 0 := by
        intro m
        induction m with
        | zero => intro _; rfl
        | succ m ihm =>
          intro hm
          have hmo : m < o.length := by omega
          rw [List.take_succ_eq_append_getElem hmo, lastS_snoc, if_neg (fun e => h0 ⟨m, by omega, e⟩)]
          exact ihm (by omega)
      rw [hne k (Nat.le_refl _)]
      exact hpos _ (List.getElem_mem hk)

def readsL (h : G.api_Hist) : List (List G.api_Take) := arT h.Txns.length fun t : Nat => (tx h t).Reads
def checkB (h : G.api_Hist) (o : List Int) : Bool := right h && okO h.Txns.length o && decide (playL h o = readsL h) && sessB h o
theorem arT_eq {α : Type} {N : Nat} {F G : Nat → α} : arT N F = arT N G ↔ ∀ x, x < N → F x = G x := by
  constructor
  · intro h x hx
    have := congrArg (fun l => l[x]?) h
    simpa [arT_get F hx, arT_get G hx] using this
  · exact arT_ext
theorem pCheck {h : G.api_Hist} (hf : Fits h) (hb : ∀ t ∈ h.Txns, t.Reads.length ≤ 1000000) (o : List Int) : G.ser_Check h o = some (checkB h o) := by
  unfold G.ser_Check checkB
  rw [pSRight hf o]
  simp only [Option.bind_some]
  cases hq : (right h && okO h.Txns.length o) with
  | false => rfl
  | true =>
    rw [pPlay hf hb o, hq]
    simp only [Bool.and_eq_true] at hq
    obtain ⟨hr, hok⟩ := hq
    have p := okO_iff.1 hok
    have hn := right_len hr
    have hpl := p.len
    simp only [Bool.not_true, Bool.false_eq_true, if_false, if_true, Option.bind_some, Bool.true_and]
    have hj1 : G.ser_Check_j1 h o = some (sessB h o) := by
      unfold G.ser_Check_j1
      rw [scanS (fun k => (arT 8 (fun x : Nat => lastS h (o.take k) x), (k : Int))) o.length (fun k => match o[k]? with | some a => decide (lastS h (o.take k) (tx h a).Session ≤ a) | none => true) (some true) (some false) (fuel_gt (by omega)) (fun k hk _ => ?_) (fun _ => ?_) (by rw [arT_zero]; rfl)]
      · have e := sess_step (h := h) p.nodup (fun a ha => (p.node a ha).1)
        unfold sessB
        by_cases hs : o.Pairwise (sOK h)
        · rw [decide_eq_true hs, if_pos (fun k hk => by
            simp only [List.getElem?_eq_getElem hk, decide_eq_true_eq]; exact e.2 hs k hk)]
        · rw [decide_eq_false hs, if_neg (fun q => hs (e.1 fun k hk => by
            have := q k hk
            simpa only [List.getElem?_eq_getElem hk, decide_eq_true_eq] using this))]
      · obtain ⟨t, ht⟩ : ∃ t : Nat, o[k] = (t : Int) := ⟨o[k].toNat, by have := p.node _ (List.getElem_mem hk); omega⟩
        have htn : t < h.Txns.length := by have := p.node _ (List.getElem_mem hk); omega
        have hs := sess_key hr htn
        obtain ⟨s, hse⟩ : ∃ s : Nat, (tx h t).Session = (s : Int) := ⟨(tx h t).Session.toNat, by omega⟩
        have hs8 : s < 8 := by omega
        simp only [G.ser_Check_b1, show Sh.len o = ((o.length : Nat) : Int) from rfl, dec_lt, hk, decide_true, if_true, idx_at hk, ht, Option.bind_some, idx_txn htn, hse, arT_aidx _ hs8, List.getElem?_eq_getElem hk]
        by_cases hlt : (t : Int) < lastS h (o.take k) s
        · have : ¬ lastS h (o.take k) s ≤ (t : Int) := by omega
          simp only [hlt, this, decide_true, decide_false, if_true, Bool.false_eq_true, if_false]
        · have : lastS h (o.take k) s ≤ (t : Int) := by omega
          simp only [hlt, this, decide_true, decide_false, if_true, Bool.false_eq_true, if_false, Sh.next, w64_succ (show k < 9223372036854775807 by omega), arT_set]
          congr 3
          refine arT_ext fun x _ => ?_
          rw [List.take_succ_eq_append_getElem hk, lastS_snoc, ht, hse, w64_id (by omega) (by omega)]
          by_cases hx : x = s
          · subst hx; rw [if_pos rfl, if_pos rfl]
          · rw [if_neg hx, if_neg (fun e => hx (by omega))]
      · simp [G.ser_Check_b1, G.ser_Check_j2, Sh.exit]
    rw [scanS (s := (0 : Int)) (fun k => (k : Int)) h.Txns.length (fun k => decide (playT h o (k : Nat) = (tx h (k : Nat)).Reads)) (some (sessB h o)) (some false) (fuel_gt (by omega)) (fun k hk _ => ?_) (fun _ => ?_) rfl]
    · by_cases he : playL h o = readsL h
      · have := arT_eq.1 he
        rw [decide_eq_true he, if_pos (fun k hk => decide_eq_true (this k hk))]; rfl
      · rw [decide_eq_false he, if_neg (fun q => he (arT_ext fun x hx => of_decide_eq_true (q x hx)))]; rfl
    · have hkl : k < (playL h o).length := by simp [playL, hk]
      have hrow : Sh.idx (playL h o) (k : Int) = some (playT h o k) := arT_idx _ hk
      have hbd := hb _ (txn_in hk)
      simp only [G.ser_Check_b2, dec_lt, hkl, decide_true, if_true, hrow, Option.bind_some, idx_txn hk, pEqT (a := playT h o k) (b := (tx h k).Reads) (by rw [playT_len]; omega), w64_succ (show k < 9223372036854775807 by omega)]
      cases decide (playT h o k = (tx h k).Reads) <;> rfl
    · have hkl : ¬ h.Txns.length < (playL h o).length := by simp [playL]
      simp only [G.ser_Check_b2, dec_lt, hkl, decide_false, Bool.false_eq_true, if_false, hj1]
theorem awake20 : G.inquestlaw20_awake = some true := by kernel_rfl
theorem few_reads {h : G.api_Hist} {m : Int} (hf : few h m = true) : ∀ t ∈ h.Txns, t.Reads.length ≤ 1000000 := fun t ht => by
  simp only [few, Bool.and_eq_true, decide_eq_true_eq, List.all_eq_true] at hf
  have := (hf.2 t ht).2; omega
def played (h : G.api_Hist) (o : List Int) : G.api_Hist := ⟨arT h.Txns.length fun t : Nat => ⟨(tx h t).Session, (tx h t).Writes, playT h o t⟩⟩
theorem pre_eq {P Q : List Int} {t : Int} (hd : (P ++ t :: Q).Nodup) : (P ++ t :: Q).take (atO (P ++ t :: Q) t) = P := by
  have hk : P.length < (P ++ t :: Q).length := by simp
  have hg : (P ++ t :: Q)[P.length] = t := by simp
  have := atO_at hd hk
  rw [hg] at this
  rw [this]
  simp
theorem lastW_two {h : G.api_Hist} {A : List Int} {x y key : Int} (hn : ¬ (hasW (tx h x) key = true ∧ hasW (tx h y) key = true)) : ∀ B : List Int, lastW h (A ++ x :: y :: B) key = lastW h (A ++ y :: x :: B) key := by
  have key' : ∀ n (B : List Int), B.length = n → lastW h (A ++ x :: y :: B) key = lastW h (A ++ y :: x :: B) key := by
    intro n
    induction n with
    | zero =>
      intro B hB
      have := List.eq_nil_of_length_eq_zero hB
      subst this
      rw [show A ++ x :: y :: [] = (A ++ [x]) ++ [y] by simp, show A ++ y :: x :: [] = (A ++ [y]) ++ [x] by simp, lastW_snoc, lastW_snoc, lastW_snoc, lastW_snoc]
      cases h1 : hasW (tx h x) key <;> cases h2 : hasW (tx h y) key
      · rfl
      · rfl
      · rfl
      · exact absurd ⟨h1, h2⟩ hn
    | succ n ih =>
      intro B hB
      have hne : B ≠ [] := fun e => by rw [e] at hB; cases hB
      obtain ⟨C, c, rfl⟩ : ∃ C c, B = C ++ [c] := ⟨B.dropLast, B.getLast hne, (List.dropLast_concat_getLast hne).symm⟩
      rw [show A ++ x :: y :: (C ++ [c]) = (A ++ x :: y :: C) ++ [c] by simp, show A ++ y :: x :: (C ++ [c]) = (A ++ y :: x :: C) ++ [c] by simp, lastW_snoc, lastW_snoc, ih C (by simpa using hB)]
  exact fun B => key' _ B rfl
structure Apart (h : G.api_Hist) (x y : Int) : Prop where
  ww : ∀ key, ¬ (hasW (tx h x) key = true ∧ hasW (tx h y) key = true)
  xr : ∀ r ∈ (tx h x).Reads, hasW (tx h y) r.Key = false
  yr : ∀ r ∈ (tx h y).Reads, hasW (tx h x) r.Key = false
  ss : (tx h x).Session ≠ (tx h y).Session
theorem swap_check {h : G.api_Hist} {A B : List Int} {x y : Int} (a : Apart h x y) : checkB h (A ++ x :: y :: B) = checkB h (A ++ y :: x :: B) := by
  have hp : (A ++ x :: y :: B).Perm (A ++ y :: x :: B) := List.Perm.append_left A (List.Perm.swap y x B)
  have hok : okO h.Txns.length (A ++ x :: y :: B) = okO h.Txns.length (A ++ y :: x :: B) := by
    rw [Bool.eq_iff_iff, okO_iff, okO_iff]
    exact ⟨fun p => ⟨by rw [← hp.length_eq]; exact p.len, fun b hb => p.node b (hp.mem_iff.2 hb), hp.nodup_iff.1 p.nodup⟩, fun p => ⟨by rw [hp.length_eq]; exact p.len, fun b hb => p.node b (hp.mem_iff.1 hb), hp.nodup_iff.2 p.nodup⟩⟩
  unfold checkB
  rw [hok]
  cases hr : right h with
  | false => rfl
  | true =>
    cases hq : okO h.Txns.length (A ++ y :: x :: B) with
    | false => rfl
    | true =>
      have p' := okO_iff.1 hq
      have p := okO_iff.1 (hok.trans hq)
      have hs : sessB h (A ++ x :: y :: B) = sessB h (A ++ y :: x :: B) := by
        unfold sessB
        refine decide_eq_decide.2 ?_
        have h1 : sOK h x y := fun q => a.ss q.2
        have h2 : sOK h y x := fun q => a.ss q.2.symm
        simp only [List.pairwise_append, List.pairwise_cons, List.mem_cons]
        constructor
        · rintro ⟨q1, ⟨q2, q3, q4⟩, q5⟩
          refine ⟨q1, ⟨fun c hc => ?_, fun c hc => q2 c (.inr hc), q4⟩, fun c hc d hd => q5 c hc d ?_⟩
          · rcases hc with e | e
            · rw [e]; exact h2
            · exact q3 c e
          · rcases hd with e | e | e
            · exact .inr (.inl e)
            · exact .inl e
            · exact .inr (.inr e)
        · rintro ⟨q1, ⟨q2, q3, q4⟩, q5⟩
          refine ⟨q1, ⟨fun c hc => ?_, fun c hc => q2 c (.inr hc), q4⟩, fun c hc d hd => q5 c hc d ?_⟩
          · rcases hc with e | e
            · rw [e]; exact h1
            · exact q3 c e
          · rcases hd with e | e | e
            · exact .inr (.inl e)
            · exact .inl e
            · exact .inr (.inr e)
      have hpl : playL h (A ++ x :: y :: B) = playL h (A ++ y :: x :: B) := by
        unfold playL
        refine arT_ext fun t ht => ?_
        unfold playT
        refine List.map_congr_left fun r hrm => ?_
        congr 1
        have hm := p.all ht
        generalize hT : (t : Int) = T at hm hrm ⊢
        rcases List.mem_append.1 hm with c | c
        · obtain ⟨A1, A2, rfl⟩ := List.append_of_mem c
          rw [List.append_assoc, List.append_assoc, List.cons_append, pre_eq (by have := p.nodup; rwa [List.append_assoc, List.cons_append] at this), List.cons_append, pre_eq (by have := p'.nodup; rwa [List.append_assoc, List.cons_append] at this)]
        · rcases List.mem_cons.1 c with e | c
          · subst e
            rw [pre_eq p.nodup, show A ++ y :: T :: B = (A ++ [y]) ++ T :: B by simp, pre_eq (by have := p'.nodup; rwa [show A ++ y :: T :: B = (A ++ [y]) ++ T :: B by simp] at this), lastW_snoc, a.xr r hrm]; rfl
          · rcases List.mem_cons.1 c with e | c
            · subst e
              rw [pre_eq p'.nodup, show A ++ x :: T :: B = (A ++ [x]) ++ T :: B by simp, pre_eq (by have := p.nodup; rwa [show A ++ x :: T :: B = (A ++ [x]) ++ T :: B by simp] at this), lastW_snoc, a.yr r hrm]; rfl
            · obtain ⟨B1, B2, rfl⟩ := List.append_of_mem c
              have e1 : A ++ x :: y :: (B1 ++ T :: B2) = (A ++ x :: y :: B1) ++ T :: B2 := by simp
              have e2 : A ++ y :: x :: (B1 ++ T :: B2) = (A ++ y :: x :: B1) ++ T :: B2 := by simp
              rw [e1, e2, pre_eq (by have := p.nodup; rwa [e1] at this), pre_eq (by have := p'.nodup; rwa [e2] at this)]
              exact lastW_two (a.ww _) B1
      rw [hpl, hs]

def clash (x y : G.api_Txn) (key : Int) : Bool := (hasW y key && x.Reads.any fun r => decide (r.Key = key)) || (hasW x key && y.Reads.any fun r => decide (r.Key = key)) || (hasW x key && hasW y key)
theorem any_if {α : Type} {l : List G.api_Take} {key : Int} {c : Bool} {X Y : Option α} : (if ∀ k, k < l.length → (match l[k]? with | some r => !(c && decide (r.Key = key)) | none => true) = true then X else Y) = if (c && l.any fun r => decide (r.Key = key)) then Y else X := by
  cases c with
  | false =>
    rw [if_pos (fun k hk => by rw [List.getElem?_eq_getElem hk]; rfl)]; rfl
  | true =>
    cases ha : l.any fun r => decide (r.Key = key) with
    | false =>
      rw [if_pos (fun k hk => ?_)]; · rfl
      have := List.any_eq_false.1 ha l[k] (List.getElem_mem hk)
      rw [List.getElem?_eq_getElem hk]
      simpa using this
    | true =>
      rw [if_neg (fun q => ?_)]; · rfl
      obtain ⟨r, hr, he⟩ := List.any_eq_true.1 ha
      obtain ⟨k, hk, rfl⟩ := List.mem_iff_getElem.1 hr
      have := q k hk
      rw [List.getElem?_eq_getElem hk] at this
      simp [he] at this
theorem SerSwaps (h : G.api_Hist) (order : List Int) (at_ : Int) (hl : h.Txns.length ≤ 9223372036854775807) : G.inquestlaw20_SerSwaps h order at_ = some true := by
  unfold G.inquestlaw20_SerSwaps
  rw [awake20]
  simp only [Option.bind_some, Bool.not_true, Bool.false_eq_true, if_false]
  rw [rFew (by omega), show Sh.len h.Txns = ((h.Txns.length : Nat) : Int) from rfl, rPerm hl]
  simp only [Option.bind_some]
  cases hF : few h 40 with
  | false => rfl
  | true =>
    have hf := few_fits (by omega) hF
    have hb := few_reads hF
    cases hok : okO h.Txns.length order with
    | false => rfl
    | true =>
      simp only [Bool.not_true, Bool.false_eq_true, if_false, pRight hf, Option.bind_some]
      cases hr : right h with
      | false => rfl
      | true =>
        have p := okO_iff.1 hok
        have hn := right_len hr
        have hpl := p.len
        simp only [Bool.not_true, Bool.false_eq_true, if_false]
        by_cases h0 : at_ < 0
        · rw [decide_eq_true h0]; rfl
        · rw [decide_eq_false h0]
          simp only [Bool.false_eq_true, if_false]
          by_cases h1 : (w64 ((Sh.len order) - 1)) ≤ at_
          · rw [decide_eq_true h1]; rfl
          · rw [decide_eq_false h1]
            simp only [Sh.len] at h1
            rw [w64_id (by omega) (by omega)] at h1
            obtain ⟨k, rfl⟩ : ∃ k : Nat, at_ = (k : Int) := ⟨at_.toNat, by omega⟩
            have hk : k < order.length := by omega
            have hk1 : k + 1 < order.length := by omega
            have nat : ∀ k (hk : k < order.length), ∃ t : Nat, order[k] = (t : Int) ∧ t < h.Txns.length := fun k hk => by
              have := p.node _ (List.getElem_mem hk)
              exact ⟨order[k].toNat, by omega, by omega⟩
            obtain ⟨x, hx, hxn⟩ := nat k hk
            obtain ⟨y, hy, hyn⟩ := nat (k + 1) hk1
            have e1 : w64 ((k : Int) + 1) = ((k + 1 : Nat) : Int) := w64_succ (by omega)
            simp only [G.inquestlaw20_SerSwaps_j1, Bool.false_eq_true, if_false, e1, idx_at hk, idx_at hk1, hx, hy, Option.bind_some, idx_txn hxn, idx_txn hyn]
            by_cases hs : (tx h x).Session = (tx h y).Session
            · rw [decide_eq_true hs]; rfl
            · rw [decide_eq_false hs]
              simp only [Bool.false_eq_true, if_false]
              have hxw := hf.writes _ (txn_in hxn)
              have hyw := hf.writes _ (txn_in hyn)
              have hxr := hf.reads _ (txn_in hxn)
              have hyr := hf.reads _ (txn_in hyn)
              rw [scanS (s := (0 : Int)) (fun q => (q : Int)) 16 (fun q => !clash (tx h x) (tx h y) (q : Nat)) (G.inquestlaw20_SerSwaps_j2 h order k) (some true) (fuel_gt (by omega)) (fun q hq _ => ?_) (fun _ => ?_) rfl]
              · split
                · rename_i hall
                  have hcl : ∀ q : Nat, q < 16 → clash (tx h x) (tx h y) q = false := fun q hq => by simpa using hall q hq
                  have ap : Apart h x y := by
                    refine ⟨fun key ⟨w1, w2⟩ => ?_, fun r hrm => ?_, fun r hrm => ?_, hs⟩
                    · have := write_key hr hxn key (hasW_iff.1 w1)
                      have := hcl key.toNat (by omega)
                      rw [Int.toNat_of_nonneg (by omega)] at this
                      simp [clash, w1, w2] at this
                    · have := read_key hr hxn r hrm
                      have := hcl r.Key.toNat (by omega)
                      rw [Int.toNat_of_nonneg (by omega)] at this
                      cases hw : hasW (tx h y) r.Key with
                      | false => rfl
                      | true =>
                        have ha : ((tx h x).Reads.any fun r' => decide (r'.Key = r.Key)) = true := List.any_eq_true.2 ⟨r, hrm, decide_eq_true rfl⟩
                        simp only [clash, hw, ha, Bool.and_self, Bool.true_or] at this; cases this
                    · have := read_key hr hyn r hrm
                      have := hcl r.Key.toNat (by omega)
                      rw [Int.toNat_of_nonneg (by omega)] at this
                      cases hw : hasW (tx h x) r.Key with
                      | false => rfl
                      | true =>
                        have ha : ((tx h y).Reads.any fun r' => decide (r'.Key = r.Key)) = true := List.any_eq_true.2 ⟨r, hrm, decide_eq_true rfl⟩
                        simp only [clash, hw, ha, Bool.and_self, Bool.or_true, Bool.true_or] at this; cases this
                  have hsp : order = order.take k ++ (x : Int) :: (y : Int) :: order.drop (k + 2) := by
                    conv => lhs; rw [← List.take_append_drop k order]
                    rw [List.drop_eq_getElem_cons hk, List.drop_eq_getElem_cons hk1, hx, hy]
                  have hset : Sh.set (Sh.set order (k : Int) (y : Int)) ((k + 1 : Nat) : Int) (x : Int) = order.take k ++ (y : Int) :: (x : Int) :: order.drop (k + 2) := by
                    rw [set_at, set_at]
                    have htk : (order.take k).length = k := by simp; omega
                    conv => lhs; rw [hsp]
                    rw [List.set_append_right _ _ (by omega), List.set_append_right _ _ (by omega), htk]
                    simp
                  unfold G.inquestlaw20_SerSwaps_j2
                  rw [app_ok (by simp only [List.length_nil]; omega)]
                  have hk' : k + 1 < (Sh.set order (k : Int) (y : Int)).length := by simpa using hk1
                  simp only [Option.bind_some, List.nil_append, e1, idx_at hk, idx_at hk1, hx, hy, idx_at hk', hset, pCheck hf hb]
                  have hsw := swap_check (A := order.take k) (B := order.drop (k + 2)) ap
                  rw [← hsp] at hsw
                  rw [hsw, BEq.rfl]
                · rfl
              · simp only [G.inquestlaw20_SerSwaps_b1, show decide ((q : Int) < 16) = true from decide_eq_true (by omega), if_true, rWrites (t := tx h x) (by omega), rWrites (t := tx h y) (by omega), Option.bind_some]
                rw [scanS (s := (hasW (tx h y) (q : Int), (0 : Int))) (fun i => (hasW (tx h y) (q : Int), (i : Int))) (tx h x).Reads.length (fun i => match (tx h x).Reads[i]? with | some r => !(hasW (tx h y) (q : Int) && decide (r.Key = (q : Int))) | none => true) (G.inquestlaw20_SerSwaps_j4 (tx h y) (q : Int) (hasW (tx h x) (q : Int)) (hasW (tx h y) (q : Int))) (some (Sum.inr true)) (fuel_gt (by omega)) (fun i hi _ => ?_) (fun _ => ?_) rfl, any_if]
                · unfold clash
                  cases hc1 : (hasW (tx h y) (q : Int) && (tx h x).Reads.any fun r => decide (r.Key = (q : Int))) with
                  | true => rfl
                  | false =>
                    simp only [Bool.false_eq_true, if_false, Bool.false_or]
                    unfold G.inquestlaw20_SerSwaps_j4
                    rw [scanS (s := (hasW (tx h x) (q : Int), (0 : Int))) (fun i => (hasW (tx h x) (q : Int), (i : Int))) (tx h y).Reads.length (fun i => match (tx h y).Reads[i]? with | some r => !(hasW (tx h x) (q : Int) && decide (r.Key = (q : Int))) | none => true) (G.inquestlaw20_SerSwaps_j5 (q : Int) (hasW (tx h y) (q : Int)) (hasW (tx h x) (q : Int))) (some (Sum.inr true)) (fuel_gt (by omega)) (fun i hi _ => ?_) (fun _ => ?_) rfl, any_if]
                    · cases hc2 : (hasW (tx h x) (q : Int) && (tx h y).Reads.any fun r => decide (r.Key = (q : Int))) with
                      | true => rfl
                      | false =>
                        simp only [Bool.false_eq_true, if_false, Bool.false_or, G.inquestlaw20_SerSwaps_j5, G.inquestlaw20_SerSwaps_j6, G.inquestlaw20_SerSwaps_j3, w64_succ (show q < 9223372036854775807 by omega)]
                        cases hasW (tx h x) (q : Int) <;> cases hasW (tx h y) (q : Int) <;> rfl
                    · simp only [G.inquestlaw20_SerSwaps_b2, dec_lt, hi, decide_true, if_true, idx_at hi, Option.bind_some, List.getElem?_eq_getElem hi, G.inquestlaw20_SerSwaps_j7, w64_succ (show i < 9223372036854775807 by omega)]
                      cases hasW (tx h x) (q : Int)
                      · rfl
                      · by_cases hkq : ((tx h y).Reads[i]).Key = (q : Int) <;> simp [hkq, Sh.exit, Sh.next]
                    · simp only [G.inquestlaw20_SerSwaps_b2, dec_lt, Nat.lt_irrefl, decide_false, Bool.false_eq_true, if_false]
                · simp only [G.inquestlaw20_SerSwaps_b3, dec_lt, hi, decide_true, if_true, idx_at hi, Option.bind_some, List.getElem?_eq_getElem hi, G.inquestlaw20_SerSwaps_j8, w64_succ (show i < 9223372036854775807 by omega)]
                  cases hasW (tx h y) (q : Int)
                  · rfl
                  · by_cases hkq : ((tx h x).Reads[i]).Key = (q : Int) <;> simp [hkq, Sh.exit, Sh.next]
                · simp only [G.inquestlaw20_SerSwaps_b3, dec_lt, Nat.lt_irrefl, decide_false, Bool.false_eq_true, if_false]
              · simp [G.inquestlaw20_SerSwaps_b1]
end Pl
end
