/- What the plain functions answer. -/
import Derived.Test.YtdeepljikmgjjaaBase1
import Derived.Test.YtdeepljikmgjjaaSh
import Derived.KernelRfl
set_option linter.unusedSimpArgs false
set_option linter.unusedVariables false
section
/- What is used to reason about the plain functions. -/
namespace Pl
open Go Go.Av

theorem w64_id {n : Int} (h1 : -9223372036854775808 ≤ n) (h2 : n < 9223372036854775808) : w64 n = n := i64_wrap h1 h2
theorem idx_at {α : Type} {l : List α} {k : Nat} (h : k < l.length) : Sh.idx l (k : Int) = some l[k] := by
  simp [Sh.idx, h]
theorem idx_of {α : Type} {l : List α} {i : Int} (h0 : 0 ≤ i) (h : i < l.length) : Sh.idx l i = some (l[i.toNat]'(by omega)) := by
  unfold Sh.idx
  rw [if_pos h0]
  exact List.getElem?_eq_getElem (by omega)
theorem app_ok {α : Type} {b : Nat} {l m : List α} (h : (l.length + m.length) * b ≤ 140737488355328) : Sh.app b l m = some (l ++ m) := by
  simp [Sh.app, h]
theorem sub_ok {α : Type} {l : List α} {m k : Nat} (h1 : m ≤ k) (h2 : k ≤ l.length) : Sh.sub l (m : Int) (k : Int) = some ((l.drop m).take (k - m)) := by
  unfold Sh.sub
  rw [if_pos ⟨by omega, by omega, by omega⟩]
  simp
theorem set_at {α : Type} (l : List α) (k : Nat) (x : α) : Sh.set l (k : Int) x = l.set k x := by simp [Sh.set]
theorem count0 {α : Type} {b : Int → Option (Int ⊕ α)} (m : Nat) (r : α) (hm : m < Sh.FUEL) (h : ∀ k, k < m → b (k : Int) = some (.inl ((k + 1 : Nat) : Int))) (hr : b (m : Int) = some (.inr r)) : Sh.loop b 0 = some r :=
  Sh.loop_run (fun k => (k : Int)) m r hm h hr
theorem fuel_gt {n : Nat} (h : n < 9223372036854775808) : n < Sh.FUEL := h
theorem w64_succ {k : Nat} (h : k < 9223372036854775807) : w64 ((k : Int) + 1) = ((k + 1 : Nat) : Int) := by
  rw [w64_id (by omega) (by omega)]; omega
theorem len_eq {α : Type} (l : List α) : Sh.len l = (l.length : Int) := rfl
theorem dec_lt {k n : Nat} : decide ((k : Int) < (n : Int)) = decide (k < n) := by
  congr 1; exact propext (by omega)
end Pl
namespace Pl
open Go Go.Av
theorem scan {α : Type} {b : Int → Option (Int ⊕ α)} (s m : Nat) (p : Nat → Bool) (A B : α) (hsm : s ≤ m) (hm : m < Sh.FUEL) (h : ∀ k, s ≤ k → k < m → b (k : Int) = if p k then some (.inl ((k + 1 : Nat) : Int)) else some (.inr B)) (hr : b (m : Int) = some (.inr A)) :
    Sh.loop b (s : Int) = some (if ∀ k, k < m → s ≤ k → p k = true then A else B) := by
  by_cases hall : ∀ k, k < m → s ≤ k → p k = true
  · rw [if_pos hall]
    refine Sh.loop_run (fun k => ((s + k : Nat) : Int)) (m - s) A (by omega) (fun k hk => ?_) ?_
    · rw [h (s + k) (by omega) (by omega), if_pos (hall _ (by omega) (by omega))]; rfl
    · rw [show s + (m - s) = m by omega]; exact hr
  · rw [if_neg hall]
    have hex : ∃ k, s ≤ k ∧ k < m ∧ p k = false := by
      apply Classical.byContradiction
      intro hn
      exact hall (fun k h2 h1 => by
        cases hp : p k with
        | true => rfl
        | false => exact absurd ⟨k, h1, h2, hp⟩ hn)
    obtain ⟨k, hk, hmin⟩ := exists_least _ hex
    refine Sh.loop_run (fun q => ((s + q : Nat) : Int)) (k - s) B (by omega) (fun q hq => ?_) ?_
    · have : p (s + q) = true := by
        cases hp : p (s + q) with
        | true => rfl
        | false => have := hmin (s + q) ⟨by omega, by omega, hp⟩; omega
      rw [h (s + q) (by omega) (by omega), if_pos this]; rfl
    · rw [show s + (k - s) = k by omega, h k hk.1 hk.2.1, if_neg (by rw [hk.2.2]; simp)]
theorem scan0 {α : Type} {b : Int → Option (Int ⊕ α)} (m : Nat) (p : Nat → Bool) (A B : α) (hm : m < Sh.FUEL) (h : ∀ k, k < m → b (k : Int) = if p k then some (.inl ((k + 1 : Nat) : Int)) else some (.inr B)) (hr : b (m : Int) = some (.inr A)) :
    Sh.loop b 0 = some (if ∀ k, k < m → p k = true then A else B) := by
  have := scan 0 m p A B (by omega) hm (fun k _ hk => h k hk) hr
  simpa using this
end Pl
namespace Pl
open Go Go.Av
theorem run_exit {σ α : Type} {b : σ → Option (σ ⊕ α)} (S : Nat → σ) (m : Nat) (X : Option α) (hm : m < Sh.FUEL) (h : ∀ k, k < m → b (S k) = some (.inl (S (k + 1)))) (hr : b (S m) = Sh.exit X) {s : σ} (hs : s = S 0) : Sh.loop b s = X := by
  subst hs
  unfold Sh.loop
  rw [show Sh.FUEL = m + ((Sh.FUEL - m - 1) + 1) by omega, Sh.iter_go S m h]
  simp only [Sh.iter, hr]
  cases X <;> rfl
theorem count_exit {σ α : Type} {b : σ × Int → Option ((σ × Int) ⊕ α)} (S : Nat → σ) (m : Nat) (X : Option α) (hm : m < Sh.FUEL) (h : ∀ k, k < m → b (S k, (k : Int)) = some (.inl (S (k + 1), ((k + 1 : Nat) : Int)))) (hr : b (S m, (m : Int)) = Sh.exit X) {s : σ} (hs : s = S 0) :
    Sh.loop b (s, 0) = X := run_exit (fun k => (S k, (k : Int))) m X hm h hr (by rw [hs]; rfl)
end Pl
end

section
/- Loops over lists. -/
namespace Pl
open Go Go.Av

def foldE {σ α β : Type} (step : Nat → σ → α → σ ⊕ β) (X : σ → Option β) : Nat → List α → σ → Option β
  | _, [], s => X s
  | k, x :: l, s => match step k s x with
    | .inl s' => foldE step X (k + 1) l s'
    | .inr r => some r

theorem loop_step {σ β : Type} {b : σ → Option (σ ⊕ β)} {n : Nat} {s s' : σ} (h : b s = some (.inl s')) : Sh.iter b (n + 1) s = Sh.iter b n s' := by simp [Sh.iter, h]
theorem loop_stop {σ β : Type} {b : σ → Option (σ ⊕ β)} {n : Nat} {s : σ} {r : β} (h : b s = some (.inr r)) : Sh.iter b (n + 1) s = some r := by simp [Sh.iter, h]
theorem loop_exit {σ β : Type} {b : σ → Option (σ ⊕ β)} {n : Nat} {s : σ} {X : Option β} (h : b s = Sh.exit X) : Sh.iter b (n + 1) s = X := by cases X <;> simp [Sh.iter, h, Sh.exit]

theorem iter_fold {σ τ α β : Type} {b : τ → Option (τ ⊕ β)} (S : σ → Nat → τ) (step : Nat → σ → α → σ ⊕ β) (X : σ → Option β) (l0 : List α)
    (h : ∀ (k : Nat) (s : σ) (hk : k < l0.length), b (S s k) = match step k s l0[k] with | .inl s' => some (.inl (S s' (k + 1))) | .inr r => some (.inr r))
    (he : ∀ s, b (S s l0.length) = Sh.exit (X s)) : ∀ (l : List α) (k n : Nat) (s : σ), l0.drop k = l → k ≤ l0.length → l.length < n → Sh.iter b n (S s k) = foldE step X k l s := by
  intro l
  induction l with
  | nil =>
    intro k n s hl hk hn
    have hk2 : k = l0.length := by
      have : (l0.drop k).length = 0 := by rw [hl]; rfl
      simp at this; omega
    subst hk2
    obtain ⟨n, rfl⟩ : ∃ m, n = m + 1 := ⟨n - 1, by simp at hn; omega⟩
    exact loop_exit (he s)
  | cons x l ih =>
    intro k n s hl hk hn
    have hlen : (l0.drop k).length = l.length + 1 := by rw [hl]; rfl
    have hk2 : k < l0.length := by simp at hlen; omega
    obtain ⟨n, rfl⟩ : ∃ m, n = m + 1 := ⟨n - 1, by simp at hn; omega⟩
    have hx : l0[k] = x ∧ l0.drop (k + 1) = l := by
      rw [List.drop_eq_getElem_cons hk2] at hl
      simp only [List.cons.injEq] at hl
      exact hl
    have hb := h k s hk2
    rw [hx.1] at hb
    simp only [foldE]
    cases hs : step k s x with
    | inl s' =>
      rw [hs] at hb
      rw [loop_step hb]
      exact ih (k + 1) n s' hx.2 hk2 (by simp at hn; omega)
    | inr r =>
      rw [hs] at hb
      exact loop_stop hb

theorem loop_fold {σ τ α β : Type} {b : τ → Option (τ ⊕ β)} (S : σ → Nat → τ) (step : Nat → σ → α → σ ⊕ β) (X : σ → Option β) (l : List α) (hm : l.length < Sh.FUEL)
    (h : ∀ (k : Nat) (s : σ) (hk : k < l.length), b (S s k) = match step k s l[k] with | .inl s' => some (.inl (S s' (k + 1))) | .inr r => some (.inr r))
    (he : ∀ s, b (S s l.length) = Sh.exit (X s)) (s : σ) {t : τ} (ht : t = S s 0) : Sh.loop b t = foldE step X 0 l s := by
  subst ht
  exact iter_fold S step X l h he l 0 Sh.FUEL s rfl (Nat.zero_le _) hm

theorem find_loop {α β : Type} {b : Int → Option (Int ⊕ β)} (l : List α) (p : α → Bool) (A : Nat → β) (X : Option β) (hm : l.length < Sh.FUEL)
    (h : ∀ (k : Nat) (hk : k < l.length), b (k : Int) = if p l[k] then some (.inr (A k)) else some (.inl ((k + 1 : Nat) : Int)))
    (he : b (l.length : Int) = Sh.exit X) : Sh.loop b 0 = (l.findIdx? p).elim X (fun k => some (A k)) := by
  rw [loop_fold (σ := Unit) (α := α) (fun _ k => (k : Int)) (fun k _ x => if p x then .inr (A k) else .inl ()) (fun _ => X) l hm (fun k s hk => ?_) (fun _ => he) () (t := (0 : Int)) rfl]
  · have key : ∀ (l : List α) (k : Nat), foldE (fun k (_ : Unit) x => if p x then Sum.inr (A k) else Sum.inl ()) (fun _ => X) k l () = (l.findIdx? p).elim X (fun i => some (A (k + i))) := by
      intro l
      induction l with
      | nil => intro k; simp [foldE]
      | cons x l ih =>
        intro k
        simp only [foldE, List.findIdx?_cons]
        cases hp : p x with
        | true => simp
        | false =>
          simp only [Bool.false_eq_true, if_false]
          rw [ih (k + 1)]
          cases l.findIdx? p with
          | none => rfl
          | some i => simp only [Option.map_some, Option.elim_some]; congr 2; omega
    rw [key l 0]
    simp
  · rw [h k hk]
    cases p l[k] <;> rfl

theorem any_loop {α β : Type} {b : Int → Option (Int ⊕ β)} (l : List α) (p : α → Bool) (A : β) (X : Option β) (hm : l.length < Sh.FUEL)
    (h : ∀ (k : Nat) (hk : k < l.length), b (k : Int) = if p l[k] then some (.inr A) else some (.inl ((k + 1 : Nat) : Int)))
    (he : b (l.length : Int) = Sh.exit X) : Sh.loop b 0 = if l.any p then some A else X := by
  rw [find_loop l p (fun _ => A) X hm h he]
  cases hf : l.findIdx? p with
  | none =>
    have : l.any p = false := by
      rw [List.findIdx?_eq_none_iff] at hf
      rw [List.any_eq_false]
      intro x hx
      simpa using hf x hx
    rw [this]; rfl
  | some i =>
    have : l.any p = true := by
      rw [List.any_eq_true]
      rw [List.findIdx?_eq_some_iff_getElem] at hf
      obtain ⟨hi, hp, _⟩ := hf
      exact ⟨l[i], List.getElem_mem hi, hp⟩
    rw [this]; rfl

def pos {α : Type} (l : List α) (p : α → Bool) : Int := (l.findIdx? p).elim (-1) (fun k => (k : Int))
theorem pos_some {α : Type} (l : List α) (p : α → Bool) : (l.findIdx? p).elim (some (-1 : Int)) (fun k => some (k : Int)) = some (pos l p) := by unfold pos; cases l.findIdx? p <;> rfl
theorem contains_of_find {α : Type} (l : List α) (p : α → Bool) : decide ((0 : Int) ≤ pos l p) = l.any p := by
  unfold pos
  cases hf : l.findIdx? p with
  | none =>
    have : l.any p = false := by
      rw [List.findIdx?_eq_none_iff] at hf
      rw [List.any_eq_false]
      intro x hx
      simpa using hf x hx
    rw [this]; rfl
  | some i =>
    have : l.any p = true := by
      rw [List.any_eq_true]
      rw [List.findIdx?_eq_some_iff_getElem] at hf
      obtain ⟨hi, hp, _⟩ := hf
      exact ⟨l[i], List.getElem_mem hi, hp⟩
    rw [this]; simp
end Pl
end

section
/- Whether a history may be. -/
namespace Pl
open Go Go.Av

theorem pIdx {l : List Int} (hl : l.length < 9223372036854775808) (v : Int) : G.slices_Index_int_int l v = some (pos l (fun x => decide (v = x))) := by
  unfold G.slices_Index_int_int
  rw [find_loop l (fun x => decide (v = x)) (fun k => (k : Int)) (some (-1)) (fuel_gt hl) (fun k hk => ?_) ?_, pos_some]
  · simp [G.slices_Index_int_int_b1, G.slices_Index_int_int_j1]
  · simp only [G.slices_Index_int_int_b1, dec_lt, hk, decide_true, if_true, idx_at hk, Option.bind_some, w64_succ (show k < 9223372036854775807 by omega)]
    rfl
theorem pHas {l : List Int} (hl : l.length < 9223372036854775808) (v : Int) : G.slices_Contains_int_int l v = some (l.any (fun x => decide (v = x))) := by
  unfold G.slices_Contains_int_int
  rw [pIdx hl, Option.bind_some, contains_of_find]

def rising : Int → List Int → Bool
  | _, [] => true
  | last, x :: l => decide (last < x) && decide (x < 16) && rising x l
def hasW (t : G.api_Txn) (k : Int) : Bool := t.Writes.any (fun x => decide (k = x))
def there (h : G.api_Hist) (n : Int) (x : G.api_Take) : Bool :=
  decide (x.From = -1) || (decide (0 ≤ x.From) && decide (x.From < (h.Txns.length : Int)) && decide (x.From ≠ n) && match h.Txns[x.From.toNat]? with | some t => hasW t x.Key | none => false)
def takes (h : G.api_Hist) (n : Int) : Int → List G.api_Take → Bool
  | _, [] => true
  | last, x :: l => decide (last < x.Key) && decide (x.Key < 16) && there h n x && takes h n x.Key l
def okT (h : G.api_Hist) (n : Int) (t : G.api_Txn) : Bool := rising (-1) t.Writes && takes h n (-1) t.Reads && decide (0 ≤ t.Session) && decide (t.Session < 8)
def okAll (h : G.api_Hist) : Nat → List G.api_Txn → Bool
  | _, [] => true
  | n, t :: l => okT h n t && okAll h (n + 1) l
def right (h : G.api_Hist) : Bool := decide (h.Txns.length ≤ 32) && okAll h 0 h.Txns

structure Fits (h : G.api_Hist) : Prop where
  txns : h.Txns.length < 9223372036854775807
  writes : ∀ t ∈ h.Txns, t.Writes.length < 9223372036854775807
  reads : ∀ t ∈ h.Txns, t.Reads.length < 9223372036854775807

theorem y1 (c y : Bool) : G.hist_Right__r c y = some (if y then (c, true) else (false, false)) := by cases y <;> rfl

theorem pThere {h : G.api_Hist} (hf : Fits h) (n : Int) (x : G.api_Take) {α : Type} (K : Bool → Option α) :
    (if decide (x.From = (-1)) then K true else if decide ((0 : Int) ≤ x.From) then if decide (x.From < (Sh.len h.Txns)) then if decide (x.From ≠ n) then (Sh.idx h.Txns x.From).bind fun x840 => (G.slices_Contains_int_int x840.Writes x.Key).bind fun r842 => K r842 else K false else K false else K false) = K (there h n x) := by
  unfold there
  by_cases h1 : x.From = -1
  · simp [h1]
  · by_cases h2 : 0 ≤ x.From
    · by_cases h3 : x.From < (h.Txns.length : Int)
      · by_cases h4 : x.From = n
        · subst h4; simp [h1, h2, h3]
        · have h5 : h.Txns[x.From.toNat]? = some (h.Txns[x.From.toNat]'(by omega)) := List.getElem?_eq_getElem (by omega)
          rw [idx_of h2 h3, h5]
          have := hf.writes _ (List.getElem_mem (show x.From.toNat < h.Txns.length by omega))
          have h6 := pHas (l := (h.Txns[x.From.toNat]'(by omega)).Writes) (by omega) x.Key
          simp [h1, h2, h3, h4, h6, hasW]
      · simp [h1, h2, h3]
    · simp [h1, h2]

theorem pReads {h : G.api_Hist} (hf : Fits h) (n : Int) (t : G.api_Txn) (ht : t ∈ h.Txns) (c : Bool) : G.hist_faults_1__hist_Right__r_j2 h n t c = if takes h n (-1) t.Reads then G.hist_faults_1__hist_Right__r_j3 n t c else some (.inr (false, false)) := by
  unfold G.hist_faults_1__hist_Right__r_j2
  have hl := hf.reads t ht
  rw [loop_fold (σ := Bool × Int) (fun s k => (s.1, s.2, (k : Int))) (fun _ s x => if decide (s.2 < x.Key) && decide (x.Key < 16) && there h n x then .inl (s.1, x.Key) else .inr (.inr (false, false))) (fun s => G.hist_faults_1__hist_Right__r_j3 n t s.1) t.Reads (fuel_gt (by omega)) (fun k s hk => ?_) (fun s => ?_) (c, -1) (t := (c, (-1 : Int), (0 : Int))) rfl]
  · have key : ∀ (l : List G.api_Take) (k : Nat) (last : Int), foldE (fun _ (s : Bool × Int) (x : G.api_Take) => if decide (s.2 < x.Key) && decide (x.Key < 16) && there h n x then Sum.inl (s.1, x.Key) else Sum.inr (.inr (false, false))) (fun s => G.hist_faults_1__hist_Right__r_j3 n t s.1) k l (c, last) = if takes h n last l then G.hist_faults_1__hist_Right__r_j3 n t c else some (.inr (false, false)) := by
      intro l
      induction l with
      | nil => intro k last; simp [foldE, takes]
      | cons x l ih =>
        intro k last
        simp only [foldE]
        rw [show takes h n last (x :: l) = (decide (last < x.Key) && decide (x.Key < 16) && there h n x && takes h n x.Key l) from rfl]
        by_cases hq : (decide (last < x.Key) && decide (x.Key < 16) && there h n x) = true
        · rw [if_pos hq, hq, Bool.true_and]; exact ih (k + 1) x.Key
        · rw [if_neg hq, Bool.eq_false_iff.2 hq]; simp
    exact key t.Reads 0 (-1)
  · obtain ⟨c, last⟩ := s
    simp only [G.hist_faults_1__hist_Right__r_b2, dec_lt, hk, decide_true, if_true, idx_at hk, Option.bind_some]
    rw [pThere hf n t.Reads[k] (fun b => G.hist_faults_1__hist_Right__r_j4 c last k t.Reads[k] b)]
    simp only [G.hist_faults_1__hist_Right__r_j4, y1, G.hist_faults_1__hist_Right__r_j5, w64_succ (show k < 9223372036854775807 by omega), Option.bind_some]
    by_cases h1 : last < t.Reads[k].Key
    · by_cases h2 : t.Reads[k].Key < 16
      · cases h3 : there h n t.Reads[k] <;> simp [h1, h2, Sh.exit, Sh.next]
      · simp [h1, h2, Sh.exit]
    · simp [h1, Sh.exit]
  · simp [G.hist_faults_1__hist_Right__r_b2]

theorem pWrites {h : G.api_Hist} (hf : Fits h) (n : Nat) (hn : n < 9223372036854775807) (t : G.api_Txn) (ht : t ∈ h.Txns) (c : Bool) :
    Sh.loop (fun (p : Bool × Int × Int) => G.hist_faults_1__hist_Right__r_b3 h n t p.1 p.2.1 p.2.2) (c, (-1), 0) = if okT h n t then some (.inl (c, ((n + 1 : Nat) : Int))) else some (.inr (false, false)) := by
  have hl := hf.writes t ht
  rw [loop_fold (σ := Bool × Int) (fun s k => (s.1, s.2, (k : Int))) (fun _ s x => if decide (s.2 < x) && decide (x < 16) then .inl (s.1, x) else .inr (.inr (false, false))) (fun s => G.hist_faults_1__hist_Right__r_j2 h n t s.1) t.Writes (fuel_gt (by omega)) (fun k s hk => ?_) (fun s => ?_) (c, -1) (t := (c, (-1 : Int), (0 : Int))) rfl]
  · have key : ∀ (l : List Int) (k : Nat) (last : Int), foldE (fun _ (s : Bool × Int) (x : Int) => if decide (s.2 < x) && decide (x < 16) then Sum.inl (s.1, x) else Sum.inr (.inr (false, false))) (fun s => G.hist_faults_1__hist_Right__r_j2 h n t s.1) k l (c, last) = if rising last l then G.hist_faults_1__hist_Right__r_j2 h n t c else some (.inr (false, false)) := by
      intro l
      induction l with
      | nil => intro k last; simp [foldE, rising]
      | cons x l ih =>
        intro k last
        simp only [foldE]
        rw [show rising last (x :: l) = (decide (last < x) && decide (x < 16) && rising x l) from rfl]
        by_cases hq : (decide (last < x) && decide (x < 16)) = true
        · rw [if_pos hq, hq, Bool.true_and]; exact ih (k + 1) x
        · rw [if_neg hq, Bool.eq_false_iff.2 hq]; simp
    rw [key t.Writes 0 (-1), pReads hf n t ht]
    unfold okT
    cases h1 : rising (-1) t.Writes
    · simp
    · cases h2 : takes h n (-1) t.Reads
      · simp
      · simp only [G.hist_faults_1__hist_Right__r_j3, y1, G.hist_faults_1__hist_Right__r_j1, w64_succ hn, Option.bind_some]
        by_cases h3 : 0 ≤ t.Session
        · by_cases h4 : t.Session < 8 <;> simp [h3, h4, Sh.exit, Sh.next]
        · simp [h3, Sh.exit]
  · obtain ⟨c, last⟩ := s
    simp only [G.hist_faults_1__hist_Right__r_b3, dec_lt, hk, decide_true, if_true, idx_at hk, Option.bind_some, y1, G.hist_faults_1__hist_Right__r_j6, w64_succ (show k < 9223372036854775807 by omega)]
    by_cases h1 : last < t.Writes[k]
    · by_cases h2 : t.Writes[k] < 16 <;> simp [h1, h2, Sh.exit, Sh.next]
    · simp [h1, Sh.exit]
  · simp [G.hist_faults_1__hist_Right__r_b3]

theorem pRight {h : G.api_Hist} (hf : Fits h) : G.hist_Right h = some (right h) := by
  have hl := hf.txns
  have hloop : ∀ c, Sh.loop (fun (p : Bool × Int) => G.hist_faults_1__hist_Right__r_b1 h p.1 p.2) (c, 0) = if okAll h 0 h.Txns then some (c, true) else some (false, false) := by
    intro c
    rw [loop_fold (σ := Bool) (fun s k => (s, (k : Int))) (fun k s x => if okT h k x then .inl s else .inr (false, false)) (fun s => some (s, true)) h.Txns (fuel_gt (by omega)) (fun k s hk => ?_) (fun s => ?_) c (t := (c, (0 : Int))) rfl]
    · have key : ∀ (l : List G.api_Txn) (k : Nat), foldE (fun k (s : Bool) (x : G.api_Txn) => if okT h (k : Nat) x then Sum.inl s else Sum.inr (false, false)) (fun s => some (s, true)) k l c = if okAll h k l then some (c, true) else some (false, false) := by
        intro l
        induction l with
        | nil => intro k; simp [foldE, okAll]
        | cons x l ih =>
          intro k
          simp only [foldE]
          rw [show okAll h k (x :: l) = (okT h (k : Nat) x && okAll h (k + 1) l) from rfl]
          by_cases hq : okT h (k : Nat) x = true
          · rw [if_pos hq, hq, Bool.true_and]; exact ih (k + 1)
          · rw [if_neg hq, Bool.eq_false_iff.2 hq]; simp
      exact key h.Txns 0
    · simp only [G.hist_faults_1__hist_Right__r_b1, dec_lt, hk, decide_true, if_true, idx_at hk, Option.bind_some]
      rw [pWrites hf k (by omega) _ (List.getElem_mem hk)]
      cases okT h k h.Txns[k] <;> rfl
    · simp [G.hist_faults_1__hist_Right__r_b1]
  unfold G.hist_Right G.hist_faults G.hist_faults_1__hist_Right__r right
  simp only [Option.bind_some, y1, len_eq]
  by_cases h1 : h.Txns.length ≤ 32
  · have h2 : ((h.Txns.length : Int) ≤ 32) := by omega
    simp only [h1, h2, decide_true, if_true, hloop, Bool.true_and]
    cases okAll h 0 h.Txns <;> simp
  · have h2 : ¬ ((h.Txns.length : Int) ≤ 32) := by omega
    simp [h1, h2]

end Pl
end

section
/- Edges, one by one: what the program and the reference answer. -/


namespace Pl
open Go Go.Av

def tx (h : G.api_Hist) (x : Int) : G.api_Txn := (h.Txns[x.toNat]?).getD default
def inr (h : G.api_Hist) (x : Int) : Bool := decide (0 ≤ x) && decide (x < (h.Txns.length : Int))
theorem inr_iff {h : G.api_Hist} {x : Int} : inr h x = true ↔ 0 ≤ x ∧ x < (h.Txns.length : Int) := by simp [inr]
theorem idx_tx {h : G.api_Hist} {x : Int} (hx : inr h x = true) : Sh.idx h.Txns x = some (tx h x) := by
  rw [inr_iff] at hx
  rw [idx_of hx.1 hx.2]
  simp [tx, List.getElem?_eq_getElem (show x.toNat < h.Txns.length by omega)]
theorem tx_mem {h : G.api_Hist} {x : Int} (hx : inr h x = true) : tx h x ∈ h.Txns := by
  rw [inr_iff] at hx
  simp only [tx, List.getElem?_eq_getElem (show x.toNat < h.Txns.length by omega), Option.getD_some]
  exact List.getElem_mem _

def isW (h : G.api_Hist) (x y : Int) (c : G.api_Choice) : Bool := decide (c.A = x) && decide (c.B = y) && decide (x ≠ y) && hasW (tx h x) c.Key && hasW (tx h y) c.Key
def dirS (h : G.api_Hist) (l : List G.api_Choice) (x y : Int) : Bool :=
  (decide (x < y) && decide ((tx h x).Session = (tx h y).Session)) || (tx h y).Reads.any (fun r => decide (r.From = x)) || l.any (isW h x y)
def isO (h : G.api_Hist) (l : List G.api_Choice) (y : Int) (r : G.api_Take) : Bool :=
  hasW (tx h y) r.Key && (decide (r.From < 0) || (decide (r.From ≠ y) && l.any (fun c => decide (G.api_Choice.mk r.Key r.From y = c))))
def antS (h : G.api_Hist) (l : List G.api_Choice) (x y : Int) : Bool := decide (x ≠ y) && (tx h x).Reads.any (isO h l y)
def two (h : G.api_Hist) (x y : Int) : Bool := right h && inr h x && inr h y
def direct (h : G.api_Hist) (l : List G.api_Choice) (x y : Int) : Bool := two h x y && dirS h l x y
def anti (h : G.api_Hist) (l : List G.api_Choice) (x y : Int) : Bool := two h x y && antS h l x y
def edge (h : G.api_Hist) (lev : Int) (l : List G.api_Choice) (x y : Int) : Bool :=
  if lev = 0 then direct h l x y || anti h l x y
  else if lev = 1 then (List.range h.Txns.length).any (fun m => direct h l x m && (decide ((m : Int) = y) || anti h l m y))
  else false
def ring (h : G.api_Hist) (lev : Int) (l : List G.api_Choice) (row : List Int) : Bool :=
  decide (0 < row.length) && (List.range row.length).all (fun i => !((row.take i).any (fun x => decide (row.getD i 0 = x))) && edge h lev l (row.getD i 0) (row.getD ((i + 1) % row.length) 0))

theorem pWritesAt {h : G.api_Hist} (hf : Fits h) {x : Int} (hx : inr h x = true) (k : Int) : G.edge_writes h x k = some (hasW (tx h x) k) := by
  unfold G.edge_writes
  have := hf.writes _ (tx_mem hx)
  rw [idx_tx hx]
  simp only [Option.bind_some]
  rw [pHas (by omega)]
  rfl
theorem pRead {h : G.api_Hist} (hf : Fits h) {x y : Int} (hy : inr h y = true) (u : G.edge_read) : G.edge_read_is u h x y = some ((tx h y).Reads.any (fun r => decide (r.From = x))) := by
  have hl := hf.reads _ (tx_mem hy)
  unfold G.edge_read_is
  rw [idx_tx hy]
  simp only [Option.bind_some]
  unfold G.slices_ContainsFunc_api_Take_api_Take__edge_read_is_1 G.slices_IndexFunc_api_Take_api_Take__edge_read_is_1
  rw [find_loop (tx h y).Reads (fun r => decide (r.From = x)) (fun k => (k : Int)) (some (-1)) (fuel_gt (by omega)) (fun k hk => ?_) ?_, pos_some, Option.bind_some, contains_of_find]
  · rfl
  · simp [G.slices_IndexFunc_api_Take_api_Take__edge_read_is_1_b1, G.slices_IndexFunc_api_Take_api_Take__edge_read_is_1_j1]
  · simp only [G.slices_IndexFunc_api_Take_api_Take__edge_read_is_1_b1, dec_lt, hk, decide_true, if_true, idx_at hk, Option.bind_some, G.edge_read_is_1__1, w64_succ (show k < 9223372036854775807 by omega)]
    rfl
theorem pWritten {h : G.api_Hist} (hf : Fits h) {x y : Int} (hx : inr h x = true) (hy : inr h y = true) {l : List G.api_Choice} (hl : l.length < 9223372036854775807) : G.edge_written_is l h x y = some (l.any (isW h x y)) := by
  have h1 : ∀ c, G.edge_written_is_1__1 c x y h = some (isW h x y c) := fun c => by
    unfold G.edge_written_is_1__1 isW
    by_cases a : c.A = x <;> by_cases b : c.B = y <;> by_cases d : x = y <;> simp [a, b, d, pWritesAt hf hx, pWritesAt hf hy]
    cases hasW (tx h x) c.Key <;> simp
  unfold G.edge_written_is G.slices_ContainsFunc_edge_written_api_Choice__edge_written_is_1 G.slices_IndexFunc_edge_written_api_Choice__edge_written_is_1
  rw [find_loop l (isW h x y) (fun k => (k : Int)) (some (-1)) (fuel_gt (by omega)) (fun k hk => ?_) ?_, pos_some, Option.bind_some, contains_of_find]
  · rfl
  · simp [G.slices_IndexFunc_edge_written_api_Choice__edge_written_is_1_b1, G.slices_IndexFunc_edge_written_api_Choice__edge_written_is_1_j1]
  · simp only [G.slices_IndexFunc_edge_written_api_Choice__edge_written_is_1_b1, dec_lt, hk, decide_true, if_true, idx_at hk, Option.bind_some, h1, w64_succ (show k < 9223372036854775807 by omega)]
    rfl
theorem pHasC {l : List G.api_Choice} (hl : l.length < 9223372036854775807) (v : G.api_Choice) : G.slices_Contains_edge_over_api_Choice l v = some (l.any (fun c => decide (v = c))) := by
  unfold G.slices_Contains_edge_over_api_Choice G.slices_Index_edge_over_api_Choice
  rw [find_loop l (fun c => decide (v = c)) (fun k => (k : Int)) (some (-1)) (fuel_gt (by omega)) (fun k hk => ?_) ?_, pos_some, Option.bind_some, contains_of_find]
  · simp [G.slices_Index_edge_over_api_Choice_b1, G.slices_Index_edge_over_api_Choice_j1]
  · simp only [G.slices_Index_edge_over_api_Choice_b1, dec_lt, hk, decide_true, if_true, idx_at hk, Option.bind_some, w64_succ (show k < 9223372036854775807 by omega)]
    rfl
theorem pOver {h : G.api_Hist} (hf : Fits h) {x y : Int} (hx : inr h x = true) (hy : inr h y = true) {l : List G.api_Choice} (hl : l.length < 9223372036854775807) : G.edge_over_is l h x y = some (antS h l x y) := by
  have hr := hf.reads _ (tx_mem hx)
  have h1 : ∀ r, G.edge_over_is_1__1 r h y l = some (isO h l y r) := fun r => by
    unfold G.edge_over_is_1__1 isO
    rw [pWritesAt hf hy]
    simp only [Option.bind_some, pHasC hl]
    cases hasW (tx h y) r.Key
    · rfl
    · by_cases a : r.From < 0
      · simp [a]
      · by_cases b : r.From = y
        · have a' : ¬ y < 0 := b ▸ a
          simp [b, a']
        · simp [a, b]
  unfold G.edge_over_is antS
  by_cases hxy : x = y
  · simp [hxy]
  · rw [idx_tx hx]
    simp only [ne_eq, hxy, not_false_eq_true, decide_true, if_true, Option.bind_some, Bool.true_and]
    unfold G.slices_ContainsFunc_api_Take_api_Take__edge_over_is_1 G.slices_IndexFunc_api_Take_api_Take__edge_over_is_1
    rw [find_loop (tx h x).Reads (isO h l y) (fun k => (k : Int)) (some (-1)) (fuel_gt (by omega)) (fun k hk => ?_) ?_, pos_some, Option.bind_some, contains_of_find]
    · rfl
    · simp [G.slices_IndexFunc_api_Take_api_Take__edge_over_is_1_b1, G.slices_IndexFunc_api_Take_api_Take__edge_over_is_1_j1]
    · simp only [G.slices_IndexFunc_api_Take_api_Take__edge_over_is_1_b1, dec_lt, hk, decide_true, if_true, idx_at hk, Option.bind_some, h1, w64_succ (show k < 9223372036854775807 by omega)]
      rfl
theorem pSession {h : G.api_Hist} {x y : Int} (hx : inr h x = true) (hy : inr h y = true) (u : G.edge_session) : G.edge_session_is u h x y = some (decide (x < y) && decide ((tx h x).Session = (tx h y).Session)) := by
  unfold G.edge_session_is
  rw [idx_tx hx, idx_tx hy]
  by_cases h1 : x < y <;> simp [h1]

theorem minmax {h : G.api_Hist} {x y : Int} : (decide (Sh.min x y < 0) = false ∧ decide (Sh.len h.Txns ≤ Sh.max x y) = false) ↔ (inr h x = true ∧ inr h y = true) := by
  rw [decide_eq_false_iff_not, decide_eq_false_iff_not, inr_iff, inr_iff]
  unfold Sh.min Sh.max Sh.len
  split <;> split <;> omega

theorem pDirect {h : G.api_Hist} (hf : Fits h) {l : List G.api_Choice} (hl : l.length < 9223372036854775807) (x y : Int) : G.edge_Direct h l x y = some (direct h l x y) := by
  unfold G.edge_Direct G.edge_some__lit3 direct two
  rw [pRight hf]
  simp only [Option.bind_some, G.edge_some__lit3_j1]
  cases hr : right h
  · simp
  · by_cases hin : inr h x = true ∧ inr h y = true
    · obtain ⟨m1, m2⟩ := (minmax (h := h)).2 hin
      obtain ⟨hx, hy⟩ := hin
      simp only [m1, m2, hx, hy, Bool.not_true, Bool.false_eq_true, if_false, Bool.and_self, Bool.true_and]
      unfold G.slices_ContainsFunc_edge_kind_edge_kind__lit3_edge_some_1 G.slices_IndexFunc_edge_kind_edge_kind__lit3_edge_some_1 G.edge_some_1__edge_session G.edge_some_1__edge_read G.edge_some_1__edge_written
      rw [pSession hx hy, pRead hf hy, pWritten hf hx hy hl]
      simp only [Option.bind_some, G.slices_IndexFunc_edge_kind_edge_kind__lit3_edge_some_1_j1, dirS]
      cases decide (x < y) && decide ((tx h x).Session = (tx h y).Session)
      · cases (tx h y).Reads.any (fun r => decide (r.From = x))
        · cases l.any (isW h x y) <;> simp
        · simp
      · simp
    · have hm : ¬ (decide (Sh.min x y < 0) = false ∧ decide (Sh.len h.Txns ≤ Sh.max x y) = false) := fun hm => hin ((minmax (h := h)).1 hm)
      have hz : (inr h x && inr h y) = false := by
        cases a : inr h x <;> cases b : inr h y <;> simp_all
      rw [Bool.true_and, hz]
      simp only [Bool.not_true, Bool.false_eq_true, if_false, Bool.false_and]
      cases m1 : decide (Sh.min x y < 0)
      · cases m2 : decide (Sh.len h.Txns ≤ Sh.max x y)
        · exact absurd ⟨m1, m2⟩ hm
        · simp
      · simp
theorem pAnti {h : G.api_Hist} (hf : Fits h) {l : List G.api_Choice} (hl : l.length < 9223372036854775807) (x y : Int) : G.edge_Anti h l x y = some (anti h l x y) := by
  unfold G.edge_Anti G.edge_some__lit1 anti two
  rw [pRight hf]
  simp only [Option.bind_some, G.edge_some__lit1_j1]
  cases hr : right h
  · simp
  · by_cases hin : inr h x = true ∧ inr h y = true
    · obtain ⟨m1, m2⟩ := (minmax (h := h)).2 hin
      obtain ⟨hx, hy⟩ := hin
      simp only [m1, m2, hx, hy, Bool.not_true, Bool.false_eq_true, if_false, Bool.and_self, Bool.true_and]
      unfold G.slices_ContainsFunc_edge_kind_edge_kind__lit1_edge_some_1 G.slices_IndexFunc_edge_kind_edge_kind__lit1_edge_some_1 G.edge_some_1__edge_over
      rw [pOver hf hx hy hl]
      simp only [Option.bind_some, G.slices_IndexFunc_edge_kind_edge_kind__lit1_edge_some_1_j1]
      cases antS h l x y <;> simp
    · have hm : ¬ (decide (Sh.min x y < 0) = false ∧ decide (Sh.len h.Txns ≤ Sh.max x y) = false) := fun hm => hin ((minmax (h := h)).1 hm)
      have hz : (inr h x && inr h y) = false := by
        cases a : inr h x <;> cases b : inr h y <;> simp_all
      rw [Bool.true_and, hz]
      simp only [Bool.not_true, Bool.false_eq_true, if_false, Bool.false_and]
      cases m1 : decide (Sh.min x y < 0)
      · cases m2 : decide (Sh.len h.Txns ≤ Sh.max x y)
        · exact absurd ⟨m1, m2⟩ hm
        · simp
      · simp
theorem pIs {h : G.api_Hist} (hf : Fits h) {l : List G.api_Choice} (hl : l.length < 9223372036854775807) (lev x y : Int) : G.edge_Is h lev l x y = some (edge h lev l x y) := by
  unfold G.edge_Is edge
  rw [pDirect hf hl, pAnti hf hl]
  simp only [Option.bind_some]
  by_cases h0 : lev = 0
  · subst h0
    simp only [decide_true, if_true]
    cases direct h l x y <;> simp
  · by_cases h1 : lev = 1
    · subst h1
      simp only [h0, decide_false, Bool.false_eq_true, if_false, decide_true, if_true]
      have hrl : (List.range h.Txns.length).length = h.Txns.length := by simp
      have ht := hf.txns
      rw [any_loop (List.range h.Txns.length) (fun m => direct h l x m && (decide ((m : Int) = y) || anti h l m y)) true (some false) (fuel_gt (by omega)) (fun k hk => ?_) ?_]
      · cases (List.range h.Txns.length).any (fun m => direct h l x m && (decide ((m : Int) = y) || anti h l m y)) <;> rfl
      · simp [G.edge_Is_b1, G.edge_Is_j1, dec_lt]
      · rw [hrl] at hk
        simp only [G.edge_Is_b1, dec_lt, hk, decide_true, if_true, pDirect hf hl, pAnti hf hl, Option.bind_some, G.edge_Is_j2, w64_succ (show k < 9223372036854775807 by omega), List.getElem_range]
        cases direct h l x k
        · rfl
        · by_cases hy : (k : Int) = y
          · simp [hy, Sh.exit]
          · cases anti h l k y <;> simp [hy, Sh.exit, Sh.next]
    · simp [h0, h1, G.edge_Is_j1]
end Pl
end

section
/- Rings of edges, and what the reference answers of edges. -/

namespace Pl
open Go Go.Av

def okRing (h : G.api_Hist) (lev : Int) (l : List G.api_Choice) (row : List Int) (i : Nat) : Bool :=
  !((row.take i).any (fun x => decide (row.getD i 0 = x))) && edge h lev l (row.getD i 0) (row.getD ((i + 1) % row.length) 0)
theorem ring_eq (h : G.api_Hist) (lev : Int) (l : List G.api_Choice) (row : List Int) :
    ring h lev l row = if ∀ k, k < row.length → okRing h lev l row k = true then decide (0 < row.length) else false := by
  unfold ring
  by_cases hq : ∀ k, k < row.length → okRing h lev l row k = true
  · rw [if_pos hq]
    have : (List.range row.length).all (okRing h lev l row) = true := List.all_eq_true.2 fun k hk => hq k (List.mem_range.1 hk)
    rw [show (List.range row.length).all (fun i => !((row.take i).any (fun x => decide (row.getD i 0 = x))) && edge h lev l (row.getD i 0) (row.getD ((i + 1) % row.length) 0)) = true from this, Bool.and_true]
  · rw [if_neg hq]
    have : (List.range row.length).all (okRing h lev l row) = false := by
      cases hc : (List.range row.length).all (okRing h lev l row) with
      | false => rfl
      | true => exact absurd (fun k hk => List.all_eq_true.1 hc k (List.mem_range.2 hk)) hq
    rw [show (List.range row.length).all (fun i => !((row.take i).any (fun x => decide (row.getD i 0 = x))) && edge h lev l (row.getD i 0) (row.getD ((i + 1) % row.length) 0)) = false from this, Bool.and_false]
theorem getD_at {l : List Int} {k : Nat} (h : k < l.length) : l.getD k 0 = l[k] := by simp [List.getD, List.getElem?_eq_getElem h]
theorem rem_ok {a b : Nat} (hb : 0 < b) (ha : a < 9223372036854775808) (hb2 : b < 9223372036854775808) : Sh.rem (a : Int) (b : Int) = some ((a % b : Nat) : Int) := by
  unfold Sh.rem
  have : (b : Int) ≠ 0 := by omega
  simp only [this, ne_eq, not_false_eq_true, if_true]
  rw [Int.tmod_eq_emod_of_nonneg (by omega)]
  rfl
theorem pCycle {h : G.api_Hist} (hf : Fits h) {l : List G.api_Choice} (hl : l.length < 9223372036854775807) (lev : Int) {row : List Int} (hw : row.length < 9223372036854775808) :
    G.edge_Cycle h lev l row = some (ring h lev l row) := by
  unfold G.edge_Cycle
  rw [ring_eq]
  refine scan0 row.length (okRing h lev l row) (decide (0 < row.length)) false (fuel_gt (by omega)) (fun k hk => ?_) ?_
  · have hm : (k + 1) % row.length < row.length := Nat.mod_lt _ (by omega)
    simp only [G.edge_Cycle_b1, dec_lt, hk, decide_true, if_true, idx_at hk, Option.bind_some, len_eq]
    rw [show Sh.sub row 0 (k : Int) = some (row.take k) by simpa using sub_ok (l := row) (m := 0) (k := k) (by omega) (by omega)]
    rw [Option.bind_some, pHas (by simp; omega), Option.bind_some]
    unfold okRing
    rw [getD_at hk, getD_at hm]
    cases hc : (row.take k).any (fun x => decide (row[k] = x)) with
    | true => simp [G.edge_Cycle_j2, Sh.exit]
    | false =>
      rw [if_neg (by simp), w64_succ (by omega), rem_ok (by omega) (by omega) (by omega)]
      simp only [Option.bind_some, idx_at hm, pIs hf hl, G.edge_Cycle_j2, w64_succ (show k < 9223372036854775807 by omega)]
      cases edge h lev l row[k] row[(k + 1) % row.length] <;> simp [Sh.exit, Sh.next]
  · simp [G.edge_Cycle_b1, G.edge_Cycle_j1, Sh.exit, len_eq]

end Pl
end

section
/- The reference's word on histories: whether one may be, and whether it is small. -/
namespace Pl
open Go Go.Av

def step {α : Type} (key : α → Int) (ok : α → Bool) (l : List α) (k : Nat) : Bool :=
  match l[k]? with
  | none => true
  | some x => decide (0 ≤ key x) && decide (key x < 16) && ok x && (decide (k = 0) || match l[k - 1]? with | none => true | some y => decide (key y < key x))
theorem dec_len_gt {α : Type} (l : List α) : decide ((20 : Int) < Sh.len l) = !decide (l.length ≤ 20) := by
  by_cases h : l.length ≤ 20 <;> simp [h, Sh.len] <;> omega
def few (h : G.api_Hist) (m : Int) : Bool := decide ((h.Txns.length : Int) ≤ m) && h.Txns.all (fun t => decide (t.Writes.length ≤ 20) && decide (t.Reads.length ≤ 20))
theorem rFew {h : G.api_Hist} {m : Int} (hm : m < 9223372036854775807) : G.inquestref08_Few h m = some (few h m) := by
  unfold G.inquestref08_Few few
  by_cases h1 : (h.Txns.length : Int) ≤ m
  · have h2 : ¬ m < (h.Txns.length : Int) := by omega
    simp only [Sh.len, h2, decide_false, Bool.false_eq_true, if_false, h1, decide_true, Bool.true_and]
    rw [any_loop h.Txns (fun t => !(decide (t.Writes.length ≤ 20) && decide (t.Reads.length ≤ 20))) false (some true) (fuel_gt (by omega)) (fun k hk => ?_) ?_]
    · rw [List.any_eq_not_all_not]
      simp only [Bool.not_not]
      cases h.Txns.all (fun t => decide (t.Writes.length ≤ 20) && decide (t.Reads.length ≤ 20)) <;> rfl
    · simp [G.inquestref08_Few_b1, G.inquestref08_Few_j1]
    · simp only [G.inquestref08_Few_b1, dec_lt, hk, decide_true, if_true, idx_at hk, Option.bind_some, dec_len_gt, G.inquestref08_Few_j2, w64_succ (show k < 9223372036854775807 by omega), Sh.exit, Sh.next, Option.map_some]
      by_cases a : (h.Txns[k]).Writes.length ≤ 20 <;> by_cases b : (h.Txns[k]).Reads.length ≤ 20 <;> simp [a, b]
  · have h2 : m < (h.Txns.length : Int) := by omega
    simp [Sh.len, h2, h1]
theorem few_fits {h : G.api_Hist} {m : Int} (hm : m < 9223372036854775807) (hf : few h m = true) : Fits h := by
  simp only [few, Bool.and_eq_true, decide_eq_true_eq, List.all_eq_true] at hf
  exact ⟨by omega, fun t ht => by have := (hf.2 t ht).1; omega, fun t ht => by have := (hf.2 t ht).2; omega⟩
end Pl
end

section
/- Law 19, first half: edges as the reference sees them; what one more choice adds. -/

namespace Pl
open Go Go.Av

def one (h : G.api_Hist) (c : G.api_Choice) : Bool := decide (c.A ≠ c.B) && inr h c.A && inr h c.B && hasW (tx h c.A) c.Key && hasW (tx h c.B) c.Key
end Pl
end

section
/- Facts: what follows from what; the program's answer and the reference's. -/


namespace Pl
open Go Go.Av

def back (c : G.api_Choice) : G.api_Choice := ⟨c.Key, c.B, c.A⟩
def ini (l : List G.fact_Fact) (i : Int) : Bool := decide (0 ≤ i) && decide (i < (l.length : Int))
def fa (l : List G.fact_Fact) (i : Int) : G.fact_Fact := (l[i.toNat]?).getD default
theorem ini_iff {l : List G.fact_Fact} {i : Int} : ini l i = true ↔ 0 ≤ i ∧ i < (l.length : Int) := by simp [ini]
theorem idx_fa {l : List G.fact_Fact} {i : Int} (hx : ini l i = true) : Sh.idx l i = some (fa l i) := by
  rw [ini_iff] at hx
  rw [idx_of hx.1 hx.2]
  simp [fa, List.getElem?_eq_getElem (show i.toNat < l.length by omega)]
def may (h : G.api_Hist) (lev : Int) : Bool := right h && (decide (lev = 0) || decide (lev = 1))
def joinedB (l : List G.fact_Fact) (f : G.fact_Fact) : Bool :=
  ini l f.I && ini l f.J && decide ((fa l f.I).C.B = (fa l f.J).C.A) && decide ((fa l f.I).C.Key = (fa l f.J).C.Key) && decide (f.C = ⟨(fa l f.I).C.Key, (fa l f.I).C.A, (fa l f.J).C.B⟩)
def seenB (h : G.api_Hist) (f : G.fact_Fact) : Bool :=
  decide (f.J = 0) && decide (f.I ≠ f.C.A) && inr h f.I && (tx h f.I).Reads.any (fun r => decide (G.api_Take.mk f.C.Key f.C.B = r)) && direct h [] f.C.A f.I
def reason (h : G.api_Hist) (lev : Int) (l : List G.fact_Fact) (f : G.fact_Fact) : Bool :=
  if f.Kind = 1 then decide (f.I = 0) && decide (f.J = 0) && direct h [] f.C.A f.C.B
  else if f.Kind = 2 then joinedB l f
  else if f.Kind = 3 then seenB h f
  else if f.Kind = 4 then decide (f.I = 0) && decide (f.J = 0) && ring h lev (l.map (·.C) ++ [back f.C]) f.Cycle
  else false
def holds (h : G.api_Hist) (lev : Int) (l : List G.fact_Fact) (f : G.fact_Fact) : Bool :=
  may h lev && one h f.C && (decide (f.Kind = 4) || decide (f.Cycle.length = 0)) && reason h lev l f
def okFact (h : G.api_Hist) (lev : Int) (l : List G.fact_Fact) (k : Nat) : Bool := holds h lev (l.take k) (l.getD k default)
def replay (h : G.api_Hist) (lev : Int) (l : List G.fact_Fact) : Bool := may h lev && decide (∀ k, k < l.length → okFact h lev l k = true)

theorem pMay {h : G.api_Hist} (hf : Fits h) (lev : Int) : G.fact_may h lev = some (may h lev) := by
  unfold G.fact_may may
  rw [pRight hf]
  simp only [Option.bind_some]
  cases right h
  · rfl
  · by_cases a : lev = 0 <;> simp [a]
theorem pWr {h : G.api_Hist} (hf : Fits h) (x : Int) (c : G.api_Choice) : G.fact_choice_1__1 x h c = some (inr h x && hasW (tx h x) c.Key) := by
  unfold G.fact_choice_1__1
  by_cases hx : inr h x = true
  · obtain ⟨a, b⟩ := inr_iff.1 hx
    have := hf.writes _ (tx_mem hx)
    rw [if_pos (by simpa using a), if_pos (by simpa [Sh.len] using b), idx_tx hx, Option.bind_some, pHas (by omega), Option.bind_some, hx]
    rfl
  · have h1 : inr h x = false := by simpa using hx
    rw [h1]
    unfold inr at h1
    by_cases a : 0 ≤ x <;> by_cases b : x < (h.Txns.length : Int) <;> simp [a, b, Sh.len] at h1 ⊢
theorem pOneF {h : G.api_Hist} (hf : Fits h) (c : G.api_Choice) : G.fact_choice h c = some (one h c) := by
  unfold G.fact_choice one
  rw [pWr hf, pWr hf]
  simp only [Option.bind_some]
  by_cases a : c.A = c.B
  · simp [a]
  · simp only [a, ne_eq, not_false_eq_true, decide_true, if_true, Bool.true_and]
    cases inr h c.A <;> cases hasW (tx h c.A) c.Key <;> cases inr h c.B <;> cases hasW (tx h c.B) c.Key <;> rfl
theorem pHasT {l : List G.api_Take} (hl : l.length < 9223372036854775807) (v : G.api_Take) : G.slices_Contains_api_Take_api_Take l v = some (l.any (fun c => decide (v = c))) := by
  unfold G.slices_Contains_api_Take_api_Take G.slices_Index_api_Take_api_Take
  rw [find_loop l (fun c => decide (v = c)) (fun k => (k : Int)) (some (-1)) (fuel_gt (by omega)) (fun k hk => ?_) ?_, pos_some, Option.bind_some, contains_of_find]
  · simp [G.slices_Index_api_Take_api_Take_b1, G.slices_Index_api_Take_api_Take_j1]
  · simp only [G.slices_Index_api_Take_api_Take_b1, dec_lt, hk, decide_true, if_true, idx_at hk, Option.bind_some, w64_succ (show k < 9223372036854775807 by omega)]
    rfl
theorem pChoices {l : List G.fact_Fact} (hl : l.length ≤ 1000000) : G.fact_Choices l = some (l.map (·.C)) := by
  unfold G.fact_Choices
  refine count_exit (fun k => (l.take k).map (·.C)) l.length _ (fuel_gt (by omega)) (fun k hk => ?_) ?_ (by simp)
  · simp only [G.fact_Choices_b1, dec_lt, hk, decide_true, if_true, idx_at hk, Option.bind_some]
    rw [app_ok (by simp; omega)]
    simp only [Option.bind_some, w64_succ (show k < 9223372036854775807 by omega), Sh.next]
    rw [List.take_add_one, List.getElem?_eq_getElem hk, Option.toList_some, List.map_append]
    rfl
  · simp [G.fact_Choices_b1, G.fact_Choices_j1]
theorem pAxiom {h : G.api_Hist} (hf : Fits h) (lev : Int) (l : List G.fact_Fact) (f : G.fact_Fact) : G.fact_asked_axiom ⟨h, lev, l, f⟩ = some (decide (f.I = 0) && decide (f.J = 0) && direct h [] f.C.A f.C.B) := by
  unfold G.fact_asked_axiom
  rw [pDirect hf (by simp)]
  by_cases a : f.I = 0 <;> by_cases b : f.J = 0 <;> simp [a, b]
theorem mm {l : List G.fact_Fact} {x y : Int} : (decide (Sh.min x y < 0) = false ∧ decide (Sh.len l ≤ Sh.max x y) = false) ↔ (ini l x = true ∧ ini l y = true) := by
  rw [decide_eq_false_iff_not, decide_eq_false_iff_not, ini_iff, ini_iff]
  unfold Sh.min Sh.max Sh.len
  split <;> split <;> omega
theorem pJoined (h : G.api_Hist) (lev : Int) (l : List G.fact_Fact) (f : G.fact_Fact) : G.fact_asked_joined ⟨h, lev, l, f⟩ = some (joinedB l f) := by
  unfold G.fact_asked_joined joinedB
  by_cases hin : ini l f.I = true ∧ ini l f.J = true
  · obtain ⟨m1, m2⟩ := (mm (l := l)).2 hin
    obtain ⟨hx, hy⟩ := hin
    simp only [m1, m2, hx, hy, G.fact_asked_joined_j1, Bool.false_eq_true, if_false, idx_fa hx, idx_fa hy, Option.bind_some, Bool.true_and, Sh.lett]
    by_cases a : (fa l f.I).C.B = (fa l f.J).C.A <;> by_cases b : (fa l f.I).C.Key = (fa l f.J).C.Key <;> simp [a, b]
  · have hm : ¬ (decide (Sh.min f.I f.J < 0) = false ∧ decide (Sh.len l ≤ Sh.max f.I f.J) = false) := fun hm => hin ((mm (l := l)).1 hm)
    have hz : (ini l f.I && ini l f.J) = false := by
      cases a : ini l f.I <;> cases b : ini l f.J <;> simp_all
    rw [hz]
    simp only [Bool.false_and]
    cases m1 : decide (Sh.min f.I f.J < 0)
    · cases m2 : decide (Sh.len l ≤ Sh.max f.I f.J)
      · exact absurd ⟨m1, m2⟩ hm
      · simp [G.fact_asked_joined_j1]
    · simp [G.fact_asked_joined_j1]
theorem pSeen {h : G.api_Hist} (hf : Fits h) (lev : Int) (l : List G.fact_Fact) (f : G.fact_Fact) : G.fact_asked_seen ⟨h, lev, l, f⟩ = some (seenB h f) := by
  unfold G.fact_asked_seen seenB
  by_cases a : f.J = 0
  · by_cases b : f.I = f.C.A
    · simp [a, b, G.fact_asked_seen_j1]
    · by_cases hx : inr h f.I = true
      · obtain ⟨c, d⟩ := inr_iff.1 hx
        have h1 : ¬ f.I < 0 := by omega
        have h2 : ¬ (h.Txns.length : Int) ≤ f.I := by omega
        have h3 := hf.reads _ (tx_mem hx)
        simp only [a, b, h1, h2, ne_eq, not_true, not_false_eq_true, decide_false, decide_true, Bool.false_eq_true, if_false, G.fact_asked_seen_j1, Sh.len, idx_tx hx, Option.bind_some, pHasT h3, pDirect hf (show ([] : List G.api_Choice).length < 9223372036854775807 by simp), hx, Bool.true_and]
        cases (tx h f.I).Reads.any (fun r => decide (G.api_Take.mk f.C.Key f.C.B = r)) <;> rfl
      · have h1 : inr h f.I = false := by simpa using hx
        have h2 : ¬ (0 ≤ f.I ∧ f.I < (h.Txns.length : Int)) := fun h2 => hx (inr_iff.2 h2)
        rw [h1]
        by_cases c : f.I < 0
        · simp [a, b, c, G.fact_asked_seen_j1]
        · have d : (h.Txns.length : Int) ≤ f.I := by omega
          simp [a, b, c, d, G.fact_asked_seen_j1, Sh.len]
  · simp [a, G.fact_asked_seen_j1]
theorem pForced {h : G.api_Hist} (hf : Fits h) (lev : Int) {l : List G.fact_Fact} (hl : l.length ≤ 1000000) {f : G.fact_Fact} (hc : f.Cycle.length < 9223372036854775808) :
    G.fact_asked_forced ⟨h, lev, l, f⟩ = some (decide (f.I = 0) && decide (f.J = 0) && ring h lev (l.map (·.C) ++ [back f.C]) f.Cycle) := by
  unfold G.fact_asked_forced
  rw [pChoices hl]
  simp only [Option.bind_some]
  rw [app_ok (by simp; omega), Option.bind_some, show G.api_Choice.mk f.C.Key f.C.B f.C.A = back f.C from rfl, pCycle hf (by simp; omega) lev hc]
  by_cases a : f.I = 0 <;> by_cases b : f.J = 0 <;> simp [a, b]
theorem pHolds {h : G.api_Hist} (hf : Fits h) (lev : Int) {l : List G.fact_Fact} (hl : l.length ≤ 1000000) {f : G.fact_Fact} (hc : f.Cycle.length < 9223372036854775808) :
    G.fact_Holds h lev l f = some (holds h lev l f) := by
  have hj : ∀ b, G.fact_Holds_j1 h lev l f b = some (!b && reason h lev l f) := fun b => by
    unfold G.fact_Holds_j1 reason
    have he : G.fact_Fact.mk (G.api_Choice.mk f.C.Key f.C.A f.C.B) f.Kind f.I f.J f.Cycle = f := rfl
    have hh : G.api_Hist.mk h.Txns = h := rfl
    rw [he, hh]
    cases b
    · simp only [Bool.false_eq_true, if_false, G.fact_reasons, Option.bind_some, pAxiom hf, pJoined, pSeen hf, pForced hf lev hl hc, G.fact_Holds_j2]
      by_cases k1 : f.Kind = 1
      · simp [k1]
      · have k1' : ¬ (1 : Int) = f.Kind := fun h => k1 h.symm
        by_cases k2 : f.Kind = 2
        · simp [k2]
        · have k2' : ¬ (2 : Int) = f.Kind := fun h => k2 h.symm
          by_cases k3 : f.Kind = 3
          · simp [k3]
          · have k3' : ¬ (3 : Int) = f.Kind := fun h => k3 h.symm
            by_cases k4 : f.Kind = 4
            · simp [k4]
            · have k4' : ¬ (4 : Int) = f.Kind := fun h => k4 h.symm
              simp [k1, k2, k3, k4, k1', k2', k3', k4']
    · simp
  unfold G.fact_Holds holds
  rw [pMay hf, pOneF hf]
  simp only [Option.bind_some, hj]
  cases may h lev
  · simp
  · cases one h f.C
    · simp
    · by_cases k : f.Kind = 4
      · simp [k]
      · by_cases z : f.Cycle.length = 0
        · simp [k, z, Sh.len]
        · have : (0 : Int) < (f.Cycle.length : Int) := by omega
          simp [k, z, Sh.len, this]
theorem replay_snoc (h : G.api_Hist) (lev : Int) (l : List G.fact_Fact) (g : G.fact_Fact) : replay h lev (l ++ [g]) = (replay h lev l && holds h lev l g) := by
  unfold replay
  rw [Bool.eq_iff_iff]
  simp only [Bool.and_eq_true, decide_eq_true_eq, List.length_append, List.length_singleton]
  have key : ∀ k, k < l.length → okFact h lev (l ++ [g]) k = okFact h lev l k := fun k hk => by
    unfold okFact
    rw [List.take_append_of_le_length (by omega)]
    simp [List.getD, List.getElem?_append_left hk]
  have last : okFact h lev (l ++ [g]) l.length = holds h lev l g := by
    unfold okFact
    rw [List.take_append_of_le_length (by omega)]
    simp [List.getD]
  constructor
  · rintro ⟨a, b⟩
    exact ⟨⟨a, fun k hk => by rw [← key k hk]; exact b k (by omega)⟩, by rw [← last]; exact b _ (by omega)⟩
  · rintro ⟨⟨a, b⟩, c⟩
    refine ⟨a, fun k hk => ?_⟩
    by_cases hk2 : k < l.length
    · rw [key k hk2]; exact b k hk2
    · have : k = l.length := by omega
      subst this
      rw [last]; exact c
def pl (f : G.fact_Fact) : G.inquestref22_F := ⟨f.C, f.Kind, f.I, f.J, f.Cycle⟩
end Pl
end

section
/- Law 23: what a store learns; three of its four statements, in plain terms. -/
namespace Pl
open Go Go.Av

theorem awake23 : G.inquestlaw23_awake = some true := by kernel_rfl
def few23 (l : List G.fact_Fact) : Bool := decide (l.length ≤ 24) && l.all (fun f => decide (f.Cycle.length ≤ 40))
theorem dec_gtS {α : Type} (l : List α) (n : Nat) : decide ((n : Int) < Sh.len l) = !decide (l.length ≤ n) := by
  by_cases h : l.length ≤ n <;> simp [h, Sh.len] <;> omega
theorem rFew23 (l : List G.fact_Fact) : G.inquestlaw23_few l = some (few23 l) := by
  unfold G.inquestlaw23_few few23
  have d1 : decide ((24 : Int) < Sh.len l) = !decide (l.length ≤ 24) := dec_gtS l 24
  rw [d1]
  by_cases hl : l.length ≤ 24
  · simp only [hl, decide_true, Bool.not_true, Bool.false_eq_true, if_false, Bool.true_and]
    rw [any_loop l (fun f => !decide (f.Cycle.length ≤ 40)) false (some true) (fuel_gt (by omega)) (fun k hk => ?_) ?_]
    · rw [List.any_eq_not_all_not]
      simp only [Bool.not_not]
      cases l.all (fun f => decide (f.Cycle.length ≤ 40)) <;> rfl
    · simp [G.inquestlaw23_few_b1, G.inquestlaw23_few_j1, len_eq, Sh.exit]
    · have := dec_gtS (l[k]).Cycle 40
      simp only [G.inquestlaw23_few_b1, len_eq, dec_lt, hk, decide_true, if_true, idx_at hk, Option.bind_some, w64_succ (show k < 9223372036854775807 by omega), Sh.exit, Sh.next, Option.map_some]
      simp only [len_eq] at this
      rw [show ((40 : Int)) = ((40 : Nat) : Int) from rfl, this]
  · simp [hl]
theorem few23_spec {l : List G.fact_Fact} (h : few23 l = true) : l.length ≤ 24 ∧ ∀ f ∈ l, f.Cycle.length ≤ 40 := by
  simpa [few23] using h

def Trim (l : List G.fact_Fact) : Prop := l.length ≤ 1000 ∧ ∀ f ∈ l, f.Cycle.length ≤ 40
theorem pCloneI {l : List Int} (h : l.length ≤ 1000) : G.slices_Clone_int_int l = some l := by
  unfold G.slices_Clone_int_int; rw [app_ok (by simp; omega)]; rfl
theorem pCloneT {l : List G.api_Take} (h : l.length ≤ 1000) : G.slices_Clone_api_Take_api_Take l = some l := by
  unfold G.slices_Clone_api_Take_api_Take; rw [app_ok (by simp; omega)]; rfl
theorem pCloneF {l : List G.fact_Fact} (h : l.length ≤ 1000) : G.slices_Clone_fact_Fact_fact_Fact l = some l := by
  unfold G.slices_Clone_fact_Fact_fact_Fact; rw [app_ok (by simp; omega)]; rfl

theorem pCopied {h : G.api_Hist} {m : Int} (hm : m ≤ 1000) (hf : few h m = true) : G.store_copied h = some h := by
  simp only [few, Bool.and_eq_true, decide_eq_true_eq, List.all_eq_true] at hf
  unfold G.store_copied
  refine count_exit (fun k => h.Txns.take k) h.Txns.length _ (fuel_gt (by omega)) (fun k hk => ?_) ?_ (by simp)
  · have hb := hf.2 _ (List.getElem_mem hk)
    simp only [G.store_copied_b1, dec_lt, hk, decide_true, if_true, len_eq, idx_at hk, Option.bind_some, pCloneI (show h.Txns[k].Writes.length ≤ 1000 by omega), pCloneT (show h.Txns[k].Reads.length ≤ 1000 by omega)]
    rw [app_ok (by simp; omega)]
    simp only [Option.bind_some, w64_succ (show k < 9223372036854775807 by omega), Sh.next]
    rw [List.take_add_one, List.getElem?_eq_getElem hk, Option.toList_some]
  · simp [G.store_copied_b1, G.store_copied_j1, len_eq]

theorem pNew {h : G.api_Hist} {m : Int} (hm : m ≤ 1000) (hf : few h m = true) (lev : Int) : G.store_New h lev = some (if may h lev then .inr h.Txns else .inl ()) := by
  unfold G.store_New may
  rw [pRight (few_fits (by omega) hf)]
  have hj : ∀ b, G.store_New_j1 h b = some (if b then .inl () else .inr h.Txns) := fun b => by
    unfold G.store_New_j1
    rw [pCopied hm hf]
    cases b <;> rfl
  simp only [Option.bind_some, hj]
  cases right h
  · simp
  · by_cases a : lev = 0
    · simp [a]
    · by_cases b : lev = 1 <;> simp [a, b]

theorem mget_put (c k : G.api_Choice) (b : Bool) (M : List (G.api_Choice × Bool)) : Sh.mget c (Sh.mput k b M) = if c = k then b else Sh.mget c M := by
  induction M with
  | nil => by_cases h : c = k <;> simp [Sh.mput, Sh.mget, h]
  | cons e M ih =>
    simp only [Sh.mput]
    by_cases hk : k = e.1
    · subst hk
      simp only [if_true, Sh.mget]
      by_cases h : c = e.1 <;> simp [h]
    · rw [if_neg hk]
      simp only [Sh.mget, ih]
      by_cases h : c = e.1
      · have : ¬ c = k := fun h' => hk (h' ▸ h)
        simp [h]
        intro h'; exact absurd (h'.symm ▸ rfl) hk
      · simp [h]
def said (l : List G.fact_Fact) (c : G.api_Choice) : Bool := l.any (fun f => decide (c = f.C))
def Knows (M : List (G.api_Choice × Bool)) (l : List G.fact_Fact) : Prop := ∀ c, Sh.mget c M = said l c
theorem knows_nil : Knows [] [] := fun _ => rfl
theorem knows_put {M : List (G.api_Choice × Bool)} {l : List G.fact_Fact} (h : Knows M l) (f : G.fact_Fact) : Knows (Sh.mput f.C true M) (l ++ [f]) := fun c => by
  rw [mget_put, h c]
  unfold said
  rw [List.any_append]
  by_cases hc : c = f.C <;> simp [hc]

def learn (h : G.api_Hist) (lev : Int) (l : List G.fact_Fact) (f : G.fact_Fact) : List G.fact_Fact × Int :=
  if holds h lev l f then (if said l f.C then (l, 8) else (l ++ [f], 0)) else (l, 17)
def turnM (h : G.api_Hist) (lev : Int) (l : List G.fact_Fact) (M : List (G.api_Choice × Bool)) (f : G.fact_Fact) : List (G.api_Choice × Bool) :=
  if holds h lev l f && !said l f.C then Sh.mput f.C true M else M
theorem knows_turn {h : G.api_Hist} {lev : Int} {l : List G.fact_Fact} {M : List (G.api_Choice × Bool)} (hk : Knows M l) (f : G.fact_Fact) : Knows (turnM h lev l M f) (learn h lev l f).1 := by
  unfold turnM learn
  cases holds h lev l f
  · exact hk
  · cases said l f.C
    · exact knows_put hk f
    · exact hk
theorem learn_len (h : G.api_Hist) (lev : Int) (l : List G.fact_Fact) (f : G.fact_Fact) : (learn h lev l f).1.length ≤ l.length + 1 := by
  unfold learn
  cases holds h lev l f
  · simp
  · cases said l f.C <;> simp
theorem learn_mem {h : G.api_Hist} {lev : Int} {l : List G.fact_Fact} {f g : G.fact_Fact} (hg : g ∈ (learn h lev l f).1) : g ∈ l ∨ g = f := by
  unfold learn at hg
  cases hh : holds h lev l f
  · rw [hh] at hg; exact .inl hg
  · cases hs : said l f.C
    · rw [hh, hs] at hg; simpa using hg
    · rw [hh, hs] at hg; exact .inl hg

theorem pPut {x : G.fact_Fact} (hc : x.Cycle.length ≤ 40) (T : List G.api_Txn) (lev : Int) {l : List G.fact_Fact} (hl : l.length ≤ 1000) (M : List (G.api_Choice × Bool)) : G.store_facts_put__1 x T lev l M = some (l ++ [x]) := by
  unfold G.store_facts_put__1
  rw [pCloneI (by omega)]
  simp only [Option.bind_some]
  rw [app_ok (by simp; omega)]
  rfl
theorem pLearn {h : G.api_Hist} (hf : Fits h) (lev : Int) {l : List G.fact_Fact} (hl : l.length ≤ 1000) {M : List (G.api_Choice × Bool)} (hk : Knows M l) {f : G.fact_Fact} (hc : f.Cycle.length ≤ 40) :
    G.store_Store_Learn__1 f h.Txns lev l M = some ((learn h lev l f).1, turnM h lev l M f, (learn h lev l f).2) := by
  unfold G.store_Store_Learn__1 learn turnM
  rw [show G.api_Hist.mk h.Txns = h from rfl, pHolds hf lev (by omega) (by omega), hk f.C]
  simp only [Option.bind_some, pPut hc h.Txns lev hl M]
  cases holds h lev l f
  · simp
  · cases said l f.C <;> simp
def decides (l : List G.fact_Fact) (c : G.api_Choice) : Int := if said l c then 1 else if said l (back c) then -1 else 0
theorem pDecides {M : List (G.api_Choice × Bool)} {l : List G.fact_Fact} (hk : Knows M l) (T : List G.api_Txn) (lev : Int) (c : G.api_Choice) : G.store_Store_Decides__1 c T lev l M = some (decides l c) := by
  unfold G.store_Store_Decides__1 decides
  rw [show G.api_Choice.mk c.Key c.B c.A = back c from rfl, hk, hk]
  cases said l c
  · cases said l (back c) <;> rfl
  · rfl
theorem pFacts {l : List G.fact_Fact} (hl : Trim l) (T : List G.api_Txn) (lev : Int) (M : List (G.api_Choice × Bool)) : G.store_Store_Facts__1 T lev l M = some l := by
  unfold G.store_Store_Facts__1
  rw [pCloneF hl.1]
  have h1 := hl.1
  refine count_exit (fun _ => l) l.length _ (fuel_gt (by omega)) (fun k hk => ?_) ?_ rfl
  · have hc := hl.2 _ (List.getElem_mem hk)
    simp only [G.store_Store_Facts__1_b1, len_eq, dec_lt, hk, decide_true, if_true, idx_at hk, Option.bind_some, pCloneI (show l[k].Cycle.length ≤ 1000 by omega), w64_succ (show k < 9223372036854775807 by omega), Sh.next, set_at]
    congr 2
    have : l.set k l[k] = l := by simp
    exact congrArg (fun q => (q, ((k + 1 : Nat) : Int))) this
  · simp [G.store_Store_Facts__1_b1, G.store_Store_Facts__1_j1, len_eq]
theorem rPlainS {l : List G.fact_Fact} (hl : l.length ≤ 1000000) : G.inquestlaw23_Plain l = some (l.map pl) := by
  unfold G.inquestlaw23_Plain
  refine count_exit (fun k => (l.take k).map pl) l.length _ (fuel_gt (by omega)) (fun k hk => ?_) ?_ (by simp)
  · simp only [G.inquestlaw23_Plain_b1, G.inquestlaw23_one, len_eq, dec_lt, hk, decide_true, if_true, idx_at hk, Option.bind_some]
    rw [app_ok (by simp; omega)]
    simp only [Option.bind_some, w64_succ (show k < 9223372036854775807 by omega), Sh.next]
    rw [List.take_add_one, List.getElem?_eq_getElem hk, Option.toList_some, List.map_append]
    rfl
  · simp [G.inquestlaw23_Plain_b1, G.inquestlaw23_Plain_j1, len_eq]

theorem rSame23 {a : List G.inquestref22_F} (hl : a.length ≤ 1000000) (hc : ∀ f ∈ a, f.Cycle.length ≤ 1000000) : G.inquestref23_Same a a = some true := by
  unfold G.inquestref23_Same
  simp only [ne_eq, not_true, decide_false, Bool.false_eq_true, if_false]
  refine count0 a.length true (fuel_gt (by omega)) (fun k hk => ?_) ?_
  · have hx := hc _ (List.getElem_mem hk)
    simp only [G.inquestref23_Same_b1, len_eq, dec_lt, hk, decide_true, if_true, idx_at hk, Option.bind_some, Bool.not_true, Bool.false_eq_true, if_false, ne_eq, not_true, decide_false, G.inquestref23_Same_j3]
    refine run_exit (fun i => ((i : Nat) : Int)) (a[k]).Cycle.length _ (fuel_gt (by omega)) (fun i hi => ?_) ?_ rfl |>.trans (b := G.inquestref23_Same_j2 (k : Int)) ?_
    · simp only [G.inquestref23_Same_b2, len_eq, dec_lt, hi, decide_true, if_true, idx_at hi, Option.bind_some, ne_eq, not_true, decide_false, Bool.false_eq_true, if_false, w64_succ (show i < 9223372036854775807 by omega), Sh.next]
    · simp [G.inquestref23_Same_b2, len_eq]
    · unfold G.inquestref23_Same_j2
      rw [w64_succ (show k < 9223372036854775807 by omega)]
      rfl
  · simp [G.inquestref23_Same_b1, G.inquestref23_Same_j1, len_eq, Sh.exit]
theorem rSameS {l : List G.fact_Fact} (hl : Trim l) : G.inquestref23_Same (l.map pl) (l.map pl) = some true :=
  rSame23 (by have := hl.1; simp; omega) (fun f hf => by
    obtain ⟨g, hg, rfl⟩ := List.mem_map.1 hf
    have := hl.2 g hg
    show g.Cycle.length ≤ 1000000
    omega)

def after (h : G.api_Hist) (lev : Int) (l : List G.fact_Fact) : Nat → List G.fact_Fact × List (G.api_Choice × Bool)
  | 0 => ([], [])
  | k + 1 => ((learn h lev (after h lev l k).1 (l.getD k default)).1, turnM h lev (after h lev l k).1 (after h lev l k).2 (l.getD k default))
theorem after_knows (h : G.api_Hist) (lev : Int) (l : List G.fact_Fact) (k : Nat) : Knows (after h lev l k).2 (after h lev l k).1 := by
  induction k with
  | zero => exact knows_nil
  | succ k ih => exact knows_turn ih _
theorem after_trim {h : G.api_Hist} {lev : Int} {l : List G.fact_Fact} (hl : few23 l = true) {k : Nat} (hk : k ≤ l.length) : (after h lev l k).1.length ≤ k ∧ Trim (after h lev l k).1 := by
  obtain ⟨h1, h2⟩ := few23_spec hl
  have key : ∀ k, k ≤ l.length → (after h lev l k).1.length ≤ k ∧ ∀ f ∈ (after h lev l k).1, f.Cycle.length ≤ 40 := by
    intro k
    induction k with
    | zero => intro _; exact ⟨by simp [after], fun f hf => by simp [after] at hf⟩
    | succ k ih =>
      intro hk
      obtain ⟨a, b⟩ := ih (by omega)
      refine ⟨?_, fun f hf => ?_⟩
      · have := learn_len h lev (after h lev l k).1 (l.getD k default)
        simp only [after]; omega
      · rcases learn_mem hf with hf | hf
        · exact b f hf
        · subst hf
          have hk2 : k < l.length := by omega
          have : l.getD k default = l[k] := by simp [List.getD, List.getElem?_eq_getElem hk2]
          rw [this]; exact h2 _ (List.getElem_mem hk2)
  obtain ⟨a, b⟩ := key k hk
  exact ⟨a, by omega, b⟩
theorem getD_S {l : List G.fact_Fact} {k : Nat} (hk : k < l.length) : l.getD k default = l[k] := by simp [List.getD, List.getElem?_eq_getElem hk]

theorem after_replays {h : G.api_Hist} {lev : Int} (hm : may h lev = true) (l : List G.fact_Fact) (k : Nat) : replay h lev (after h lev l k).1 = true := by
  induction k with
  | zero => simp [after, replay, hm]
  | succ k ih =>
    simp only [after, learn]
    cases hh : holds h lev (after h lev l k).1 (l.getD k default) with
    | false => exact ih
    | true =>
      cases said (after h lev l k).1 (l.getD k default).C with
      | true => exact ih
      | false =>
        show replay h lev ((after h lev l k).1 ++ [l.getD k default]) = true
        rw [replay_snoc, ih, hh]; rfl

theorem after_once (h : G.api_Hist) (lev : Int) (l : List G.fact_Fact) (k : Nat) : ((after h lev l k).1.map (·.C)).Nodup := by
  induction k with
  | zero => simp [after]
  | succ k ih =>
    simp only [after, learn]
    cases holds h lev (after h lev l k).1 (l.getD k default) with
    | false => exact ih
    | true =>
      cases hs : said (after h lev l k).1 (l.getD k default).C with
      | true => exact ih
      | false =>
        show (((after h lev l k).1 ++ [l.getD k default]).map (·.C)).Nodup
        rw [List.map_append, List.nodup_append]
        refine ⟨ih, by simp, fun a ha b hb => ?_⟩
        simp only [List.map_cons, List.map_nil, List.mem_singleton] at hb
        subst hb
        intro he
        obtain ⟨f, hf, hfa⟩ := List.mem_map.1 ha
        have : said (after h lev l k).1 (l.getD k default).C = true := by
          unfold said
          rw [List.any_eq_true]
          exact ⟨f, hf, by simp [hfa, he]⟩
        rw [hs] at this; cases this
end Pl
end

section
/- Law 23: what one store has another one learns, in plain terms. -/
namespace Pl
open Go Go.Av

theorem pLearn2 (f : G.fact_Fact) (T : List G.api_Txn) (lev : Int) (l : List G.fact_Fact) (M : List (G.api_Choice × Bool)) : G.store_Store_Learn__2 f.C.Key f.C.A f.C.B f.Kind f.I f.J T lev f.Cycle l M = G.store_Store_Learn__1 f T lev l M := rfl

theorem learn_next {h : G.api_Hist} {lev : Int} {m : List G.fact_Fact} (hr : replay h lev m = true) (hn : (m.map (·.C)).Nodup) {k : Nat} (hk : k < m.length) : learn h lev (m.take k) m[k] = (m.take (k + 1), 0) := by
  have h1 : holds h lev (m.take k) m[k] = true := by
    unfold replay at hr
    simp only [Bool.and_eq_true, decide_eq_true_eq] at hr
    have := hr.2 k hk
    unfold okFact at this
    rwa [getD_S hk] at this
  have h2 : said (m.take k) (m[k]).C = false := by
    cases hs : said (m.take k) (m[k]).C with
    | false => rfl
    | true =>
      unfold said at hs
      rw [List.any_eq_true] at hs
      obtain ⟨f, hf, he⟩ := hs
      obtain ⟨j, hj, rfl⟩ := List.getElem_of_mem hf
      rw [List.length_take] at hj
      rw [List.getElem_take] at he
      have hp := List.pairwise_iff_getElem.1 hn j k (by simp; omega) (by simpa using hk) (by omega)
      rw [List.getElem_map, List.getElem_map] at hp
      exact absurd (of_decide_eq_true he).symm hp
  unfold learn
  rw [h1, h2]
  simp only [if_true, Bool.false_eq_true, if_false]
  rw [List.take_add_one, List.getElem?_eq_getElem hk, Option.toList_some]
def tM (h : G.api_Hist) (lev : Int) (m : List G.fact_Fact) : Nat → List (G.api_Choice × Bool)
  | 0 => []
  | k + 1 => turnM h lev (m.take k) (tM h lev m k) (m.getD k default)
theorem tM_knows {h : G.api_Hist} {lev : Int} {m : List G.fact_Fact} (hr : replay h lev m = true) (hn : (m.map (·.C)).Nodup) : ∀ k, k ≤ m.length → Knows (tM h lev m k) (m.take k)
  | 0, _ => by simpa [tM] using knows_nil
  | k + 1, hk => by
    have := knows_turn (h := h) (lev := lev) (tM_knows hr hn k (by omega)) m[k]
    rw [learn_next hr hn (by omega)] at this
    simp only [tM, getD_S (show k < m.length by omega)]
    exact this
theorem said_mem {l : List G.fact_Fact} {f : G.fact_Fact} (h : f ∈ l) : said l f.C = true := by
  unfold said; rw [List.any_eq_true]; exact ⟨f, h, by simp⟩
def wiped (m : List G.fact_Fact) : Nat → List G.fact_Fact
  | 0 => m
  | k + 1 => Sh.set (wiped m k) (k : Int) (G.fact_Fact.mk (G.api_Choice.mk 0 0 0) (m.getD k default).Kind (m.getD k default).I (m.getD k default).J (m.getD k default).Cycle)
theorem wiped_len (m : List G.fact_Fact) : ∀ k, (wiped m k).length = m.length
  | 0 => rfl
  | k + 1 => by simp [wiped, wiped_len m k]
theorem wiped_get (m : List G.fact_Fact) : ∀ k j, k ≤ j → (wiped m k)[j]? = m[j]?
  | 0, _, _ => rfl
  | k + 1, j, h => by
    simp only [wiped, Sh.set, Int.toNat_natCast]
    rw [List.getElem?_set, if_neg (by omega), wiped_get m k j (by omega)]
theorem wiped_idx {m : List G.fact_Fact} {k : Nat} (hk : k < m.length) : Sh.idx (wiped m k) (k : Int) = some m[k] := by
  unfold Sh.idx
  rw [if_pos (by omega), Int.toNat_natCast, wiped_get m k k (Nat.le_refl _), List.getElem?_eq_getElem hk]
theorem wipe_one {m : List G.fact_Fact} {k : Nat} (hk : k < m.length) (hl : m.length ≤ 1000) (hc : (m[k]).Cycle.length ≤ 40) : Sh.loop (fun (p : Int) => G.inquestlaw23_StoreAgain_b2 (wiped m k) (k : Int) p) 0 = some (.inl (wiped m (k + 1), ((k + 1 : Nat) : Int))) := by
  have hx : G.inquestlaw23_StoreAgain_j6 (wiped m k) (k : Int) = some (.inl (wiped m (k + 1), ((k + 1 : Nat) : Int))) := by
    simp only [G.inquestlaw23_StoreAgain_j6, wiped_idx hk, Option.bind_some, G.inquestlaw23_StoreAgain_j5, w64_succ (show k < 9223372036854775807 by omega), Sh.next, wiped, getD_S hk]
  rw [← hx]
  refine run_exit (fun j => ((j : Nat) : Int)) (m[k]).Cycle.length _ (fuel_gt (by omega)) (fun j hj => ?_) ?_ rfl
  · simp only [G.inquestlaw23_StoreAgain_b2, wiped_idx hk, Option.bind_some, len_eq, dec_lt, hj, decide_true, if_true, idx_at hj, w64_succ (show j < 9223372036854775807 by omega), Sh.next]
  · simp [G.inquestlaw23_StoreAgain_b2, wiped_idx hk, len_eq]
theorem eitherR {α β γ : Type} {b : β} {f : α → Option γ} {g : β → Option γ} : Sh.either (.inr b) f g = g b := by unfold Sh.either; exact id rfl
theorem StoreAgain (h : G.api_Hist) (lev : Int) (l : List G.fact_Fact) : G.inquestlaw23_StoreAgain h lev l = some true := by
  unfold G.inquestlaw23_StoreAgain
  rw [awake23, rFew (by omega), rFew23]
  simp only [Option.bind_some, Bool.not_true, Bool.false_eq_true, if_false]
  have j1t : G.inquestlaw23_StoreAgain_j1 h lev l true = some true := rfl
  cases hF : few h 12 with
  | false => exact j1t
  | true =>
    cases hG : few23 l with
    | false => exact j1t
    | true =>
      have hf := few_fits (by omega) hF
      obtain ⟨l1, l2⟩ := few23_spec hG
      simp only [Bool.not_true, Bool.false_eq_true, if_false, G.inquestlaw23_StoreAgain_j1, pNew (show (12 : Int) ≤ 1000 by omega) hF, Option.bind_some]
      cases hM : may h lev with
      | false => simp [Sh.either]
      | true =>
        rw [if_pos rfl, eitherR, eitherR]
        obtain ⟨a, b⟩ := after_trim (h := h) (lev := lev) hG (Nat.le_refl _)
        have hr := after_replays hM l l.length
        have hn := after_once h lev l l.length
        have hkn := after_knows h lev l l.length
        obtain ⟨m, hm⟩ : ∃ m, (after h lev l l.length).1 = m := ⟨_, rfl⟩
        obtain ⟨ms, hm2⟩ : ∃ ms, (after h lev l l.length).2 = ms := ⟨_, rfl⟩
        rw [hm] at a b hr hn hkn
        rw [hm2] at hkn
        have b1 := b.1
        -- the end
        have j4 : G.inquestlaw23_StoreAgain_j4 lev h.Txns h.Txns m ms (m.map pl) m (tM h lev m m.length) = some true := by
          unfold G.inquestlaw23_StoreAgain_j4
          rw [pFacts b, Option.bind_some, rPlainS (by omega), Option.bind_some, rSameS b, Option.bind_some, if_pos rfl, pFacts b, Option.bind_some, rPlainS (by omega), Option.bind_some, rSameS b]
          rfl
        -- the writes
        have j3 : G.inquestlaw23_StoreAgain_j3 lev h.Txns h.Txns m ms m (m.map pl) m (tM h lev m m.length) = some true := by
          unfold G.inquestlaw23_StoreAgain_j3
          refine run_exit (fun k => (wiped m k, (k : Int))) m.length _ (fuel_gt (by omega)) (fun k hk => ?_) ?_ (by simp [wiped]) |>.trans j4
          · have hc := b.2 _ (List.getElem_mem hk)
            have hlen : decide ((k : Int) < Sh.len (wiped m k)) = true := by simp [Sh.len, wiped_len, hk]
            simp only [G.inquestlaw23_StoreAgain_b1, hlen, if_true]
            exact wipe_one hk b1 hc
          · simp [G.inquestlaw23_StoreAgain_b1, Sh.len, wiped_len]
        -- the other store learns
        have j2 : G.inquestlaw23_StoreAgain_j2 lev h.Txns h.Txns m ms = some true := by
          unfold G.inquestlaw23_StoreAgain_j2
          rw [pFacts b, Option.bind_some, Option.bind_some, rPlainS (by omega), Option.bind_some]
          refine run_exit (fun k => (m.take k, tM h lev m k, (k : Int))) m.length _ (fuel_gt (by omega)) (fun k hk => ?_) ?_ (by simp [tM]) |>.trans j3
          · have hc := b.2 _ (List.getElem_mem hk)
            have t1 := tM_knows hr hn k (by omega)
            have t2 := tM_knows hr hn (k + 1) (by omega)
            have t3 : (m.take k).length ≤ 1000 := by rw [List.length_take]; omega
            have e1 : turnM h lev (m.take k) (tM h lev m k) m[k] = tM h lev m (k + 1) := by simp only [tM, getD_S hk]
            have d1 : decides m (m[k]).C = 1 := by unfold decides; rw [said_mem (List.getElem_mem hk)]; rfl
            have d2 : decides (m.take (k + 1)) (m[k]).C = 1 := by
              unfold decides
              rw [said_mem (List.mem_iff_getElem.2 ⟨k, by rw [List.length_take]; omega, by simp⟩)]; rfl
            simp only [G.inquestlaw23_StoreAgain_b3, len_eq, dec_lt, hk, decide_true, if_true, idx_at hk, Option.bind_some, pLearn2, pLearn hf lev t3 t1 hc, learn_next hr hn hk, e1, ne_eq, not_true, decide_false, Bool.false_eq_true, if_false, pDecides hkn, pDecides t2, d1, d2, G.inquestlaw23_StoreAgain_j7, w64_succ (show k < 9223372036854775807 by omega), Sh.next]
          · simp [G.inquestlaw23_StoreAgain_b3, len_eq]
        refine run_exit (fun k => ((after h lev l k).1, (after h lev l k).2, (k : Int))) l.length _ (fuel_gt (by omega)) (fun k hk => ?_) ?_ (by simp [after]) |>.trans j2
        · obtain ⟨a', b'⟩ := after_trim (h := h) (lev := lev) hG (Nat.le_of_lt hk)
          have c1 := b'.1
          have hc := l2 _ (List.getElem_mem hk)
          have hkn' := after_knows h lev l k
          simp only [G.inquestlaw23_StoreAgain_b4, len_eq, dec_lt, hk, decide_true, if_true, idx_at hk, Option.bind_some, pLearn hf lev c1 hkn' hc, w64_succ (show k < 9223372036854775807 by omega), Sh.next, after, getD_S hk]
        · simp only [hm, hm2]
          simp [G.inquestlaw23_StoreAgain_b4, len_eq]
end Pl
end
