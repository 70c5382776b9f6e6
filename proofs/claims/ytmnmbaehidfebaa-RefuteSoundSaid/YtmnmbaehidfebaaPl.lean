/- What the plain functions answer. -/
import Derived.Test.YtmnmbaehidfebaaBase1
import Derived.Test.YtmnmbaehidfebaaSh
import Derived.KernelRfl
set_option linter.unusedSimpArgs false
set_option linter.unusedVariables false
section
/- What is used to reason about the plain functions. -/
namespace Pl
open Go Go.Av

theorem w64_id {n : Int} (h1 : -9223372036854775808 ≤ n) (h2 : n < 9223372036854775808) : w64 n = n := i64_wrap h1 h2
theorem idx_at {α : Type} {l : List α} {k : Nat} (h : k < l.length) : Sh.idx l (k : Int) = some l[k] := by
  simp [Sh.idx, h]
theorem idx_of {α : Type} {l : List α} {i : Int} (h0 : 0 ≤ i) (h : i < l.length) : Sh.idx l i = some (l[i.toNat]'(by omega)) := by
  unfold Sh.idx
  rw [if_pos h0]
  exact List.getElem?_eq_getElem (by omega)
theorem app_ok {α : Type} {b : Nat} {l m : List α} (h : (l.length + m.length) * b ≤ 140737488355328) : Sh.app b l m = some (l ++ m) := by
  simp [Sh.app, h]
theorem sub_ok {α : Type} {l : List α} {m k : Nat} (h1 : m ≤ k) (h2 : k ≤ l.length) : Sh.sub l (m : Int) (k : Int) = some ((l.drop m).take (k - m)) := by
  unfold Sh.sub
  rw [if_pos ⟨by omega, by omega, by omega⟩]
  simp
theorem set_at {α : Type} (l : List α) (k : Nat) (x : α) : Sh.set l (k : Int) x = l.set k x := by simp [Sh.set]
theorem count {σ α : Type} {b : σ × Int → Option ((σ × Int) ⊕ α)} (S : Nat → σ) (m : Nat) (r : α) (hm : m < Sh.FUEL) (h : ∀ k, k < m → b (S k, (k : Int)) = some (.inl (S (k + 1), ((k + 1 : Nat) : Int)))) (hr : b (S m, (m : Int)) = some (.inr r)) {s : σ} (hs : s = S 0) :
    Sh.loop b (s, 0) = some r := by
  subst hs
  exact Sh.loop_run (fun k => (S k, (k : Int))) m r hm h hr
theorem next_some {σ α : Type} (s : σ) : Sh.next (α := α) s = some (.inl s) := rfl
theorem exit_some {σ α : Type} (x : α) : Sh.exit (σ := σ) (some x) = some (.inr x) := rfl
theorem fuel_gt {n : Nat} (h : n < 9223372036854775808) : n < Sh.FUEL := h
theorem w64_succ {k : Nat} (h : k < 9223372036854775807) : w64 ((k : Int) + 1) = ((k + 1 : Nat) : Int) := by
  rw [w64_id (by omega) (by omega)]; omega
theorem len_eq {α : Type} (l : List α) : Sh.len l = (l.length : Int) := rfl
theorem dec_lt {k n : Nat} : decide ((k : Int) < (n : Int)) = decide (k < n) := by
  congr 1; exact propext (by omega)
end Pl
namespace Pl
open Go Go.Av
theorem scan {α : Type} {b : Int → Option (Int ⊕ α)} (s m : Nat) (p : Nat → Bool) (A B : α) (hsm : s ≤ m) (hm : m < Sh.FUEL) (h : ∀ k, s ≤ k → k < m → b (k : Int) = if p k then some (.inl ((k + 1 : Nat) : Int)) else some (.inr B)) (hr : b (m : Int) = some (.inr A)) :
    Sh.loop b (s : Int) = some (if ∀ k, k < m → s ≤ k → p k = true then A else B) := by
  by_cases hall : ∀ k, k < m → s ≤ k → p k = true
  · rw [if_pos hall]
    refine Sh.loop_run (fun k => ((s + k : Nat) : Int)) (m - s) A (by omega) (fun k hk => ?_) ?_
    · rw [h (s + k) (by omega) (by omega), if_pos (hall _ (by omega) (by omega))]; rfl
    · rw [show s + (m - s) = m by omega]; exact hr
  · rw [if_neg hall]
    have hex : ∃ k, s ≤ k ∧ k < m ∧ p k = false := by
      apply Classical.byContradiction
      intro hn
      exact hall (fun k h2 h1 => by
        cases hp : p k with
        | true => rfl
        | false => exact absurd ⟨k, h1, h2, hp⟩ hn)
    obtain ⟨k, hk, hmin⟩ := exists_least _ hex
    refine Sh.loop_run (fun q => ((s + q : Nat) : Int)) (k - s) B (by omega) (fun q hq => ?_) ?_
    · have : p (s + q) = true := by
        cases hp : p (s + q) with
        | true => rfl
        | false => have := hmin (s + q) ⟨by omega, by omega, hp⟩; omega
      rw [h (s + q) (by omega) (by omega), if_pos this]; rfl
    · rw [show s + (k - s) = k by omega, h k hk.1 hk.2.1, if_neg (by rw [hk.2.2]; simp)]
theorem scan0 {α : Type} {b : Int → Option (Int ⊕ α)} (m : Nat) (p : Nat → Bool) (A B : α) (hm : m < Sh.FUEL) (h : ∀ k, k < m → b (k : Int) = if p k then some (.inl ((k + 1 : Nat) : Int)) else some (.inr B)) (hr : b (m : Int) = some (.inr A)) :
    Sh.loop b 0 = some (if ∀ k, k < m → p k = true then A else B) := by
  have := scan 0 m p A B (by omega) hm (fun k _ hk => h k hk) hr
  simpa using this
theorem scan_true {b : Int → Option (Int ⊕ Bool)} (m : Nat) (p : Nat → Bool) (hm : m < Sh.FUEL) (h : ∀ k, k < m → b (k : Int) = if p k then some (.inl ((k + 1 : Nat) : Int)) else some (.inr false)) (hr : b (m : Int) = some (.inr true)) :
    Sh.loop b 0 = some (decide (∀ k, k < m → p k = true)) := by
  rw [scan0 m p true false hm h hr]
  by_cases hq : ∀ k, k < m → p k = true
  · rw [if_pos hq, decide_eq_true hq]
  · rw [if_neg hq, decide_eq_false hq]
end Pl
namespace Pl
open Go Go.Av
theorem run_exit {σ α : Type} {b : σ → Option (σ ⊕ α)} (S : Nat → σ) (m : Nat) (X : Option α) (hm : m < Sh.FUEL) (h : ∀ k, k < m → b (S k) = some (.inl (S (k + 1)))) (hr : b (S m) = Sh.exit X) {s : σ} (hs : s = S 0) : Sh.loop b s = X := by
  subst hs
  unfold Sh.loop
  rw [show Sh.FUEL = m + ((Sh.FUEL - m - 1) + 1) by omega, Sh.iter_go S m h]
  simp only [Sh.iter, hr]
  cases X <;> rfl
theorem count_exit {σ α : Type} {b : σ × Int → Option ((σ × Int) ⊕ α)} (S : Nat → σ) (m : Nat) (X : Option α) (hm : m < Sh.FUEL) (h : ∀ k, k < m → b (S k, (k : Int)) = some (.inl (S (k + 1), ((k + 1 : Nat) : Int)))) (hr : b (S m, (m : Int)) = Sh.exit X) {s : σ} (hs : s = S 0) :
    Sh.loop b (s, 0) = X := run_exit (fun k => (S k, (k : Int))) m X hm h hr (by rw [hs]; rfl)
end Pl
end

section
/- Loops over lists. -/
namespace Pl
open Go Go.Av

def foldE {σ α β : Type} (step : Nat → σ → α → σ ⊕ β) (X : σ → Option β) : Nat → List α → σ → Option β
  | _, [], s => X s
  | k, x :: l, s => match step k s x with
    | .inl s' => foldE step X (k + 1) l s'
    | .inr r => some r

theorem loop_step {σ β : Type} {b : σ → Option (σ ⊕ β)} {n : Nat} {s s' : σ} (h : b s = some (.inl s')) : Sh.iter b (n + 1) s = Sh.iter b n s' := by simp [Sh.iter, h]
theorem loop_stop {σ β : Type} {b : σ → Option (σ ⊕ β)} {n : Nat} {s : σ} {r : β} (h : b s = some (.inr r)) : Sh.iter b (n + 1) s = some r := by simp [Sh.iter, h]
theorem loop_exit {σ β : Type} {b : σ → Option (σ ⊕ β)} {n : Nat} {s : σ} {X : Option β} (h : b s = Sh.exit X) : Sh.iter b (n + 1) s = X := by cases X <;> simp [Sh.iter, h, Sh.exit]

theorem iter_fold {σ τ α β : Type} {b : τ → Option (τ ⊕ β)} (S : σ → Nat → τ) (step : Nat → σ → α → σ ⊕ β) (X : σ → Option β) (l0 : List α)
    (h : ∀ (k : Nat) (s : σ) (hk : k < l0.length), b (S s k) = match step k s l0[k] with | .inl s' => some (.inl (S s' (k + 1))) | .inr r => some (.inr r))
    (he : ∀ s, b (S s l0.length) = Sh.exit (X s)) : ∀ (l : List α) (k n : Nat) (s : σ), l0.drop k = l → k ≤ l0.length → l.length < n → Sh.iter b n (S s k) = foldE step X k l s := by
  intro l
  induction l with
  | nil =>
    intro k n s hl hk hn
    have hk2 : k = l0.length := by
      have : (l0.drop k).length = 0 := by rw [hl]; rfl
      simp at this; omega
    subst hk2
    obtain ⟨n, rfl⟩ : ∃ m, n = m + 1 := ⟨n - 1, by simp at hn; omega⟩
    exact loop_exit (he s)
  | cons x l ih =>
    intro k n s hl hk hn
    have hlen : (l0.drop k).length = l.length + 1 := by rw [hl]; rfl
    have hk2 : k < l0.length := by simp at hlen; omega
    obtain ⟨n, rfl⟩ : ∃ m, n = m + 1 := ⟨n - 1, by simp at hn; omega⟩
    have hx : l0[k] = x ∧ l0.drop (k + 1) = l := by
      rw [List.drop_eq_getElem_cons hk2] at hl
      simp only [List.cons.injEq] at hl
      exact hl
    have hb := h k s hk2
    rw [hx.1] at hb
    simp only [foldE]
    cases hs : step k s x with
    | inl s' =>
      rw [hs] at hb
      rw [loop_step hb]
      exact ih (k + 1) n s' hx.2 hk2 (by simp at hn; omega)
    | inr r =>
      rw [hs] at hb
      exact loop_stop hb

theorem loop_fold {σ τ α β : Type} {b : τ → Option (τ ⊕ β)} (S : σ → Nat → τ) (step : Nat → σ → α → σ ⊕ β) (X : σ → Option β) (l : List α) (hm : l.length < Sh.FUEL)
    (h : ∀ (k : Nat) (s : σ) (hk : k < l.length), b (S s k) = match step k s l[k] with | .inl s' => some (.inl (S s' (k + 1))) | .inr r => some (.inr r))
    (he : ∀ s, b (S s l.length) = Sh.exit (X s)) (s : σ) {t : τ} (ht : t = S s 0) : Sh.loop b t = foldE step X 0 l s := by
  subst ht
  exact iter_fold S step X l h he l 0 Sh.FUEL s rfl (Nat.zero_le _) hm

theorem find_loop {α β : Type} {b : Int → Option (Int ⊕ β)} (l : List α) (p : α → Bool) (A : Nat → β) (X : Option β) (hm : l.length < Sh.FUEL)
    (h : ∀ (k : Nat) (hk : k < l.length), b (k : Int) = if p l[k] then some (.inr (A k)) else some (.inl ((k + 1 : Nat) : Int)))
    (he : b (l.length : Int) = Sh.exit X) : Sh.loop b 0 = (l.findIdx? p).elim X (fun k => some (A k)) := by
  rw [loop_fold (σ := Unit) (α := α) (fun _ k => (k : Int)) (fun k _ x => if p x then .inr (A k) else .inl ()) (fun _ => X) l hm (fun k s hk => ?_) (fun _ => he) () (t := (0 : Int)) rfl]
  · have key : ∀ (l : List α) (k : Nat), foldE (fun k (_ : Unit) x => if p x then Sum.inr (A k) else Sum.inl ()) (fun _ => X) k l () = (l.findIdx? p).elim X (fun i => some (A (k + i))) := by
      intro l
      induction l with
      | nil => intro k; simp [foldE]
      | cons x l ih =>
        intro k
        simp only [foldE, List.findIdx?_cons]
        cases hp : p x with
        | true => simp
        | false =>
          simp only [Bool.false_eq_true, if_false]
          rw [ih (k + 1)]
          cases l.findIdx? p with
          | none => rfl
          | some i => simp only [Option.map_some, Option.elim_some]; congr 2; omega
    rw [key l 0]
    simp
  · rw [h k hk]
    cases p l[k] <;> rfl

theorem any_loop {α β : Type} {b : Int → Option (Int ⊕ β)} (l : List α) (p : α → Bool) (A : β) (X : Option β) (hm : l.length < Sh.FUEL)
    (h : ∀ (k : Nat) (hk : k < l.length), b (k : Int) = if p l[k] then some (.inr A) else some (.inl ((k + 1 : Nat) : Int)))
    (he : b (l.length : Int) = Sh.exit X) : Sh.loop b 0 = if l.any p then some A else X := by
  rw [find_loop l p (fun _ => A) X hm h he]
  cases hf : l.findIdx? p with
  | none =>
    have : l.any p = false := by
      rw [List.findIdx?_eq_none_iff] at hf
      rw [List.any_eq_false]
      intro x hx
      simpa using hf x hx
    rw [this]; rfl
  | some i =>
    have : l.any p = true := by
      rw [List.any_eq_true]
      rw [List.findIdx?_eq_some_iff_getElem] at hf
      obtain ⟨hi, hp, _⟩ := hf
      exact ⟨l[i], List.getElem_mem hi, hp⟩
    rw [this]; rfl

def pos {α : Type} (l : List α) (p : α → Bool) : Int := (l.findIdx? p).elim (-1) (fun k => (k : Int))
theorem pos_some {α : Type} (l : List α) (p : α → Bool) : (l.findIdx? p).elim (some (-1 : Int)) (fun k => some (k : Int)) = some (pos l p) := by unfold pos; cases l.findIdx? p <;> rfl
theorem contains_of_find {α : Type} (l : List α) (p : α → Bool) : decide ((0 : Int) ≤ pos l p) = l.any p := by
  unfold pos
  cases hf : l.findIdx? p with
  | none =>
    have : l.any p = false := by
      rw [List.findIdx?_eq_none_iff] at hf
      rw [List.any_eq_false]
      intro x hx
      simpa using hf x hx
    rw [this]; rfl
  | some i =>
    have : l.any p = true := by
      rw [List.any_eq_true]
      rw [List.findIdx?_eq_some_iff_getElem] at hf
      obtain ⟨hi, hp, _⟩ := hf
      exact ⟨l[i], List.getElem_mem hi, hp⟩
    rw [this]; simp
end Pl
end

section
/- Whether a history may be. -/
namespace Pl
open Go Go.Av

theorem pIdx {l : List Int} (hl : l.length < 9223372036854775808) (v : Int) : G.slices_Index_int_int l v = some (pos l (fun x => decide (v = x))) := by
  unfold G.slices_Index_int_int
  rw [find_loop l (fun x => decide (v = x)) (fun k => (k : Int)) (some (-1)) (fuel_gt hl) (fun k hk => ?_) ?_, pos_some]
  · simp [G.slices_Index_int_int_b1, G.slices_Index_int_int_j1]
  · simp only [G.slices_Index_int_int_b1, dec_lt, hk, decide_true, if_true, idx_at hk, Option.bind_some, w64_succ (show k < 9223372036854775807 by omega)]
    rfl
theorem pHas {l : List Int} (hl : l.length < 9223372036854775808) (v : Int) : G.slices_Contains_int_int l v = some (l.any (fun x => decide (v = x))) := by
  unfold G.slices_Contains_int_int
  rw [pIdx hl, Option.bind_some, contains_of_find]

def rising : Int → List Int → Bool
  | _, [] => true
  | last, x :: l => decide (last < x) && decide (x < 16) && rising x l
def hasW (t : G.api_Txn) (k : Int) : Bool := t.Writes.any (fun x => decide (k = x))
def there (h : G.api_Hist) (n : Int) (x : G.api_Take) : Bool :=
  decide (x.From = -1) || (decide (0 ≤ x.From) && decide (x.From < (h.Txns.length : Int)) && decide (x.From ≠ n) && match h.Txns[x.From.toNat]? with | some t => hasW t x.Key | none => false)
def takes (h : G.api_Hist) (n : Int) : Int → List G.api_Take → Bool
  | _, [] => true
  | last, x :: l => decide (last < x.Key) && decide (x.Key < 16) && there h n x && takes h n x.Key l
def okT (h : G.api_Hist) (n : Int) (t : G.api_Txn) : Bool := rising (-1) t.Writes && takes h n (-1) t.Reads && decide (0 ≤ t.Session) && decide (t.Session < 8)
def okAll (h : G.api_Hist) : Nat → List G.api_Txn → Bool
  | _, [] => true
  | n, t :: l => okT h n t && okAll h (n + 1) l
def right (h : G.api_Hist) : Bool := decide (h.Txns.length ≤ 32) && okAll h 0 h.Txns

structure Fits (h : G.api_Hist) : Prop where
  txns : h.Txns.length < 9223372036854775807
  writes : ∀ t ∈ h.Txns, t.Writes.length < 9223372036854775807
  reads : ∀ t ∈ h.Txns, t.Reads.length < 9223372036854775807

theorem y1 (c y : Bool) : G.hist_Right__r c y = some (if y then (c, true) else (false, false)) := by cases y <;> rfl

theorem pThere {h : G.api_Hist} (hf : Fits h) (n : Int) (x : G.api_Take) {α : Type} (K : Bool → Option α) :
    (if decide (x.From = (-1)) then K true else if decide ((0 : Int) ≤ x.From) then if decide (x.From < (Sh.len h.Txns)) then if decide (x.From ≠ n) then (Sh.idx h.Txns x.From).bind fun x840 => (G.slices_Contains_int_int x840.Writes x.Key).bind fun r842 => K r842 else K false else K false else K false) = K (there h n x) := by
  unfold there
  by_cases h1 : x.From = -1
  · simp [h1]
  · by_cases h2 : 0 ≤ x.From
    · by_cases h3 : x.From < (h.Txns.length : Int)
      · by_cases h4 : x.From = n
        · subst h4; simp [h1, h2, h3]
        · have h5 : h.Txns[x.From.toNat]? = some (h.Txns[x.From.toNat]'(by omega)) := List.getElem?_eq_getElem (by omega)
          rw [idx_of h2 h3, h5]
          have := hf.writes _ (List.getElem_mem (show x.From.toNat < h.Txns.length by omega))
          have h6 := pHas (l := (h.Txns[x.From.toNat]'(by omega)).Writes) (by omega) x.Key
          simp [h1, h2, h3, h4, h6, hasW]
      · simp [h1, h2, h3]
    · simp [h1, h2]

theorem pReads {h : G.api_Hist} (hf : Fits h) (n : Int) (t : G.api_Txn) (ht : t ∈ h.Txns) (c : Bool) : G.hist_faults_1__hist_Right__r_j2 h n t c = if takes h n (-1) t.Reads then G.hist_faults_1__hist_Right__r_j3 n t c else some (.inr (false, false)) := by
  unfold G.hist_faults_1__hist_Right__r_j2
  have hl := hf.reads t ht
  rw [loop_fold (σ := Bool × Int) (fun s k => (s.1, s.2, (k : Int))) (fun _ s x => if decide (s.2 < x.Key) && decide (x.Key < 16) && there h n x then .inl (s.1, x.Key) else .inr (.inr (false, false))) (fun s => G.hist_faults_1__hist_Right__r_j3 n t s.1) t.Reads (fuel_gt (by omega)) (fun k s hk => ?_) (fun s => ?_) (c, -1) (t := (c, (-1 : Int), (0 : Int))) rfl]
  · have key : ∀ (l : List G.api_Take) (k : Nat) (last : Int), foldE (fun _ (s : Bool × Int) (x : G.api_Take) => if decide (s.2 < x.Key) && decide (x.Key < 16) && there h n x then Sum.inl (s.1, x.Key) else Sum.inr (.inr (false, false))) (fun s => G.hist_faults_1__hist_Right__r_j3 n t s.1) k l (c, last) = if takes h n last l then G.hist_faults_1__hist_Right__r_j3 n t c else some (.inr (false, false)) := by
      intro l
      induction l with
      | nil => intro k last; simp [foldE, takes]
      | cons x l ih =>
        intro k last
        simp only [foldE]
        rw [show takes h n last (x :: l) = (decide (last < x.Key) && decide (x.Key < 16) && there h n x && takes h n x.Key l) from rfl]
        by_cases hq : (decide (last < x.Key) && decide (x.Key < 16) && there h n x) = true
        · rw [if_pos hq, hq, Bool.true_and]; exact ih (k + 1) x.Key
        · rw [if_neg hq, Bool.eq_false_iff.2 hq]; simp
    exact key t.Reads 0 (-1)
  · obtain ⟨c, last⟩ := s
    simp only [G.hist_faults_1__hist_Right__r_b2, dec_lt, hk, decide_true, if_true, idx_at hk, Option.bind_some]
    rw [pThere hf n t.Reads[k] (fun b => G.hist_faults_1__hist_Right__r_j4 c last k t.Reads[k] b)]
    simp only [G.hist_faults_1__hist_Right__r_j4, y1, G.hist_faults_1__hist_Right__r_j5, w64_succ (show k < 9223372036854775807 by omega), Option.bind_some]
    by_cases h1 : last < t.Reads[k].Key
    · by_cases h2 : t.Reads[k].Key < 16
      · cases h3 : there h n t.Reads[k] <;> simp [h1, h2, Sh.exit, Sh.next]
      · simp [h1, h2, Sh.exit]
    · simp [h1, Sh.exit]
  · simp [G.hist_faults_1__hist_Right__r_b2]

theorem pWrites {h : G.api_Hist} (hf : Fits h) (n : Nat) (hn : n < 9223372036854775807) (t : G.api_Txn) (ht : t ∈ h.Txns) (c : Bool) :
    Sh.loop (fun (p : Bool × Int × Int) => G.hist_faults_1__hist_Right__r_b3 h n t p.1 p.2.1 p.2.2) (c, (-1), 0) = if okT h n t then some (.inl (c, ((n + 1 : Nat) : Int))) else some (.inr (false, false)) := by
  have hl := hf.writes t ht
  rw [loop_fold (σ := Bool × Int) (fun s k => (s.1, s.2, (k : Int))) (fun _ s x => if decide (s.2 < x) && decide (x < 16) then .inl (s.1, x) else .inr (.inr (false, false))) (fun s => G.hist_faults_1__hist_Right__r_j2 h n t s.1) t.Writes (fuel_gt (by omega)) (fun k s hk => ?_) (fun s => ?_) (c, -1) (t := (c, (-1 : Int), (0 : Int))) rfl]
  · have key : ∀ (l : List Int) (k : Nat) (last : Int), foldE (fun _ (s : Bool × Int) (x : Int) => if decide (s.2 < x) && decide (x < 16) then Sum.inl (s.1, x) else Sum.inr (.inr (false, false))) (fun s => G.hist_faults_1__hist_Right__r_j2 h n t s.1) k l (c, last) = if rising last l then G.hist_faults_1__hist_Right__r_j2 h n t c else some (.inr (false, false)) := by
      intro l
      induction l with
      | nil => intro k last; simp [foldE, rising]
      | cons x l ih =>
        intro k last
        simp only [foldE]
        rw [show rising last (x :: l) = (decide (last < x) && decide (x < 16) && rising x l) from rfl]
        by_cases hq : (decide (last < x) && decide (x < 16)) = true
        · rw [if_pos hq, hq, Bool.true_and]; exact ih (k + 1) x
        · rw [if_neg hq, Bool.eq_false_iff.2 hq]; simp
    rw [key t.Writes 0 (-1), pReads hf n t ht]
    unfold okT
    cases h1 : rising (-1) t.Writes
    · simp
    · cases h2 : takes h n (-1) t.Reads
      · simp
      · simp only [G.hist_faults_1__hist_Right__r_j3, y1, G.hist_faults_1__hist_Right__r_j1, w64_succ hn, Option.bind_some]
        by_cases h3 : 0 ≤ t.Session
        · by_cases h4 : t.Session < 8 <;> simp [h3, h4, Sh.exit, Sh.next]
        · simp [h3, Sh.exit]
  · obtain ⟨c, last⟩ := s
    simp only [G.hist_faults_1__hist_Right__r_b3, dec_lt, hk, decide_true, if_true, idx_at hk, Option.bind_some, y1, G.hist_faults_1__hist_Right__r_j6, w64_succ (show k < 9223372036854775807 by omega)]
    by_cases h1 : last < t.Writes[k]
    · by_cases h2 : t.Writes[k] < 16 <;> simp [h1, h2, Sh.exit, Sh.next]
    · simp [h1, Sh.exit]
  · simp [G.hist_faults_1__hist_Right__r_b3]

theorem pRight {h : G.api_Hist} (hf : Fits h) : G.hist_Right h = some (right h) := by
  have hl := hf.txns
  have hloop : ∀ c, Sh.loop (fun (p : Bool × Int) => G.hist_faults_1__hist_Right__r_b1 h p.1 p.2) (c, 0) = if okAll h 0 h.Txns then some (c, true) else some (false, false) := by
    intro c
    rw [loop_fold (σ := Bool) (fun s k => (s, (k : Int))) (fun k s x => if okT h k x then .inl s else .inr (false, false)) (fun s => some (s, true)) h.Txns (fuel_gt (by omega)) (fun k s hk => ?_) (fun s => ?_) c (t := (c, (0 : Int))) rfl]
    · have key : ∀ (l : List G.api_Txn) (k : Nat), foldE (fun k (s : Bool) (x : G.api_Txn) => if okT h (k : Nat) x then Sum.inl s else Sum.inr (false, false)) (fun s => some (s, true)) k l c = if okAll h k l then some (c, true) else some (false, false) := by
        intro l
        induction l with
        | nil => intro k; simp [foldE, okAll]
        | cons x l ih =>
          intro k
          simp only [foldE]
          rw [show okAll h k (x :: l) = (okT h (k : Nat) x && okAll h (k + 1) l) from rfl]
          by_cases hq : okT h (k : Nat) x = true
          · rw [if_pos hq, hq, Bool.true_and]; exact ih (k + 1)
          · rw [if_neg hq, Bool.eq_false_iff.2 hq]; simp
      exact key h.Txns 0
    · simp only [G.hist_faults_1__hist_Right__r_b1, dec_lt, hk, decide_true, if_true, idx_at hk, Option.bind_some]
      rw [pWrites hf k (by omega) _ (List.getElem_mem hk)]
      cases okT h k h.Txns[k] <;> rfl
    · simp [G.hist_faults_1__hist_Right__r_b1]
  unfold G.hist_Right G.hist_faults G.hist_faults_1__hist_Right__r right
  simp only [Option.bind_some, y1, len_eq]
  by_cases h1 : h.Txns.length ≤ 32
  · have h2 : ((h.Txns.length : Int) ≤ 32) := by omega
    simp only [h1, h2, decide_true, if_true, hloop, Bool.true_and]
    cases okAll h 0 h.Txns <;> simp
  · have h2 : ¬ ((h.Txns.length : Int) ≤ 32) := by omega
    simp [h1, h2]

theorem rWrites {t : G.api_Txn} (hl : t.Writes.length < 9223372036854775807) (k : Int) : G.inquestref08_Writes t k = some (hasW t k) := by
  unfold G.inquestref08_Writes hasW
  rw [any_loop t.Writes (fun x => decide (k = x)) true (some false) (fuel_gt (by omega)) (fun i hi => ?_) ?_]
  · cases t.Writes.any (fun x => decide (k = x)) <;> rfl
  · simp [G.inquestref08_Writes_b1, G.inquestref08_Writes_j1]
  · simp only [G.inquestref08_Writes_b1, dec_lt, hi, decide_true, if_true, idx_at hi, Option.bind_some, w64_succ (show i < 9223372036854775807 by omega), Sh.exit, Sh.next, Option.map_some]
    by_cases h1 : t.Writes[i] = k
    · simp [h1]
    · have : ¬ k = t.Writes[i] := fun h => h1 h.symm
      simp [h1, this]
end Pl
end

section
/- Edges, one by one: what the program and the reference answer. -/

namespace Pl
open Go Go.Av

def tx (h : G.api_Hist) (x : Int) : G.api_Txn := (h.Txns[x.toNat]?).getD default
def inr (h : G.api_Hist) (x : Int) : Bool := decide (0 ≤ x) && decide (x < (h.Txns.length : Int))
theorem inr_iff {h : G.api_Hist} {x : Int} : inr h x = true ↔ 0 ≤ x ∧ x < (h.Txns.length : Int) := by simp [inr]
theorem idx_tx {h : G.api_Hist} {x : Int} (hx : inr h x = true) : Sh.idx h.Txns x = some (tx h x) := by
  rw [inr_iff] at hx
  rw [idx_of hx.1 hx.2]
  simp [tx, List.getElem?_eq_getElem (show x.toNat < h.Txns.length by omega)]
theorem tx_mem {h : G.api_Hist} {x : Int} (hx : inr h x = true) : tx h x ∈ h.Txns := by
  rw [inr_iff] at hx
  simp only [tx, List.getElem?_eq_getElem (show x.toNat < h.Txns.length by omega), Option.getD_some]
  exact List.getElem_mem _

def isW (h : G.api_Hist) (x y : Int) (c : G.api_Choice) : Bool := decide (c.A = x) && decide (c.B = y) && decide (x ≠ y) && hasW (tx h x) c.Key && hasW (tx h y) c.Key
def dirS (h : G.api_Hist) (l : List G.api_Choice) (x y : Int) : Bool :=
  (decide (x < y) && decide ((tx h x).Session = (tx h y).Session)) || (tx h y).Reads.any (fun r => decide (r.From = x)) || l.any (isW h x y)
def isO (h : G.api_Hist) (l : List G.api_Choice) (y : Int) (r : G.api_Take) : Bool :=
  hasW (tx h y) r.Key && (decide (r.From < 0) || (decide (r.From ≠ y) && l.any (fun c => decide (G.api_Choice.mk r.Key r.From y = c))))
def antS (h : G.api_Hist) (l : List G.api_Choice) (x y : Int) : Bool := decide (x ≠ y) && (tx h x).Reads.any (isO h l y)
def two (h : G.api_Hist) (x y : Int) : Bool := right h && inr h x && inr h y
def direct (h : G.api_Hist) (l : List G.api_Choice) (x y : Int) : Bool := two h x y && dirS h l x y
def anti (h : G.api_Hist) (l : List G.api_Choice) (x y : Int) : Bool := two h x y && antS h l x y
def edge (h : G.api_Hist) (lev : Int) (l : List G.api_Choice) (x y : Int) : Bool :=
  if lev = 0 then direct h l x y || anti h l x y
  else if lev = 1 then (List.range h.Txns.length).any (fun m => direct h l x m && (decide ((m : Int) = y) || anti h l m y))
  else false
def ring (h : G.api_Hist) (lev : Int) (l : List G.api_Choice) (row : List Int) : Bool :=
  decide (0 < row.length) && (List.range row.length).all (fun i => !((row.take i).any (fun x => decide (row.getD i 0 = x))) && edge h lev l (row.getD i 0) (row.getD ((i + 1) % row.length) 0))

theorem right_reads {h : G.api_Hist} (hr : right h = true) {t : G.api_Txn} (ht : t ∈ h.Txns) : ∃ n : Int, takes h n (-1) t.Reads = true := by
  simp only [right, Bool.and_eq_true] at hr
  have key : ∀ (l : List G.api_Txn) (n : Nat), okAll h n l = true → ∀ t ∈ l, ∃ n : Int, okT h n t = true := by
    intro l
    induction l with
    | nil => intro n _ t ht; cases ht
    | cons x l ih =>
      intro n hn t ht
      rw [show okAll h n (x :: l) = (okT h (n : Nat) x && okAll h (n + 1) l) from rfl, Bool.and_eq_true] at hn
      rcases List.mem_cons.1 ht with rfl | ht
      · exact ⟨_, hn.1⟩
      · exact ih _ hn.2 t ht
  obtain ⟨n, hn⟩ := key _ 0 hr.2 t ht
  simp only [okT, Bool.and_eq_true] at hn
  exact ⟨n, hn.1.1.2⟩
theorem takes_there {h : G.api_Hist} {n : Int} : ∀ {l : List G.api_Take} {last : Int}, takes h n last l = true → ∀ r ∈ l, there h n r = true
  | [], _, _, r, hr => by cases hr
  | x :: l, last, ht, r, hr => by
    rw [show takes h n last (x :: l) = (decide (last < x.Key) && decide (x.Key < 16) && there h n x && takes h n x.Key l) from rfl] at ht
    simp only [Bool.and_eq_true] at ht
    rcases List.mem_cons.1 hr with rfl | hr
    · exact ht.1.2
    · exact takes_there ht.2 r hr
theorem from_neg {h : G.api_Hist} (hr : right h = true) {t : G.api_Txn} (ht : t ∈ h.Txns) {r : G.api_Take} (hm : r ∈ t.Reads) : r.From < 0 ↔ r.From = -1 := by
  obtain ⟨n, hn⟩ := right_reads hr ht
  have := takes_there hn r hm
  simp only [there, Bool.or_eq_true, Bool.and_eq_true, decide_eq_true_eq] at this
  rcases this with h1 | h1
  · omega
  · have := h1.1.1.1; omega

theorem pWritesAt {h : G.api_Hist} (hf : Fits h) {x : Int} (hx : inr h x = true) (k : Int) : G.edge_writes h x k = some (hasW (tx h x) k) := by
  unfold G.edge_writes
  have := hf.writes _ (tx_mem hx)
  rw [idx_tx hx]
  simp only [Option.bind_some]
  rw [pHas (by omega)]
  rfl
theorem pRead {h : G.api_Hist} (hf : Fits h) {x y : Int} (hy : inr h y = true) (u : G.edge_read) : G.edge_read_is u h x y = some ((tx h y).Reads.any (fun r => decide (r.From = x))) := by
  have hl := hf.reads _ (tx_mem hy)
  unfold G.edge_read_is
  rw [idx_tx hy]
  simp only [Option.bind_some]
  unfold G.slices_ContainsFunc_api_Take_api_Take__edge_read_is_1 G.slices_IndexFunc_api_Take_api_Take__edge_read_is_1
  rw [find_loop (tx h y).Reads (fun r => decide (r.From = x)) (fun k => (k : Int)) (some (-1)) (fuel_gt (by omega)) (fun k hk => ?_) ?_, pos_some, Option.bind_some, contains_of_find]
  · rfl
  · simp [G.slices_IndexFunc_api_Take_api_Take__edge_read_is_1_b1, G.slices_IndexFunc_api_Take_api_Take__edge_read_is_1_j1]
  · simp only [G.slices_IndexFunc_api_Take_api_Take__edge_read_is_1_b1, dec_lt, hk, decide_true, if_true, idx_at hk, Option.bind_some, G.edge_read_is_1__1, w64_succ (show k < 9223372036854775807 by omega)]
    rfl
theorem pWritten {h : G.api_Hist} (hf : Fits h) {x y : Int} (hx : inr h x = true) (hy : inr h y = true) {l : List G.api_Choice} (hl : l.length < 9223372036854775807) : G.edge_written_is l h x y = some (l.any (isW h x y)) := by
  have h1 : ∀ c, G.edge_written_is_1__1 c x y h = some (isW h x y c) := fun c => by
    unfold G.edge_written_is_1__1 isW
    by_cases a : c.A = x <;> by_cases b : c.B = y <;> by_cases d : x = y <;> simp [a, b, d, pWritesAt hf hx, pWritesAt hf hy]
    cases hasW (tx h x) c.Key <;> simp
  unfold G.edge_written_is G.slices_ContainsFunc_edge_written_api_Choice__edge_written_is_1 G.slices_IndexFunc_edge_written_api_Choice__edge_written_is_1
  rw [find_loop l (isW h x y) (fun k => (k : Int)) (some (-1)) (fuel_gt (by omega)) (fun k hk => ?_) ?_, pos_some, Option.bind_some, contains_of_find]
  · rfl
  · simp [G.slices_IndexFunc_edge_written_api_Choice__edge_written_is_1_b1, G.slices_IndexFunc_edge_written_api_Choice__edge_written_is_1_j1]
  · simp only [G.slices_IndexFunc_edge_written_api_Choice__edge_written_is_1_b1, dec_lt, hk, decide_true, if_true, idx_at hk, Option.bind_some, h1, w64_succ (show k < 9223372036854775807 by omega)]
    rfl
theorem pHasC {l : List G.api_Choice} (hl : l.length < 9223372036854775807) (v : G.api_Choice) : G.slices_Contains_edge_over_api_Choice l v = some (l.any (fun c => decide (v = c))) := by
  unfold G.slices_Contains_edge_over_api_Choice G.slices_Index_edge_over_api_Choice
  rw [find_loop l (fun c => decide (v = c)) (fun k => (k : Int)) (some (-1)) (fuel_gt (by omega)) (fun k hk => ?_) ?_, pos_some, Option.bind_some, contains_of_find]
  · simp [G.slices_Index_edge_over_api_Choice_b1, G.slices_Index_edge_over_api_Choice_j1]
  · simp only [G.slices_Index_edge_over_api_Choice_b1, dec_lt, hk, decide_true, if_true, idx_at hk, Option.bind_some, w64_succ (show k < 9223372036854775807 by omega)]
    rfl
theorem pOver {h : G.api_Hist} (hf : Fits h) {x y : Int} (hx : inr h x = true) (hy : inr h y = true) {l : List G.api_Choice} (hl : l.length < 9223372036854775807) : G.edge_over_is l h x y = some (antS h l x y) := by
  have hr := hf.reads _ (tx_mem hx)
  have h1 : ∀ r, G.edge_over_is_1__1 r h y l = some (isO h l y r) := fun r => by
    unfold G.edge_over_is_1__1 isO
    rw [pWritesAt hf hy]
    simp only [Option.bind_some, pHasC hl]
    cases hasW (tx h y) r.Key
    · rfl
    · by_cases a : r.From < 0
      · simp [a]
      · by_cases b : r.From = y
        · have a' : ¬ y < 0 := b ▸ a
          simp [b, a']
        · simp [a, b]
  unfold G.edge_over_is antS
  by_cases hxy : x = y
  · simp [hxy]
  · rw [idx_tx hx]
    simp only [ne_eq, hxy, not_false_eq_true, decide_true, if_true, Option.bind_some, Bool.true_and]
    unfold G.slices_ContainsFunc_api_Take_api_Take__edge_over_is_1 G.slices_IndexFunc_api_Take_api_Take__edge_over_is_1
    rw [find_loop (tx h x).Reads (isO h l y) (fun k => (k : Int)) (some (-1)) (fuel_gt (by omega)) (fun k hk => ?_) ?_, pos_some, Option.bind_some, contains_of_find]
    · rfl
    · simp [G.slices_IndexFunc_api_Take_api_Take__edge_over_is_1_b1, G.slices_IndexFunc_api_Take_api_Take__edge_over_is_1_j1]
    · simp only [G.slices_IndexFunc_api_Take_api_Take__edge_over_is_1_b1, dec_lt, hk, decide_true, if_true, idx_at hk, Option.bind_some, h1, w64_succ (show k < 9223372036854775807 by omega)]
      rfl
theorem pSession {h : G.api_Hist} {x y : Int} (hx : inr h x = true) (hy : inr h y = true) (u : G.edge_session) : G.edge_session_is u h x y = some (decide (x < y) && decide ((tx h x).Session = (tx h y).Session)) := by
  unfold G.edge_session_is
  rw [idx_tx hx, idx_tx hy]
  by_cases h1 : x < y <;> simp [h1]

theorem minmax {h : G.api_Hist} {x y : Int} : (decide (Sh.min x y < 0) = false ∧ decide (Sh.len h.Txns ≤ Sh.max x y) = false) ↔ (inr h x = true ∧ inr h y = true) := by
  rw [decide_eq_false_iff_not, decide_eq_false_iff_not, inr_iff, inr_iff]
  unfold Sh.min Sh.max Sh.len
  split <;> split <;> omega

theorem pDirect {h : G.api_Hist} (hf : Fits h) {l : List G.api_Choice} (hl : l.length < 9223372036854775807) (x y : Int) : G.edge_Direct h l x y = some (direct h l x y) := by
  unfold G.edge_Direct G.edge_some__lit3 direct two
  rw [pRight hf]
  simp only [Option.bind_some, G.edge_some__lit3_j1]
  cases hr : right h
  · simp
  · by_cases hin : inr h x = true ∧ inr h y = true
    · obtain ⟨m1, m2⟩ := (minmax (h := h)).2 hin
      obtain ⟨hx, hy⟩ := hin
      simp only [m1, m2, hx, hy, Bool.not_true, Bool.false_eq_true, if_false, Bool.and_self, Bool.true_and]
      unfold G.slices_ContainsFunc_edge_kind_edge_kind__lit3_edge_some_1 G.slices_IndexFunc_edge_kind_edge_kind__lit3_edge_some_1 G.edge_some_1__edge_session G.edge_some_1__edge_read G.edge_some_1__edge_written
      rw [pSession hx hy, pRead hf hy, pWritten hf hx hy hl]
      simp only [Option.bind_some, G.slices_IndexFunc_edge_kind_edge_kind__lit3_edge_some_1_j1, dirS]
      cases decide (x < y) && decide ((tx h x).Session = (tx h y).Session)
      · cases (tx h y).Reads.any (fun r => decide (r.From = x))
        · cases l.any (isW h x y) <;> simp
        · simp
      · simp
    · have hm : ¬ (decide (Sh.min x y < 0) = false ∧ decide (Sh.len h.Txns ≤ Sh.max x y) = false) := fun hm => hin ((minmax (h := h)).1 hm)
      have hz : (inr h x && inr h y) = false := by
        cases a : inr h x <;> cases b : inr h y <;> simp_all
      rw [Bool.true_and, hz]
      simp only [Bool.not_true, Bool.false_eq_true, if_false, Bool.false_and]
      cases m1 : decide (Sh.min x y < 0)
      · cases m2 : decide (Sh.len h.Txns ≤ Sh.max x y)
        · exact absurd ⟨m1, m2⟩ hm
        · simp
      · simp
theorem pAnti {h : G.api_Hist} (hf : Fits h) {l : List G.api_Choice} (hl : l.length < 9223372036854775807) (x y : Int) : G.edge_Anti h l x y = some (anti h l x y) := by
  unfold G.edge_Anti G.edge_some__lit1 anti two
  rw [pRight hf]
  simp only [Option.bind_some, G.edge_some__lit1_j1]
  cases hr : right h
  · simp
  · by_cases hin : inr h x = true ∧ inr h y = true
    · obtain ⟨m1, m2⟩ := (minmax (h := h)).2 hin
      obtain ⟨hx, hy⟩ := hin
      simp only [m1, m2, hx, hy, Bool.not_true, Bool.false_eq_true, if_false, Bool.and_self, Bool.true_and]
      unfold G.slices_ContainsFunc_edge_kind_edge_kind__lit1_edge_some_1 G.slices_IndexFunc_edge_kind_edge_kind__lit1_edge_some_1 G.edge_some_1__edge_over
      rw [pOver hf hx hy hl]
      simp only [Option.bind_some, G.slices_IndexFunc_edge_kind_edge_kind__lit1_edge_some_1_j1]
      cases antS h l x y <;> simp
    · have hm : ¬ (decide (Sh.min x y < 0) = false ∧ decide (Sh.len h.Txns ≤ Sh.max x y) = false) := fun hm => hin ((minmax (h := h)).1 hm)
      have hz : (inr h x && inr h y) = false := by
        cases a : inr h x <;> cases b : inr h y <;> simp_all
      rw [Bool.true_and, hz]
      simp only [Bool.not_true, Bool.false_eq_true, if_false, Bool.false_and]
      cases m1 : decide (Sh.min x y < 0)
      · cases m2 : decide (Sh.len h.Txns ≤ Sh.max x y)
        · exact absurd ⟨m1, m2⟩ hm
        · simp
      · simp
theorem pIs {h : G.api_Hist} (hf : Fits h) {l : List G.api_Choice} (hl : l.length < 9223372036854775807) (lev x y : Int) : G.edge_Is h lev l x y = some (edge h lev l x y) := by
  unfold G.edge_Is edge
  rw [pDirect hf hl, pAnti hf hl]
  simp only [Option.bind_some]
  by_cases h0 : lev = 0
  · subst h0
    simp only [decide_true, if_true]
    cases direct h l x y <;> simp
  · by_cases h1 : lev = 1
    · subst h1
      simp only [h0, decide_false, Bool.false_eq_true, if_false, decide_true, if_true]
      have hrl : (List.range h.Txns.length).length = h.Txns.length := by simp
      have ht := hf.txns
      rw [any_loop (List.range h.Txns.length) (fun m => direct h l x m && (decide ((m : Int) = y) || anti h l m y)) true (some false) (fuel_gt (by omega)) (fun k hk => ?_) ?_]
      · cases (List.range h.Txns.length).any (fun m => direct h l x m && (decide ((m : Int) = y) || anti h l m y)) <;> rfl
      · simp [G.edge_Is_b1, G.edge_Is_j1, dec_lt]
      · rw [hrl] at hk
        simp only [G.edge_Is_b1, dec_lt, hk, decide_true, if_true, pDirect hf hl, pAnti hf hl, Option.bind_some, G.edge_Is_j2, w64_succ (show k < 9223372036854775807 by omega), List.getElem_range]
        cases direct h l x k
        · rfl
        · by_cases hy : (k : Int) = y
          · simp [hy, Sh.exit]
          · cases anti h l k y <;> simp [hy, Sh.exit, Sh.next]
    · simp [h0, h1, G.edge_Is_j1]
end Pl
end

section
/- Rings of edges, and what the reference answers of edges. -/
namespace Pl
open Go Go.Av

def okRing (h : G.api_Hist) (lev : Int) (l : List G.api_Choice) (row : List Int) (i : Nat) : Bool :=
  !((row.take i).any (fun x => decide (row.getD i 0 = x))) && edge h lev l (row.getD i 0) (row.getD ((i + 1) % row.length) 0)
theorem ring_eq (h : G.api_Hist) (lev : Int) (l : List G.api_Choice) (row : List Int) :
    ring h lev l row = if ∀ k, k < row.length → okRing h lev l row k = true then decide (0 < row.length) else false := by
  unfold ring
  by_cases hq : ∀ k, k < row.length → okRing h lev l row k = true
  · rw [if_pos hq]
    have : (List.range row.length).all (okRing h lev l row) = true := List.all_eq_true.2 fun k hk => hq k (List.mem_range.1 hk)
    rw [show (List.range row.length).all (fun i => !((row.take i).any (fun x => decide (row.getD i 0 = x))) && edge h lev l (row.getD i 0) (row.getD ((i + 1) % row.length) 0)) = true from this, Bool.and_true]
  · rw [if_neg hq]
    have : (List.range row.length).all (okRing h lev l row) = false := by
      cases hc : (List.range row.length).all (okRing h lev l row) with
      | false => rfl
      | true => exact absurd (fun k hk => List.all_eq_true.1 hc k (List.mem_range.2 hk)) hq
    rw [show (List.range row.length).all (fun i => !((row.take i).any (fun x => decide (row.getD i 0 = x))) && edge h lev l (row.getD i 0) (row.getD ((i + 1) % row.length) 0)) = false from this, Bool.and_false]
theorem getD_at {l : List Int} {k : Nat} (h : k < l.length) : l.getD k 0 = l[k] := by simp [List.getD, List.getElem?_eq_getElem h]
theorem rem_ok {a b : Nat} (hb : 0 < b) (ha : a < 9223372036854775808) (hb2 : b < 9223372036854775808) : Sh.rem (a : Int) (b : Int) = some ((a % b : Nat) : Int) := by
  unfold Sh.rem
  have : (b : Int) ≠ 0 := by omega
  simp only [this, ne_eq, not_false_eq_true, if_true]
  rw [Int.tmod_eq_emod_of_nonneg (by omega)]
  rfl
theorem pCycle {h : G.api_Hist} (hf : Fits h) {l : List G.api_Choice} (hl : l.length < 9223372036854775807) (lev : Int) {row : List Int} (hw : row.length < 9223372036854775808) :
    G.edge_Cycle h lev l row = some (ring h lev l row) := by
  unfold G.edge_Cycle
  rw [ring_eq]
  refine scan0 row.length (okRing h lev l row) (decide (0 < row.length)) false (fuel_gt (by omega)) (fun k hk => ?_) ?_
  · have hm : (k + 1) % row.length < row.length := Nat.mod_lt _ (by omega)
    simp only [G.edge_Cycle_b1, dec_lt, hk, decide_true, if_true, idx_at hk, Option.bind_some, len_eq]
    rw [show Sh.sub row 0 (k : Int) = some (row.take k) by simpa using sub_ok (l := row) (m := 0) (k := k) (by omega) (by omega)]
    rw [Option.bind_some, pHas (by simp; omega), Option.bind_some]
    unfold okRing
    rw [getD_at hk, getD_at hm]
    cases hc : (row.take k).any (fun x => decide (row[k] = x)) with
    | true => simp [G.edge_Cycle_j2, Sh.exit]
    | false =>
      rw [if_neg (by simp), w64_succ (by omega), rem_ok (by omega) (by omega) (by omega)]
      simp only [Option.bind_some, idx_at hm, pIs hf hl, G.edge_Cycle_j2, w64_succ (show k < 9223372036854775807 by omega)]
      cases edge h lev l row[k] row[(k + 1) % row.length] <;> simp [Sh.exit, Sh.next]
  · simp [G.edge_Cycle_b1, G.edge_Cycle_j1, Sh.exit, len_eq]

theorem rIn {l : List G.api_Choice} (hl : l.length < 9223372036854775807) (v : G.api_Choice) : G.inquestref18_In l v = some (l.any (fun c => decide (v = c))) := by
  unfold G.inquestref18_In
  rw [any_loop l (fun c => decide (v = c)) true (some false) (fuel_gt (by omega)) (fun i hi => ?_) ?_]
  · cases l.any (fun c => decide (v = c)) <;> rfl
  · simp [G.inquestref18_In_b1, G.inquestref18_In_j1]
  · simp only [G.inquestref18_In_b1, dec_lt, hi, decide_true, if_true, idx_at hi, Option.bind_some, w64_succ (show i < 9223372036854775807 by omega), Sh.exit, Sh.next, Option.map_some]
    by_cases h1 : l[i] = v
    · simp [h1]
    · have : ¬ v = l[i] := fun h => h1 h.symm
      simp [h1, this]
end Pl
end

section
/- The reference's word on histories: whether one may be, and whether it is small. -/
namespace Pl
open Go Go.Av

def climbs {α : Type} (key : α → Int) (ok : α → Bool) : Int → List α → Bool
  | _, [] => true
  | last, x :: l => decide (last < key x) && decide (key x < 16) && ok x && climbs key ok (key x) l
theorem rising_eq : ∀ (l : List Int) (last : Int), rising last l = climbs id (fun _ => true) last l
  | [], _ => rfl
  | x :: l, last => by
    rw [show rising last (x :: l) = (decide (last < x) && decide (x < 16) && rising x l) from rfl, rising_eq l x]
    simp [climbs]
theorem takes_eq (h : G.api_Hist) (n : Int) : ∀ (l : List G.api_Take) (last : Int), takes h n last l = climbs (·.Key) (there h n) last l
  | [], _ => rfl
  | x :: l, last => by
    rw [show takes h n last (x :: l) = (decide (last < x.Key) && decide (x.Key < 16) && there h n x && takes h n x.Key l) from rfl, takes_eq h n l x.Key]
    rfl
theorem climbs_iff {α : Type} {key : α → Int} {ok : α → Bool} : ∀ {l : List α} {last : Int}, climbs key ok last l = true ↔
    ∀ k (hk : k < l.length), key l[k] < 16 ∧ ok l[k] = true ∧ (if h0 : k = 0 then last < key l[k] else key (l[k - 1]'(by omega)) < key l[k])
  | [], last => by simp [climbs]
  | x :: l, last => by
    simp only [climbs, Bool.and_eq_true, decide_eq_true_eq, climbs_iff (l := l)]
    constructor
    · rintro ⟨⟨⟨h1, h2⟩, h3⟩, h4⟩ k hk
      cases k with
      | zero => exact ⟨h2, h3, by simpa using h1⟩
      | succ k =>
        have := h4 k (by simpa using hk)
        refine ⟨by simpa using this.1, by simpa using this.2.1, ?_⟩
        have h5 := this.2.2
        rw [dif_neg (by omega)]
        cases k with
        | zero => simpa using h5
        | succ k => simpa using h5
    · intro h
      have h0 := h 0 (by simp)
      refine ⟨⟨⟨by simpa using h0.2.2, by simpa using h0.1⟩, by simpa using h0.2.1⟩, fun k hk => ?_⟩
      have := h (k + 1) (by simpa using hk)
      refine ⟨by simpa using this.1, by simpa using this.2.1, ?_⟩
      have h5 := this.2.2
      rw [dif_neg (by omega)] at h5
      cases k with
      | zero => simpa using h5
      | succ k => simpa using h5
def step {α : Type} (key : α → Int) (ok : α → Bool) (l : List α) (k : Nat) : Bool :=
  match l[k]? with
  | none => true
  | some x => decide (0 ≤ key x) && decide (key x < 16) && ok x && (decide (k = 0) || match l[k - 1]? with | none => true | some y => decide (key y < key x))
theorem climbs_step {α : Type} (key : α → Int) (ok : α → Bool) (l : List α) : decide (∀ k, k < l.length → step key ok l k = true) = climbs key ok (-1) l := by
  rw [Bool.eq_iff_iff, decide_eq_true_eq, climbs_iff]
  constructor
  · intro h k hk
    have h1 := h k hk
    simp only [step, List.getElem?_eq_getElem hk, Bool.and_eq_true, decide_eq_true_eq, Bool.or_eq_true] at h1
    refine ⟨h1.1.1.2, h1.1.2, ?_⟩
    split
    · have := h1.1.1.1; omega
    · have h2 := h1.2.resolve_left (by assumption)
      rw [List.getElem?_eq_getElem (show k - 1 < l.length by omega)] at h2
      simpa using h2
  · intro h
    have pos : ∀ k (hk : k < l.length), 0 ≤ key l[k] := by
      intro k
      induction k with
      | zero =>
        intro hk
        have := (h 0 hk).2.2
        rw [dif_pos rfl] at this; omega
      | succ k ih =>
        intro hk
        have h1 := ih (by omega)
        have := (h (k + 1) hk).2.2
        rw [dif_neg (by omega)] at this
        simp only [Nat.add_sub_cancel] at this
        omega
    intro k hk
    obtain ⟨h1, h2, h3⟩ := h k hk
    simp only [step, List.getElem?_eq_getElem hk, Bool.and_eq_true, decide_eq_true_eq, Bool.or_eq_true]
    refine ⟨⟨⟨pos k hk, h1⟩, h2⟩, ?_⟩
    by_cases h0 : k = 0
    · exact .inl h0
    · rw [dif_neg h0] at h3
      rw [List.getElem?_eq_getElem (show k - 1 < l.length by omega)]
      exact .inr (by simpa using h3)
theorem step_at {α : Type} (key : α → Int) (ok : α → Bool) (l : List α) (k : Nat) (hk : k < l.length) :
    step key ok l k = (decide (0 ≤ key l[k]) && decide (key l[k] < 16) && ok l[k] && (if h0 : k = 0 then true else decide (key (l[k - 1]'(by omega)) < key l[k]))) := by
  unfold step
  rw [List.getElem?_eq_getElem hk]
  by_cases h0 : k = 0
  · subst h0; simp
  · rw [List.getElem?_eq_getElem (show k - 1 < l.length by omega)]
    simp [h0]

theorem w64_pred {k : Nat} (h0 : 0 < k) (h : k < 9223372036854775807) : w64 ((k : Int) - 1) = ((k - 1 : Nat) : Int) := by
  rw [w64_id (by omega) (by omega)]; omega
theorem rThere {h : G.api_Hist} (hf : Fits h) (n : Nat) (x : G.api_Take) : there h n x = (!(decide (x.From < -1) || decide ((h.Txns.length : Int) ≤ x.From) || decide (x.From = n)) && (decide (x.From < 0) || match h.Txns[x.From.toNat]? with | some t => hasW t x.Key | none => false)) := by
  unfold there
  by_cases a : x.From = -1
  · have h1 : ¬ ((-1 : Int) = n) := by omega
    have h2 : ¬ ((h.Txns.length : Int) ≤ -1) := by omega
    simp [a, h1, h2]
  · by_cases b : 0 ≤ x.From
    · have h1 : ¬ x.From < -1 := by omega
      have h2 : ¬ x.From < 0 := by omega
      by_cases c : x.From < (h.Txns.length : Int)
      · have h3 : ¬ ((h.Txns.length : Int) ≤ x.From) := by omega
        by_cases d : x.From = n <;> simp [a, b, c, d, h1, h2, h3]
      · have h3 : ((h.Txns.length : Int) ≤ x.From) := by omega
        simp [a, b, c, h3]
    · have h1 : x.From < -1 := by omega
      simp [a, b, h1]
theorem rOneT {h : G.api_Hist} (hf : Fits h) {n : Nat} (hn : n < h.Txns.length) : G.inquestref08_one h n = some (okT h n h.Txns[n]) := by
  have hw := hf.writes _ (List.getElem_mem hn)
  have hr := hf.reads _ (List.getElem_mem hn)
  have hreads : G.inquestref08_one_j2 h n h.Txns[n] = some (takes h n (-1) (h.Txns[n]).Reads) := by
    unfold G.inquestref08_one_j2
    rw [takes_eq, ← climbs_step]
    refine scan_true (h.Txns[n]).Reads.length (step (·.Key) (there h n) (h.Txns[n]).Reads) (fuel_gt (by omega)) (fun k hk => ?_) ?_
    · have h5 : ∀ b : Bool, (b = false → ((h.Txns[n]).Reads[k]).From < (h.Txns.length : Int)) → G.inquestref08_one_j5 h k ((h.Txns[n]).Reads[k]) b = if !b && (decide (((h.Txns[n]).Reads[k]).From < 0) || match h.Txns[((h.Txns[n]).Reads[k]).From.toNat]? with | some t => hasW t ((h.Txns[n]).Reads[k]).Key | none => false) then some (.inl ((k + 1 : Nat) : Int)) else some (.inr false) := fun b hb => by
        unfold G.inquestref08_one_j5
        cases b with
        | true => simp [Sh.exit]
        | false =>
          have hlt := hb rfl
          by_cases a : ((h.Txns[n]).Reads[k]).From < 0
          · simp [a, G.inquestref08_one_j4, w64_succ (show k < 9223372036854775807 by omega), Sh.next]
          · have hi : ((h.Txns[n]).Reads[k]).From.toNat < h.Txns.length := by omega
            rw [idx_of (by omega) hlt, List.getElem?_eq_getElem hi]
            simp only [a, decide_false, Bool.false_eq_true, if_false, Option.bind_some, rWrites (hf.writes _ (List.getElem_mem hi)), G.inquestref08_one_j4, w64_succ (show k < 9223372036854775807 by omega), Sh.exit, Sh.next, Option.map_some, Bool.not_false, Bool.true_and, Bool.false_or]
            cases hasW h.Txns[((h.Txns[n]).Reads[k]).From.toNat] ((h.Txns[n]).Reads[k]).Key <;> simp
      simp only [G.inquestref08_one_b1, dec_lt, hk, decide_true, if_true, idx_at hk, Option.bind_some, step_at _ _ _ k hk, rThere hf]
      by_cases a0 : ((h.Txns[n]).Reads[k]).Key < 0
      · rw [if_pos (by simpa using a0), h5 _ (by simp)]
        have : ¬ 0 ≤ ((h.Txns[n]).Reads[k]).Key := by omega
        simp [this]
      rw [if_neg (by simpa using a0)]
      by_cases a1 : 15 < ((h.Txns[n]).Reads[k]).Key
      · rw [if_pos (by simpa using a1), h5 _ (by simp)]
        have : ¬ ((h.Txns[n]).Reads[k]).Key < 16 := by omega
        simp [this]
      rw [if_neg (by simpa using a1)]
      have b0 : 0 ≤ ((h.Txns[n]).Reads[k]).Key := by omega
      have b1 : ((h.Txns[n]).Reads[k]).Key < 16 := by omega
      have tail : (if decide (((h.Txns[n]).Reads[k]).From < (-1)) then G.inquestref08_one_j5 h k ((h.Txns[n]).Reads[k]) true else if decide ((Sh.len h.Txns) ≤ ((h.Txns[n]).Reads[k]).From) then G.inquestref08_one_j5 h k ((h.Txns[n]).Reads[k]) true else G.inquestref08_one_j5 h k ((h.Txns[n]).Reads[k]) (decide (((h.Txns[n]).Reads[k]).From = n)))
          = if there h n ((h.Txns[n]).Reads[k]) then some (.inl ((k + 1 : Nat) : Int)) else some (.inr false) := by
        rw [rThere hf]
        by_cases c : ((h.Txns[n]).Reads[k]).From < -1
        · rw [if_pos (by simpa using c), h5 _ (by simp)]
          simp [c]
        rw [if_neg (by simpa using c)]
        by_cases d : (h.Txns.length : Int) ≤ ((h.Txns[n]).Reads[k]).From
        · rw [if_pos (by simpa using d), h5 _ (by simp)]
          simp [d]
        rw [if_neg (by simpa using d), h5 _ (fun _ => by omega)]
        simp [c, d]
      rw [tail, rThere hf]
      cases k with
      | zero => simp [b0, b1]
      | succ k =>
        have hk2 : k < (h.Txns[n]).Reads.length := by omega
        rw [if_pos (by simp), w64_pred (by omega) (by omega), idx_at (show k + 1 - 1 < _ by omega)]
        simp only [Nat.add_sub_cancel, Option.bind_some]
        by_cases e : ((h.Txns[n]).Reads[k + 1]).Key ≤ ((h.Txns[n]).Reads[k]).Key
        · rw [if_pos (by simpa using e), h5 _ (by simp)]
          have : ¬ ((h.Txns[n]).Reads[k]).Key < ((h.Txns[n]).Reads[k + 1]).Key := by omega
          simp [this]
        · rw [if_neg (by simpa using e)]
          have : ((h.Txns[n]).Reads[k]).Key < ((h.Txns[n]).Reads[k + 1]).Key := by omega
          simp [this, b0, b1]
    · simp [G.inquestref08_one_b1, G.inquestref08_one_j3, Sh.exit]
  have hwrites : Sh.loop (fun (p : Int) => G.inquestref08_one_b2 h n h.Txns[n] p) 0 = some (rising (-1) (h.Txns[n]).Writes && takes h n (-1) (h.Txns[n]).Reads) := by
    have h6 : ∀ (k : Nat) (b : Bool), k < 9223372036854775807 → G.inquestref08_one_j6 k b = if b then some (.inr false) else some (.inl ((k + 1 : Nat) : Int)) := fun k b hk => by
      unfold G.inquestref08_one_j6
      rw [w64_succ hk]
      cases b <;> rfl
    have := scan0 (b := fun (p : Int) => G.inquestref08_one_b2 h n h.Txns[n] p) (h.Txns[n]).Writes.length (step id (fun _ => true) (h.Txns[n]).Writes) (takes h n (-1) (h.Txns[n]).Reads) false (fuel_gt (by omega)) (fun k hk => ?_) ?_
    · rw [this, rising_eq, ← climbs_step]
      by_cases hq : ∀ k, k < (h.Txns[n]).Writes.length → step id (fun _ => true) (h.Txns[n]).Writes k = true
      · rw [if_pos hq, decide_eq_true hq, Bool.true_and]
      · rw [if_neg hq, decide_eq_false hq, Bool.false_and]
    · simp only [G.inquestref08_one_b2, dec_lt, hk, decide_true, if_true, idx_at hk, Option.bind_some, step_at _ _ _ k hk, h6 k _ (by omega), id]
      by_cases a0 : (h.Txns[n]).Writes[k] < 0
      · have : ¬ 0 ≤ (h.Txns[n]).Writes[k] := by omega
        simp [a0, this]
      rw [if_neg (by simpa using a0)]
      by_cases a1 : 15 < (h.Txns[n]).Writes[k]
      · have : ¬ (h.Txns[n]).Writes[k] < 16 := by omega
        simp [a1, this]
      rw [if_neg (by simpa using a1)]
      have b0 : 0 ≤ (h.Txns[n]).Writes[k] := by omega
      have b1 : (h.Txns[n]).Writes[k] < 16 := by omega
      cases k with
      | zero => simp [b0, b1]
      | succ k =>
        have hk2 : k < (h.Txns[n]).Writes.length := by omega
        rw [if_pos (by simp), w64_pred (by omega) (by omega), idx_at (show k + 1 - 1 < _ by omega)]
        simp only [Nat.add_sub_cancel, Option.bind_some]
        by_cases e : (h.Txns[n]).Writes[k + 1] ≤ (h.Txns[n]).Writes[k]
        · have : ¬ (h.Txns[n]).Writes[k] < (h.Txns[n]).Writes[k + 1] := by omega
          simp [e, this]
        · have : (h.Txns[n]).Writes[k] < (h.Txns[n]).Writes[k + 1] := by omega
          simp [e, this, b0, b1]
    · simp only [G.inquestref08_one_b2, dec_lt, Nat.lt_irrefl, decide_false, Bool.false_eq_true, if_false, hreads]
      rfl
  unfold G.inquestref08_one G.inquestref08_one_j1
  rw [idx_at hn]
  simp only [Option.bind_some, hwrites]
  unfold okT
  by_cases a : (h.Txns[n]).Session < 0
  · have : ¬ 0 ≤ (h.Txns[n]).Session := by omega
    simp [a, this]
  · have a2 : 0 ≤ (h.Txns[n]).Session := by omega
    by_cases b : 7 < (h.Txns[n]).Session
    · have : ¬ (h.Txns[n]).Session < 8 := by omega
      simp [a, b, this]
    · have b2 : (h.Txns[n]).Session < 8 := by omega
      simp [a, b, a2, b2]
theorem okAll_iff (h : G.api_Hist) : ∀ (l : List G.api_Txn) (n : Nat), okAll h n l = decide (∀ k (hk : k < l.length), okT h ((n + k : Nat) : Int) l[k] = true)
  | [], n => by simp [okAll]
  | t :: l, n => by
    rw [show okAll h n (t :: l) = (okT h (n : Nat) t && okAll h (n + 1) l) from rfl, okAll_iff h l (n + 1), Bool.eq_iff_iff, Bool.and_eq_true, decide_eq_true_eq, decide_eq_true_eq]
    constructor
    · rintro ⟨h1, h2⟩ k hk
      cases k with
      | zero => simpa using h1
      | succ k =>
        have := h2 k (by simpa using hk)
        rw [show n + 1 + k = n + (k + 1) by omega] at this
        simpa using this
    · intro h1
      refine ⟨h1 0 (by simp), fun k hk => ?_⟩
      have := h1 (k + 1) (by simpa using hk)
      rw [show n + 1 + k = n + (k + 1) by omega]
      simpa using this
theorem rRight {h : G.api_Hist} (hf : Fits h) : G.inquestref08_Right h = some (right h) := by
  unfold G.inquestref08_Right right
  by_cases h1 : h.Txns.length ≤ 32
  · have h2 : ¬ (32 : Int) < (h.Txns.length : Int) := by omega
    simp only [Sh.len, h2, decide_false, Bool.false_eq_true, if_false, h1, decide_true, Bool.true_and]
    rw [okAll_iff]
    have := scan_true (b := fun (p : Int) => G.inquestref08_Right_b1 h p) h.Txns.length (fun k => match h.Txns[k]? with | some t => okT h k t | none => true) (fuel_gt (by omega)) (fun k hk => ?_) ?_
    · rw [this]
      congr 2
      refine propext ⟨fun h3 k hk => ?_, fun h3 k hk => ?_⟩
      · have := h3 k hk
        simp only [List.getElem?_eq_getElem hk] at this
        simpa using this
      · simp only [List.getElem?_eq_getElem hk]
        simpa using h3 k hk
    · simp only [G.inquestref08_Right_b1, dec_lt, hk, decide_true, if_true, rOneT hf hk, Option.bind_some, List.getElem?_eq_getElem hk, w64_succ (show k < 9223372036854775807 by omega)]
      cases okT h k h.Txns[k] <;> simp [Sh.exit, Sh.next]
    · simp [G.inquestref08_Right_b1, G.inquestref08_Right_j1, Sh.exit]
  · have h2 : (32 : Int) < (h.Txns.length : Int) := by omega
    simp [Sh.len, h2, h1]

theorem dec_len_gt {α : Type} (l : List α) : decide ((20 : Int) < Sh.len l) = !decide (l.length ≤ 20) := by
  by_cases h : l.length ≤ 20 <;> simp [h, Sh.len] <;> omega
def few (h : G.api_Hist) (m : Int) : Bool := decide ((h.Txns.length : Int) ≤ m) && h.Txns.all (fun t => decide (t.Writes.length ≤ 20) && decide (t.Reads.length ≤ 20))
theorem rFew {h : G.api_Hist} {m : Int} (hm : m < 9223372036854775807) : G.inquestref08_Few h m = some (few h m) := by
  unfold G.inquestref08_Few few
  by_cases h1 : (h.Txns.length : Int) ≤ m
  · have h2 : ¬ m < (h.Txns.length : Int) := by omega
    simp only [Sh.len, h2, decide_false, Bool.false_eq_true, if_false, h1, decide_true, Bool.true_and]
    rw [any_loop h.Txns (fun t => !(decide (t.Writes.length ≤ 20) && decide (t.Reads.length ≤ 20))) false (some true) (fuel_gt (by omega)) (fun k hk => ?_) ?_]
    · rw [List.any_eq_not_all_not]
      simp only [Bool.not_not]
      cases h.Txns.all (fun t => decide (t.Writes.length ≤ 20) && decide (t.Reads.length ≤ 20)) <;> rfl
    · simp [G.inquestref08_Few_b1, G.inquestref08_Few_j1]
    · simp only [G.inquestref08_Few_b1, dec_lt, hk, decide_true, if_true, idx_at hk, Option.bind_some, dec_len_gt, G.inquestref08_Few_j2, w64_succ (show k < 9223372036854775807 by omega), Sh.exit, Sh.next, Option.map_some]
      by_cases a : (h.Txns[k]).Writes.length ≤ 20 <;> by_cases b : (h.Txns[k]).Reads.length ≤ 20 <;> simp [a, b]
  · have h2 : m < (h.Txns.length : Int) := by omega
    simp [Sh.len, h2, h1]
theorem few_fits {h : G.api_Hist} {m : Int} (hm : m < 9223372036854775807) (hf : few h m = true) : Fits h := by
  simp only [few, Bool.and_eq_true, decide_eq_true_eq, List.all_eq_true] at hf
  exact ⟨by omega, fun t ht => by have := (hf.2 t ht).1; omega, fun t ht => by have := (hf.2 t ht).2; omega⟩
end Pl
end

section
/- Law 19, first half: edges as the reference sees them; what one more choice adds. -/

namespace Pl
open Go Go.Av

def one (h : G.api_Hist) (c : G.api_Choice) : Bool := decide (c.A ≠ c.B) && inr h c.A && inr h c.B && hasW (tx h c.A) c.Key && hasW (tx h c.B) c.Key
theorem from_ok {h : G.api_Hist} (hr : right h = true) {t : G.api_Txn} (ht : t ∈ h.Txns) {r : G.api_Take} (hm : r ∈ t.Reads) (h0 : ¬ r.From < 0) : inr h r.From = true ∧ hasW (tx h r.From) r.Key = true := by
  obtain ⟨n, hn⟩ := right_reads hr ht
  have := takes_there hn r hm
  simp only [there, Bool.or_eq_true, Bool.and_eq_true, decide_eq_true_eq] at this
  rcases this with h1 | h1
  · omega
  · obtain ⟨⟨⟨a, b⟩, _⟩, d⟩ := h1
    refine ⟨inr_iff.2 ⟨a, b⟩, ?_⟩
    unfold tx
    have hi : r.From.toNat < h.Txns.length := by omega
    rw [List.getElem?_eq_getElem hi] at d ⊢
    exact d
end Pl
end

section
/- Facts: what follows from what; the program's answer and the reference's. -/
namespace Pl
open Go Go.Av

def back (c : G.api_Choice) : G.api_Choice := ⟨c.Key, c.B, c.A⟩
def ini (l : List G.fact_Fact) (i : Int) : Bool := decide (0 ≤ i) && decide (i < (l.length : Int))
def fa (l : List G.fact_Fact) (i : Int) : G.fact_Fact := (l[i.toNat]?).getD default
theorem ini_iff {l : List G.fact_Fact} {i : Int} : ini l i = true ↔ 0 ≤ i ∧ i < (l.length : Int) := by simp [ini]
def may (h : G.api_Hist) (lev : Int) : Bool := right h && (decide (lev = 0) || decide (lev = 1))
def joinedB (l : List G.fact_Fact) (f : G.fact_Fact) : Bool :=
  ini l f.I && ini l f.J && decide ((fa l f.I).C.B = (fa l f.J).C.A) && decide ((fa l f.I).C.Key = (fa l f.J).C.Key) && decide (f.C = ⟨(fa l f.I).C.Key, (fa l f.I).C.A, (fa l f.J).C.B⟩)
def seenB (h : G.api_Hist) (f : G.fact_Fact) : Bool :=
  decide (f.J = 0) && decide (f.I ≠ f.C.A) && inr h f.I && (tx h f.I).Reads.any (fun r => decide (G.api_Take.mk f.C.Key f.C.B = r)) && direct h [] f.C.A f.I
def reason (h : G.api_Hist) (lev : Int) (l : List G.fact_Fact) (f : G.fact_Fact) : Bool :=
  if f.Kind = 1 then decide (f.I = 0) && decide (f.J = 0) && direct h [] f.C.A f.C.B
  else if f.Kind = 2 then joinedB l f
  else if f.Kind = 3 then seenB h f
  else if f.Kind = 4 then decide (f.I = 0) && decide (f.J = 0) && ring h lev (l.map (·.C) ++ [back f.C]) f.Cycle
  else false
def holds (h : G.api_Hist) (lev : Int) (l : List G.fact_Fact) (f : G.fact_Fact) : Bool :=
  may h lev && one h f.C && (decide (f.Kind = 4) || decide (f.Cycle.length = 0)) && reason h lev l f
def okFact (h : G.api_Hist) (lev : Int) (l : List G.fact_Fact) (k : Nat) : Bool := holds h lev (l.take k) (l.getD k default)
def replay (h : G.api_Hist) (lev : Int) (l : List G.fact_Fact) : Bool := may h lev && decide (∀ k, k < l.length → okFact h lev l k = true)

theorem direct_sub {h : G.api_Hist} {l m : List G.api_Choice} (hs : ∀ c ∈ l, c ∈ m) {x y : Int} (hd : direct h l x y = true) : direct h m x y = true := by
  unfold direct dirS at *
  simp only [Bool.and_eq_true, Bool.or_eq_true, List.any_eq_true] at *
  refine ⟨hd.1, hd.2.imp id ?_⟩
  rintro ⟨c, hc, hp⟩; exact ⟨c, hs c hc, hp⟩
theorem anti_sub {h : G.api_Hist} {l m : List G.api_Choice} (hs : ∀ c ∈ l, c ∈ m) {x y : Int} (hd : anti h l x y = true) : anti h m x y = true := by
  unfold anti antS isO at *
  simp only [Bool.and_eq_true, Bool.or_eq_true, List.any_eq_true] at *
  obtain ⟨h1, h2, r, hr, h3, h4⟩ := hd
  refine ⟨h1, h2, r, hr, h3, h4.imp id ?_⟩
  rintro ⟨h5, c, hc, hp⟩; exact ⟨h5, c, hs c hc, hp⟩
theorem edge_sub {h : G.api_Hist} {l m : List G.api_Choice} (hs : ∀ c ∈ l, c ∈ m) {lev x y : Int} (hd : edge h lev l x y = true) : edge h lev m x y = true := by
  unfold edge at *
  by_cases h0 : lev = 0
  · simp only [h0, if_true, Bool.or_eq_true] at *
    exact hd.imp (direct_sub hs) (anti_sub hs)
  · by_cases h1 : lev = 1
    · simp only [h0, h1, if_false, if_true, List.any_eq_true, Bool.and_eq_true, Bool.or_eq_true, show ¬ ((1 : Int) = 0) by omega] at *
      obtain ⟨m, hm, hd1, hd2⟩ := hd
      exact ⟨m, hm, direct_sub hs hd1, hd2.imp id (anti_sub hs)⟩
    · simp [h0, h1] at hd
theorem ring_sub {h : G.api_Hist} {l m : List G.api_Choice} (hs : ∀ c ∈ l, c ∈ m) {lev : Int} {row : List Int} (hd : ring h lev l row = true) : ring h lev m row = true := by
  unfold ring at *
  simp only [Bool.and_eq_true, List.all_eq_true] at *
  exact ⟨hd.1, fun i hi => ⟨(hd.2 i hi).1, edge_sub hs (hd.2 i hi).2⟩⟩
def pl (f : G.fact_Fact) : G.inquestref22_F := ⟨f.C, f.Kind, f.I, f.J, f.Cycle⟩
def fromR (h : G.api_Hist) (t key : Int) : Option Int :=
  if right h && inr h t then ((tx h t).Reads.findIdx? (fun r => decide (r.Key = key))).map (fun k => ((tx h t).Reads.getD k default).From) else none
theorem rFrom {h : G.api_Hist} (hf : Fits h) (t key : Int) : G.inquestref09_From h t key = some (match fromR h t key with | some v => (v, true) | none => (0, false)) := by
  unfold G.inquestref09_From fromR
  rw [rRight hf]
  simp only [Option.bind_some]
  cases hr : right h with
  | false => simp [G.inquestref09_From_j1]
  | true =>
    by_cases hx : inr h t = true
    · obtain ⟨a, b⟩ := inr_iff.1 hx
      have h1 : ¬ t < 0 := by omega
      have h2 : ¬ (h.Txns.length : Int) ≤ t := by omega
      have h3 := hf.reads _ (tx_mem hx)
      simp only [Bool.not_true, Bool.false_eq_true, if_false, h1, decide_false, Sh.len, h2, G.inquestref09_From_j1, idx_tx hx, Option.bind_some, hx, Bool.and_self, if_true]
      rw [find_loop (tx h t).Reads (fun r => decide (r.Key = key)) (fun k => (((tx h t).Reads.getD k default).From, true)) (some (0, false)) (fuel_gt (by omega)) (fun k hk => ?_) ?_]
      · cases (tx h t).Reads.findIdx? (fun r => decide (r.Key = key)) <;> rfl
      · simp [G.inquestref09_From_b1, G.inquestref09_From_j2]
      · have h4 : (tx h t).Reads.getD k default = (tx h t).Reads[k] := by simp [List.getD, List.getElem?_eq_getElem hk]
        simp only [G.inquestref09_From_b1, dec_lt, hk, decide_true, if_true, idx_at hk, Option.bind_some, w64_succ (show k < 9223372036854775807 by omega), Sh.exit, Sh.next, Option.map_some, h4]
    · have h1 : inr h t = false := by simpa using hx
      have h2 : ¬ (0 ≤ t ∧ t < (h.Txns.length : Int)) := fun h2 => hx (inr_iff.2 h2)
      rw [h1]
      by_cases c : t < 0
      · simp [c, G.inquestref09_From_j1]
      · have d : (h.Txns.length : Int) ≤ t := by omega
        simp [c, d, G.inquestref09_From_j1, Sh.len]
theorem takes_gt {h : G.api_Hist} {n : Int} : ∀ {l : List G.api_Take} {last : Int}, takes h n last l = true → ∀ r ∈ l, last < r.Key
  | [], _, _, r, hr => by cases hr
  | x :: l, last, ht, r, hr => by
    rw [show takes h n last (x :: l) = (decide (last < x.Key) && decide (x.Key < 16) && there h n x && takes h n x.Key l) from rfl] at ht
    simp only [Bool.and_eq_true, decide_eq_true_eq] at ht
    rcases List.mem_cons.1 hr with rfl | hr
    · exact ht.1.1.1
    · have := takes_gt ht.2 r hr; have := ht.1.1.1; omega
theorem takes_one {h : G.api_Hist} {n : Int} : ∀ {l : List G.api_Take} {last : Int}, takes h n last l = true → ∀ r ∈ l, ∀ s ∈ l, r.Key = s.Key → r = s
  | [], _, _, r, hr, _, _, _ => by cases hr
  | x :: l, last, ht, r, hr, s, hs, he => by
    rw [show takes h n last (x :: l) = (decide (last < x.Key) && decide (x.Key < 16) && there h n x && takes h n x.Key l) from rfl] at ht
    simp only [Bool.and_eq_true, decide_eq_true_eq] at ht
    rcases List.mem_cons.1 hr with h1 | h1
    · rcases List.mem_cons.1 hs with h2 | h2
      · rw [h1, h2]
      · have := takes_gt ht.2 s h2; rw [h1] at he; omega
    · rcases List.mem_cons.1 hs with h2 | h2
      · have := takes_gt ht.2 r h1; rw [h2] at he; omega
      · exact takes_one ht.2 r h1 s h2 he
theorem fromR_iff {h : G.api_Hist} (hr : right h = true) {t key v : Int} (hx : inr h t = true) : fromR h t key = some v ↔ (tx h t).Reads.any (fun r => decide (G.api_Take.mk key v = r)) = true := by
  obtain ⟨n, hn⟩ := right_reads hr (tx_mem hx)
  unfold fromR
  rw [hr, hx]
  simp only [Bool.and_self, if_true, List.any_eq_true, decide_eq_true_eq]
  constructor
  · intro h1
    cases hfi : (tx h t).Reads.findIdx? (fun r => decide (r.Key = key)) with
    | none => rw [hfi] at h1; cases h1
    | some k =>
      rw [hfi] at h1
      rw [List.findIdx?_eq_some_iff_getElem] at hfi
      obtain ⟨hk, hp, _⟩ := hfi
      simp only [Option.map_some, Option.some.injEq, List.getD, List.getElem?_eq_getElem hk, Option.getD_some] at h1
      refine ⟨_, List.getElem_mem hk, ?_⟩
      simp only [decide_eq_true_eq] at hp
      cases hc : (tx h t).Reads[k] with
      | mk K F => rw [hc] at hp h1; simp at hp h1; rw [hp, h1]
  · rintro ⟨r, hm, rfl⟩
    cases hfi : (tx h t).Reads.findIdx? (fun r => decide (r.Key = key)) with
    | none =>
      rw [List.findIdx?_eq_none_iff] at hfi
      have := hfi _ hm
      simp at this
    | some k =>
      rw [List.findIdx?_eq_some_iff_getElem] at hfi
      obtain ⟨hk, hp, _⟩ := hfi
      simp only [decide_eq_true_eq] at hp
      have := takes_one hn _ (List.getElem_mem hk) _ hm hp
      simp [List.getD, List.getElem?_eq_getElem hk, this]
end Pl
end

section
/- Sets of numbers as bits: the program's functions, and the reference's, say the same. -/

namespace Pl
open Go Go.Av

def join (l : List (BitVec 64)) : BitVec 64 := l.foldl (· ||| ·) 0#64
@[simp] theorem r10_In (i : Int) : G.inquestref10_In i = some (decide (0 ≤ i ∧ i ≤ 63)) := by
  unfold G.inquestref10_In
  by_cases h : 0 ≤ i <;> simp [h]
theorem r10_Power (i : Nat) (h : i ≤ 63) : G.inquestref10_Power (i : Int) = some (1#64 <<< i) := by
  unfold G.inquestref10_Power
  refine count (fun k => 1#64 <<< k) i _ (fuel_gt (by omega)) (fun k hk => ?_) ?_ (by simp)
  · simp only [G.inquestref10_Power_b1, dec_lt, hk, decide_true, if_true, Sh.next, w64_succ (show k < 9223372036854775807 by omega)]
    congr 3
    apply BitVec.eq_of_toNat_eq
    simp only [BitVec.toNat_add, BitVec.toNat_shiftLeft, Nat.shiftLeft_eq, BitVec.toNat_ofNat]
    rw [Nat.pow_succ]; omega
  · simp [G.inquestref10_Power_b1, G.inquestref10_Power_j1, Sh.exit]
theorem div_mod_bit (s : BitVec 64) (k : Nat) (hk : k < 64) : decide (s / (1#64 <<< k) % 2#64 = 1#64) = s.getLsbD k := by
  have h1 : (1#64 <<< k).toNat = 2 ^ k := by
    have : 2 ^ k < 2 ^ 64 := Nat.pow_lt_pow_right (by omega) hk
    simp [Nat.shiftLeft_eq, Nat.mod_eq_of_lt this]
  have h2 : (s / (1#64 <<< k) % 2#64).toNat = s.toNat / 2 ^ k % 2 := by
    simp only [BitVec.toNat_umod, BitVec.toNat_udiv, h1, BitVec.toNat_ofNat]
  have h3 : s.getLsbD k = decide (s.toNat / 2 ^ k % 2 = 1) := by
    simp only [BitVec.getLsbD, Nat.testBit_eq_decide_div_mod_eq]
  rw [h3]
  congr 1
  apply propext
  rw [← h2]
  constructor
  · intro h; rw [h]; rfl
  · intro h; apply BitVec.eq_of_toNat_eq; rw [h]; rfl
@[simp] theorem r10_Has (s : BitVec 64) (i : Int) : G.inquestref10_Has s i = some (Bv.has s i) := by
  unfold G.inquestref10_Has Bv.has
  simp only [r10_In, Option.bind_some]
  by_cases h : 0 ≤ i ∧ i ≤ 63
  · obtain ⟨k, rfl⟩ : ∃ k : Nat, i = k := ⟨i.toNat, by omega⟩
    have hk : k < 64 := by omega
    have hne : (1#64 <<< k) ≠ 0#64 := by
      intro h0
      have := congrArg (fun x : BitVec 64 => x.getLsbD k) h0
      simp [hk] at this
    have e1 : Sh.udiv s (1#64 <<< k) = some (s / (1#64 <<< k)) := by simp only [Sh.udiv, hne, ne_eq, not_false_eq_true, if_true]
    simp only [h, decide_true, Bool.not_true, Bool.false_eq_true, if_false, r10_Power k (by omega), Option.bind_some, e1, Sh.umod]
    have e2 : (2#64 : BitVec 64) ≠ 0#64 := by decide
    simp only [e2, ne_eq, not_false_eq_true, if_true, Option.bind_some, div_mod_bit s k hk]
    have : ((k : Int) < 64) := by omega
    simp [this]
  · rw [decide_eq_false h]
    by_cases h0 : 0 ≤ i
    · have : ¬ i < 64 := by omega
      simp [h0, this]
    · simp [h0]
theorem has_nat (s : BitVec 64) {k : Nat} (hk : k < 64) : Bv.has s (k : Int) = s.getLsbD k := by
  unfold Bv.has
  have h1 : (0 : Int) ≤ (k : Int) := by omega
  have h2 : (k : Int) < 64 := by omega
  simp [h2]
theorem add_bit (s : BitVec 64) (k : Nat) (hk : k < 64) (hb : s.getLsbD k = false) : s + 1#64 <<< k = s ||| 1#64 <<< k := by
  rw [BitVec.add_eq_or_of_and_eq_zero]
  apply Bv.ext
  intro j hj
  simp only [BitVec.getLsbD_and, BitVec.getLsbD_shiftLeft, hj, decide_true, Bool.true_and, BitVec.getLsbD_zero]
  by_cases hjk : j = k
  · subst hjk; simp [hb]
  · by_cases hlt : j < k
    · simp [hlt]
    · simp [hlt, BitVec.getLsbD_one]; omega
theorem or_bit (s : BitVec 64) (k : Nat) (hk : k < 64) (hb : s.getLsbD k = true) : s ||| 1#64 <<< k = s := by
  apply Bv.ext
  intro j hj
  simp only [BitVec.getLsbD_or, BitVec.getLsbD_shiftLeft, hj, decide_true, Bool.true_and]
  by_cases hjk : j = k
  · subst hjk; simp [hb]
  · by_cases hlt : j < k
    · simp [hlt]
    · simp [hlt, BitVec.getLsbD_one]; omega
@[simp] theorem r10_With (s : BitVec 64) (i : Int) : G.inquestref10_With s i = some (s ||| Bv.bit i) := by
  unfold G.inquestref10_With G.inquestref10_With_j1
  simp only [r10_Has, r10_In, Option.bind_some]
  by_cases h : 0 ≤ i ∧ i ≤ 63
  · obtain ⟨k, rfl⟩ : ∃ k : Nat, i = k := ⟨i.toNat, by omega⟩
    have hk : k < 64 := by omega
    have hbit : Bv.bit (k : Int) = 1#64 <<< k := by unfold Bv.bit; rw [if_pos ⟨by omega, by omega⟩]; simp
    have hh : Bv.has s (k : Int) = s.getLsbD k := has_nat s hk
    rw [hh, hbit]
    cases hb : s.getLsbD k with
    | true => simp [or_bit s k hk hb]
    | false => simp [h, r10_Power k (by omega), add_bit s k hk hb]
  · have hbit : Bv.bit i = 0#64 := by unfold Bv.bit; rw [if_neg (by omega)]
    have hh : Bv.has s i = false := by
      unfold Bv.has
      by_cases h0 : 0 ≤ i
      · have : ¬ i < 64 := by omega
        simp [this]
      · simp [h0]
    simp [hh, hbit, h]
end Pl
namespace Pl
open Go Go.Av
end Pl
end

section
/- Graphs as rows of bits: the program's functions and the reference's, over the edges. -/

namespace Pl
open Go Go.Av

def row : Nat → (Nat → Bool) → BitVec 64
  | 0, _ => 0#64
  | n + 1, p => if p n then row n p ||| (1#64 <<< n) else row n p
theorem shift_get (k i : Nat) (hk : k < 64) : (1#64 <<< k).getLsbD i = decide (i = k) := by
  by_cases hi : i < 64
  · simp only [BitVec.getLsbD_shiftLeft, hi, decide_true, Bool.true_and]
    by_cases hik : i = k
    · subst hik; simp
    · by_cases hlt : i < k
      · simp [hlt, hik]
      · simp [hlt, hik, BitVec.getLsbD_one]; omega
  · have : ¬ i = k := by omega
    simp [BitVec.getLsbD_of_ge _ i (show 64 ≤ i by omega), this]
theorem row_get {n : Nat} (hn : n ≤ 64) (p : Nat → Bool) (i : Nat) : (row n p).getLsbD i = (decide (i < n) && p i) := by
  induction n with
  | zero => simp [row]
  | succ n ih =>
    have ih := ih (by omega)
    unfold row
    by_cases hp : p n = true
    · rw [if_pos hp, BitVec.getLsbD_or, ih, shift_get n i (by omega)]
      by_cases h : i = n
      · subst h; simp [hp]
      · by_cases h2 : i < n
        · simp [h, h2, show i < n + 1 by omega]
        · simp [h, h2, show ¬ i < n + 1 by omega]
    · rw [if_neg hp, ih]
      by_cases h : i = n
      · subst h; simp [hp]
      · by_cases h2 : i < n
        · simp [h2, show i < n + 1 by omega]
        · simp [h2, show ¬ i < n + 1 by omega]
def rows (n : Nat) (f : Nat → Nat → Bool) : List (BitVec 64) := (List.range n).map fun x => row n (f x)
@[simp] theorem rows_len (n : Nat) (f : Nat → Nat → Bool) : (rows n f).length = n := by simp [rows]
theorem rows_at {n : Nat} {f : Nat → Nat → Bool} {x : Nat} (h : x < (rows n f).length) : (rows n f)[x] = row n (f x) := by simp [rows]
theorem rows_idx {n : Nat} {f : Nat → Nat → Bool} {x : Nat} (h : x < n) : Sh.idx (rows n f) (x : Int) = some (row n (f x)) := by
  rw [idx_at (by simpa using h), rows_at]
abbrev rg (n : Nat) (f : Nat → Nat → Bool) : G.inquestref12_G := ⟨(n : Int), rows n f⟩

theorem row_ext {n : Nat} (hn : n ≤ 64) {p q : Nat → Bool} : row n p = row n q ↔ ∀ i, i < n → p i = q i := by
  constructor
  · intro h i hi
    have := congrArg (fun x : BitVec 64 => x.getLsbD i) h
    simpa [row_get hn, hi] using this
  · intro h
    apply Bv.ext
    intro i _
    rw [row_get hn, row_get hn]
    by_cases hi : i < n
    · simp [hi, h i hi]
    · simp [hi]
theorem rows_ext {n : Nat} (hn : n ≤ 64) {f h : Nat → Nat → Bool} : rows n f = rows n h ↔ ∀ x y, x < n → y < n → f x y = h x y := by
  constructor
  · intro e x y hx hy
    have h1 : (rows n f)[x]? = (rows n h)[x]? := by rw [e]
    rw [List.getElem?_eq_getElem (by simpa using hx), List.getElem?_eq_getElem (by simpa using hx), rows_at, rows_at] at h1
    exact (row_ext hn).1 (Option.some.inj h1) y hy
  · intro e
    unfold rows
    apply List.map_congr_left
    intro x hx
    exact (row_ext hn).2 (fun y hy => e x y (by simpa using hx) hy)
def rightB (N : Int) (R : List (BitVec 64)) : Bool := decide (0 ≤ N ∧ N ≤ 64 ∧ (R.length : Int) = N ∧ ∀ r ∈ R, ∀ i : Nat, i < 64 → N ≤ (i : Int) → r.getLsbD i = false)
theorem right_rows {n : Nat} (hn : n ≤ 64) (f : Nat → Nat → Bool) : rightB (n : Int) (rows n f) = true := by
  refine decide_eq_true ⟨by omega, by omega, by simp, fun r hr i _ hi => ?_⟩
  simp only [rows, List.mem_map] at hr
  obtain ⟨x, _, rfl⟩ := hr
  rw [row_get hn]
  have : ¬ i < n := by omega
  simp [this]
theorem zero_rows (n : Nat) : List.replicate n 0#64 = rows n (fun _ _ => false) := by
  unfold rows
  apply List.ext_getElem (by simp)
  intro x h1 h2
  simp only [List.getElem_replicate, List.getElem_map]
  have : ∀ m, row m (fun _ => false) = 0#64 := fun m => by
    induction m with
    | zero => rfl
    | succ m ih => simp [row, ih]
  rw [this]
theorem row_has {n : Nat} (hn : n ≤ 64) (p : Nat → Bool) {k : Nat} (hk : k < n) : Bv.has (row n p) (k : Int) = p k := by
  rw [has_nat _ (by omega), row_get hn]; simp [hk]
theorem row_with {n : Nat} (hn : n ≤ 64) (p : Nat → Bool) {k : Nat} (hk : k < n) : row n p ||| Bv.bit (k : Int) = row n (fun i => p i || decide (i = k)) := by
  apply Bv.ext
  intro i hi
  rw [row_get hn, BitVec.getLsbD_or, row_get hn]
  have hb : Bv.bit (k : Int) = 1#64 <<< k := by unfold Bv.bit; rw [if_pos ⟨by omega, by omega⟩]; simp
  rw [hb]
  simp only [BitVec.getLsbD_shiftLeft, hi, decide_true, Bool.true_and]
  by_cases hik : i = k
  · subst hik; simp [hk]
  · by_cases hlt : i < k
    · simp [hlt, hik]
    · simp [hlt, hik, BitVec.getLsbD_one]; omega
theorem rows_set {n : Nat} (f : Nat → Nat → Bool) {x : Nat} (_hx : x < n) (p : Nat → Bool) : (rows n f).set x (row n p) = rows n (fun a => if a = x then p else f a) := by
  apply List.ext_getElem (by simp)
  intro a h1 h2
  rw [List.getElem_set, rows_at, rows_at]
  by_cases ha : x = a
  · subst ha; simp
  · simp [ha, Ne.symm ha]
def addF (f : Nat → Nat → Bool) (a b : Nat) : Nat → Nat → Bool := fun x y => f x y || decide (x = a ∧ y = b)
def orF (f h : Nat → Nat → Bool) : Nat → Nat → Bool := fun x y => f x y || h x y
def compF (n : Nat) (f h : Nat → Nat → Bool) : Nat → Nat → Bool := fun x y => (List.range n).any fun z => f x z && h z y
end Pl
end

section
/- The reference's graphs. -/
namespace Pl
open Go Go.Av

theorem r12_Has {n : Nat} (hn : n ≤ 64) (f : Nat → Nat → Bool) {a : Nat} (ha : a < n) {b : Nat} (hb : b < n) : G.inquestref12_Has (rg n f) (a : Int) (b : Int) = some (f a b) := by
  unfold G.inquestref12_Has
  simp only [rows_idx ha, Option.bind_some, r10_Has, row_has hn _ hb]
theorem r12_New (n : Nat) (hn : n ≤ 64) : G.inquestref12_New (n : Int) = some ⟨(n : Int), List.replicate n 0#64⟩ := by
  unfold G.inquestref12_New
  refine count (fun k => List.replicate k 0#64) n _ (fuel_gt (by omega)) (fun k hk => ?_) ?_ rfl
  · simp only [G.inquestref12_New_b1, dec_lt, hk, decide_true, if_true]
    rw [app_ok (by simp; omega)]
    simp only [Option.bind_some, Sh.next, w64_succ (show k < 9223372036854775807 by omega)]
    rw [List.replicate_succ']
  · simp only [G.inquestref12_New_b1, Int.lt_irrefl, decide_false, Bool.false_eq_true, if_false, G.inquestref12_New_j1, exit_some]
theorem r12_Right (g : G.inquestref12_G) (hl : g.Rows.length < 9223372036854775808) : G.inquestref12_Right g = some (rightB g.N g.Rows) := by
  unfold G.inquestref12_Right G.inquestref12_Right_j1 rightB
  obtain ⟨N, R⟩ := g
  by_cases h1 : 0 ≤ N
  · by_cases h2 : N ≤ 64
    · by_cases h3 : (R.length : Int) = N
      · subst h3
        have g1 : ¬ ((R.length : Int) < 0) := by omega
        have g2 : ¬ ((64 : Int) < R.length) := by omega
        have hR : R.length ≤ 64 := by omega
        simp only [g1, g2, h1, h2, decide_false, Bool.false_eq_true, if_false, len_eq, ne_eq, not_true_eq_false, true_and]
        have key := scan_true (b := fun (p : Int) => G.inquestref12_Right_b1 ⟨(R.length : Int), R⟩ p) R.length (fun k => decide (∀ j : Nat, j < 64 → R.length ≤ j → (R.getD k 0#64).getLsbD j = false)) hl (fun k hk => ?_) ?_
        · rw [key]
          congr 2
          apply propext
          simp only [decide_eq_true_eq]
          constructor
          · intro h r hr i hi hN
            obtain ⟨k, hk, rfl⟩ := List.getElem_of_mem hr
            have := h k hk i hi (by omega)
            simpa [List.getD, hk] using this
          · intro h k hk j hj hjk
            have := h R[k] (List.getElem_mem hk) j hj (by omega)
            simpa [List.getD, hk] using this
        · have hg : R.getD k 0#64 = R[k] := by simp [List.getD, hk]
          simp only [G.inquestref12_Right_b1, dec_lt, hk, decide_true, if_true, hg]
          have := scan (b := fun (p : Int) => G.inquestref12_Right_b2 ⟨(R.length : Int), R⟩ (k : Int) p) R.length 64 (fun j => !R[k].getLsbD j) (some (.inl ((k + 1 : Nat) : Int)) |>.getD (.inr true)) (.inr false) hR (fuel_gt (by omega)) (fun j hj hj2 => ?_) ?_
          · rw [this]
            by_cases hq : ∀ j, j < 64 → R.length ≤ j → R[k].getLsbD j = false
            · have hq' : ∀ j, j < 64 → R.length ≤ j → (!R[k].getLsbD j) = true := fun j a b => by simp [hq j a b]
              rw [if_pos hq', decide_eq_true hq]; rfl
            · have hq' : ¬ ∀ j, j < 64 → R.length ≤ j → (!R[k].getLsbD j) = true := fun h => hq (fun j a b => by simpa using h j a b)
              rw [if_neg hq', decide_eq_false hq]; rfl
          · have hj' : (j : Int) < 64 := by omega
            simp only [G.inquestref12_Right_b2, hj', decide_true, if_true, idx_at hk, Option.bind_some, r10_Has, has_nat _ hj2, Sh.next, exit_some, w64_succ (show j < 9223372036854775807 by omega)]
            cases R[k].getLsbD j <;> rfl
          · simp [G.inquestref12_Right_b2, G.inquestref12_Right_j3, Sh.exit, Sh.next, w64_succ (show k < 9223372036854775807 by omega)]
        · simp [G.inquestref12_Right_b1, G.inquestref12_Right_j2, Sh.exit]
      · have g1 : ¬ N < 0 := by omega
        have g2 : ¬ (64 : Int) < N := by omega
        simp [g1, g2, h3]
    · have g1 : ¬ N < 0 := by omega
      have g2 : (64 : Int) < N := by omega
      simp [g1, g2, h2]
  · have g1 : N < 0 := by omega
    simp [g1, h1]

def layF (h : Nat → Nat → Bool) (x y : Nat) : Nat → Nat → Bool := fun a b => if a < x then h a b else if a = x then decide (b < y) && h a b else false
theorem lay_zero {n : Nat} (hn : n ≤ 64) (h : Nat → Nat → Bool) : rows n (layF h 0 0) = List.replicate n 0#64 := by
  rw [zero_rows, rows_ext hn]
  intro a b _ _
  unfold layF
  by_cases ha : a = 0 <;> simp [ha]
theorem lay_next {n : Nat} (hn : n ≤ 64) (h : Nat → Nat → Bool) (x : Nat) : rows n (layF h x n) = rows n (layF h (x + 1) 0) := by
  rw [rows_ext hn]
  intro a b _ hb
  unfold layF
  by_cases h1 : a < x
  · simp [h1, show a < x + 1 by omega]
  · by_cases h2 : a = x
    · subst h2; simp [hb]
    · simp [h1, h2, show ¬ a < x + 1 by omega]
theorem lay_all {n : Nat} (hn : n ≤ 64) (h : Nat → Nat → Bool) : rows n (layF h n 0) = rows n h := by
  rw [rows_ext hn]
  intro a b ha _
  simp [layF, ha]
theorem lay_no {n : Nat} (hn : n ≤ 64) (h : Nat → Nat → Bool) {x y : Nat} (he : h x y = false) : rows n (layF h x y) = rows n (layF h x (y + 1)) := by
  rw [rows_ext hn]
  intro a b _ _
  unfold layF
  by_cases h1 : a < x
  · simp [h1]
  · by_cases h2 : a = x
    · subst h2
      by_cases h3 : b < y
      · simp [h3, show b < y + 1 by omega]
      · by_cases h4 : b = y
        · subst h4; simp [he]
        · simp [h3, show ¬ b < y + 1 by omega]
    · simp [h1, h2]
theorem lay_row {n : Nat} (h : Nat → Nat → Bool) {x y : Nat} (hx : x < n) : Sh.idx (rows n (layF h x y)) (x : Int) = some (row n (layF h x y x)) := rows_idx hx
theorem lay_yes {n : Nat} (hn : n ≤ 64) (h : Nat → Nat → Bool) {x y : Nat} (hx : x < n) (hy : y < n) (he : h x y = true) :
    Sh.set (rows n (layF h x y)) (x : Int) (row n (layF h x y x) ||| Bv.bit (y : Int)) = rows n (layF h x (y + 1)) := by
  rw [set_at, row_with hn _ hy, rows_set _ hx, rows_ext hn]
  intro a b _ _
  by_cases ha : a = x
  · subst ha
    unfold layF
    by_cases h3 : b < y
    · have : ¬ b = y := by omega
      simp [h3, show b < y + 1 by omega, this]
    · by_cases h4 : b = y
      · subst h4; simp [he]
      · simp [h3, h4, show ¬ b < y + 1 by omega]
  · simp only [ha, if_false]
    unfold layF
    by_cases h1 : a < x <;> simp [h1, ha]
theorem r12_Union {n : Nat} (hn : n ≤ 64) (f h : Nat → Nat → Bool) : G.inquestref12_Union (rg n f) (rg n h) = some (rg n (orF f h)) := by
  unfold G.inquestref12_Union
  simp only [r12_New n hn, Option.bind_some]
  refine count (fun x => rows n (layF (orF f h) x 0)) n _ (fuel_gt (by omega)) (fun x hx => ?_) ?_ (by rw [lay_zero hn])
  · simp only [G.inquestref12_Union_b1, dec_lt, hx, decide_true, if_true]
    refine count (fun y => rows n (layF (orF f h) x y)) n _ (fuel_gt (by omega)) (fun y hy => ?_) ?_ rfl
    · have e : orF f h x y = (f x y || h x y) := rfl
      simp only [G.inquestref12_Union_b2, dec_lt, hy, decide_true, if_true, r12_Has hn f hx hy, r12_Has hn h hx hy, Option.bind_some, G.inquestref12_Union_j3, G.inquestref12_Union_j4, lay_row _ hx, r10_With, Sh.next, w64_succ (show y < 9223372036854775807 by omega)]
      cases h1 : f x y with
      | true => simp only [if_true, lay_yes hn (orF f h) hx hy (by rw [e, h1]; rfl)]
      | false =>
        cases h2 : h x y with
        | true => simp only [Bool.false_eq_true, if_false, if_true, lay_yes hn (orF f h) hx hy (by rw [e, h1, h2]; rfl)]
        | false => simp only [Bool.false_eq_true, if_false, lay_no hn (orF f h) (show orF f h x y = false by rw [e, h1, h2]; rfl)]
    · simp only [G.inquestref12_Union_b2, Int.lt_irrefl, decide_false, Bool.false_eq_true, if_false, G.inquestref12_Union_j2, next_some, exit_some, lay_next hn, w64_succ (show x < 9223372036854775807 by omega)]
  · simp only [G.inquestref12_Union_b1, Int.lt_irrefl, decide_false, Bool.false_eq_true, if_false, G.inquestref12_Union_j1, exit_some, lay_all hn]
end Pl
namespace Pl
open Go Go.Av
def gatF (c : Nat → Nat → Bool) (x : Nat) (p : Nat → Bool) : Nat → Nat → Bool := fun a b => if a < x then c a b else if a = x then p b else false
theorem gat_zero {n : Nat} (hn : n ≤ 64) (c : Nat → Nat → Bool) : rows n (gatF c 0 fun _ => false) = List.replicate n 0#64 := by
  rw [zero_rows, rows_ext hn]
  intro a b _ _
  simp [gatF]
theorem gat_next {n : Nat} (hn : n ≤ 64) (c : Nat → Nat → Bool) (x : Nat) : rows n (gatF c x (c x)) = rows n (gatF c (x + 1) fun _ => false) := by
  rw [rows_ext hn]
  intro a b _ _
  unfold gatF
  by_cases h1 : a < x
  · simp [h1, show a < x + 1 by omega]
  · by_cases h2 : a = x
    · subst h2; simp
    · simp [h1, h2, show ¬ a < x + 1 by omega]
theorem gat_all {n : Nat} (hn : n ≤ 64) (c : Nat → Nat → Bool) : rows n (gatF c n fun _ => false) = rows n c := by
  rw [rows_ext hn]
  intro a b ha _
  simp [gatF, ha]
theorem gat_ext {n : Nat} (hn : n ≤ 64) (c : Nat → Nat → Bool) (x : Nat) {p q : Nat → Bool} (h : ∀ b, b < n → p b = q b) : rows n (gatF c x p) = rows n (gatF c x q) := by
  rw [rows_ext hn]
  intro a b _ hb
  simp [gatF, h b hb]
theorem gat_with {n : Nat} (hn : n ≤ 64) (c : Nat → Nat → Bool) {x y : Nat} (hx : x < n) (hy : y < n) (p : Nat → Bool) :
    Sh.set (rows n (gatF c x p)) (x : Int) (row n (gatF c x p x) ||| Bv.bit (y : Int)) = rows n (gatF c x fun b => p b || decide (b = y)) := by
  rw [set_at, row_with hn _ hy, rows_set _ hx, rows_ext hn]
  intro a b _ _
  by_cases ha : a = x
  · subst ha; simp [gatF]
  · simp [ha, gatF]
theorem r12_Compose {n : Nat} (hn : n ≤ 64) (f h : Nat → Nat → Bool) : G.inquestref12_Compose (rg n f) (rg n h) = some (rg n (compF n f h)) := by
  unfold G.inquestref12_Compose
  simp only [r12_New n hn, Option.bind_some]
  refine count (fun x => rows n (gatF (compF n f h) x fun _ => false)) n _ (fuel_gt (by omega)) (fun x hx => ?_) ?_ (by rw [gat_zero hn])
  · simp only [G.inquestref12_Compose_b1, dec_lt, hx, decide_true, if_true]
    refine count (fun y => rows n (gatF (compF n f h) x fun b => (List.range y).any fun z => f x z && h z b)) n _ (fuel_gt (by omega)) (fun y hy => ?_) ?_ (by simp)
    · simp only [G.inquestref12_Compose_b2, dec_lt, hy, decide_true, if_true, r12_Has hn f hx hy, Option.bind_some]
      have step : rows n (gatF (compF n f h) x fun b => ((List.range y).any fun z => f x z && h z b) || (f x y && h y b)) = rows n (gatF (compF n f h) x fun b => (List.range (y + 1)).any fun z => f x z && h z b) := by
        apply gat_ext hn
        intro b _
        rw [List.range_succ, List.any_append]; simp
      cases hf : f x y with
      | false =>
        rw [hf] at step
        simp only [Bool.false_and, Bool.or_false] at step
        simp only [Bool.not_false, if_true, G.inquestref12_Compose_j3, Sh.next, w64_succ (show y < 9223372036854775807 by omega), step]
      | true =>
        rw [hf] at step
        simp only [Bool.true_and] at step
        simp only [Bool.not_true, Bool.false_eq_true, if_false]
        refine count (fun z => rows n (gatF (compF n f h) x fun b => ((List.range y).any fun z => f x z && h z b) || (decide (b < z) && h y b))) n _ (fuel_gt (by omega)) (fun z hz => ?_) ?_ (gat_ext hn _ x (fun b _ => by simp))
        · have hz' : (z : Int) < (n : Int) := by omega
          simp only [G.inquestref12_Compose_b3, dec_lt, hz, decide_true, if_true, r12_Has hn h hy hz, Option.bind_some, G.inquestref12_Compose_j4, rows_idx hx, r10_With, Sh.next, w64_succ (show z < 9223372036854775807 by omega), gat_with hn _ hx hz]
          cases hh : h y z with
          | true =>
            simp only [if_true]
            congr 3
            apply gat_ext hn
            intro b _
            by_cases h1 : b < z
            · have : ¬ b = z := by omega
              simp [h1, show b < z + 1 by omega, this]
            · by_cases h2 : b = z
              · subst h2; simp [hh]
              · simp [h1, h2, show ¬ b < z + 1 by omega]
          | false =>
            simp only [Bool.false_eq_true, if_false]
            congr 3
            apply gat_ext hn
            intro b _
            by_cases h1 : b < z
            · simp [h1, show b < z + 1 by omega]
            · by_cases h2 : b = z
              · subst h2; simp [hh]
              · simp [h1, show ¬ b < z + 1 by omega]
        · simp only [G.inquestref12_Compose_b3, Int.lt_irrefl, decide_false, Bool.false_eq_true, if_false, G.inquestref12_Compose_j3, next_some, exit_some, w64_succ (show y < 9223372036854775807 by omega)]
          congr 4
          rw [← step]
          apply gat_ext hn
          intro b hb
          simp [hb]
    · simp only [G.inquestref12_Compose_b2, Int.lt_irrefl, decide_false, Bool.false_eq_true, if_false, G.inquestref12_Compose_j2, next_some, exit_some, w64_succ (show x < 9223372036854775807 by omega)]
      rw [← gat_next hn]; rfl
  · simp only [G.inquestref12_Compose_b1, Int.lt_irrefl, decide_false, Bool.false_eq_true, if_false, G.inquestref12_Compose_j1, exit_some, gat_all hn]
end Pl
end

section
/- Where ways lead. -/

namespace Pl
open Go Go.Av

inductive Way (n : Nat) (f : Nat → Nat → Bool) : Nat → Nat → Prop
  | edge {x y : Nat} : x < n → y < n → f x y = true → Way n f x y
  | cons {x y z : Nat} : x < n → y < n → f x y = true → Way n f y z → Way n f x z

theorem Way.trans {n : Nat} {f : Nat → Nat → Bool} {x y z : Nat} (h : Way n f x y) (k : Way n f y z) : Way n f x z := by
  induction h with
  | edge hx hy hf => exact .cons hx hy hf k
  | cons hx hy hf _ ih => exact .cons hx hy hf (ih k)
theorem Way.left {n : Nat} {f : Nat → Nat → Bool} {x y : Nat} (h : Way n f x y) : x < n := by cases h <;> assumption
theorem Way.right {n : Nat} {f : Nat → Nat → Bool} {x y : Nat} (h : Way n f x y) : y < n := by
  induction h with
  | edge _ hy _ => exact hy
  | cons _ _ _ _ ih => exact ih
theorem Way.snoc {n : Nat} {f : Nat → Nat → Bool} {x y z : Nat} (h : Way n f x y) (hz : z < n) (hf : f y z = true) : Way n f x z := h.trans (.edge h.right hz hf)
theorem Way.mono {n : Nat} {f h : Nat → Nat → Bool} (hm : ∀ x y, x < n → y < n → f x y = true → Way n h x y) {x y : Nat} (w : Way n f x y) : Way n h x y := by
  induction w with
  | edge hx hy hf => exact hm _ _ hx hy hf
  | cons hx hy hf _ ih => exact (hm _ _ hx hy hf).trans ih
theorem Way.last {n : Nat} {f : Nat → Nat → Bool} {x z : Nat} (h : Way n f x z) : ∃ y, y < n ∧ f y z = true ∧ (y = x ∨ Way n f x y) := by
  induction h with
  | edge hx hy hf => exact ⟨_, hx, hf, .inl rfl⟩
  | cons hx hy hf _ ih =>
    obtain ⟨y, h1, h2, h3⟩ := ih
    refine ⟨y, h1, h2, .inr ?_⟩
    rcases h3 with rfl | h3
    · exact .edge hx hy hf
    · exact .cons hx hy hf h3

noncomputable def wayF (n : Nat) (f : Nat → Nat → Bool) : Nat → Nat → Bool := fun x y => @decide (Way n f x y) (Classical.propDecidable _)
theorem way_iff {n : Nat} {f : Nat → Nat → Bool} {x y : Nat} : wayF n f x y = true ↔ Way n f x y := by
  unfold wayF; exact @decide_eq_true_iff _ (Classical.propDecidable _)

noncomputable def cycB (n : Nat) (f : Nat → Nat → Bool) : Bool := @decide (∃ x, Way n f x x) (Classical.propDecidable _)
theorem cyc_iff {n : Nat} {f : Nat → Nat → Bool} : cycB n f = true ↔ ∃ x, Way n f x x := by
  unfold cycB; exact @decide_eq_true_iff _ (Classical.propDecidable _)
end Pl
end

section
/- The statements on graphs. -/

namespace Pl
open Go Go.Av

end Pl
end

section
/- The statements on where ways lead. -/

namespace Pl
open Go Go.Av

def fwF (f : Nat → Nat → Bool) : Nat → Nat → Nat → Bool
  | 0 => f
  | k + 1 => fun x y => fwF f k x y || (fwF f k x k && fwF f k k y)
inductive Via (n : Nat) (f : Nat → Nat → Bool) (k : Nat) : Nat → Nat → Prop
  | edge {x y : Nat} : x < n → y < n → f x y = true → Via n f k x y
  | cons {x y z : Nat} : x < n → y < n → y < k → f x y = true → Via n f k y z → Via n f k x z
theorem via_split {n : Nat} {f : Nat → Nat → Bool} {k x y : Nat} (hk : k < n) (h : Via n f (k + 1) x y) : Via n f k x y ∨ (Via n f k x k ∧ Via n f k k y) := by
  induction h with
  | edge hx hy hf => exact .inl (.edge hx hy hf)
  | @cons x z y hx hz hzk hf _ ih =>
    by_cases hlt : z < k
    · rcases ih with h | ⟨h1, h2⟩
      · exact .inl (.cons hx hz hlt hf h)
      · exact .inr ⟨.cons hx hz hlt hf h1, h2⟩
    · have : z = k := by omega
      subst this
      rcases ih with h | ⟨h1, h2⟩
      · exact .inr ⟨.edge hx hk hf, h⟩
      · exact .inr ⟨.edge hx hk hf, h2⟩
theorem via_fw {n : Nat} {f : Nat → Nat → Bool} : ∀ (k : Nat), k ≤ n → ∀ {x y : Nat}, Via n f k x y → fwF f k x y = true
  | 0, _, x, y, h => by
    cases h with
    | edge _ _ hf => exact hf
    | cons _ _ h0 _ _ => omega
  | k + 1, hk, x, y, h => by
    simp only [fwF, Bool.or_eq_true, Bool.and_eq_true]
    rcases via_split (by omega) h with h | ⟨h1, h2⟩
    · exact .inl (via_fw k (by omega) h)
    · exact .inr ⟨via_fw k (by omega) h1, via_fw k (by omega) h2⟩
theorem fw_sound {n : Nat} {f : Nat → Nat → Bool} : ∀ (k : Nat), k ≤ n → ∀ {x y : Nat}, x < n → y < n → fwF f k x y = true → Way n f x y
  | 0, _, x, y, hx, hy, h => .edge hx hy h
  | k + 1, hk, x, y, hx, hy, h => by
    simp only [fwF, Bool.or_eq_true, Bool.and_eq_true] at h
    rcases h with h | ⟨h1, h2⟩
    · exact fw_sound k (by omega) hx hy h
    · exact (fw_sound k (by omega) hx (by omega) h1).trans (fw_sound k (by omega) (by omega) hy h2)
theorem way_via {n : Nat} {f : Nat → Nat → Bool} {x y : Nat} (h : Way n f x y) : Via n f n x y := by
  induction h with
  | edge hx hy hf => exact .edge hx hy hf
  | cons hx hy hf _ ih => exact .cons hx hy hy hf ih
theorem fw_way {n : Nat} (hn : n ≤ 64) (f : Nat → Nat → Bool) : rows n (fwF f n) = rows n (wayF n f) := by
  rw [rows_ext hn]
  intro x y hx hy
  rw [Bool.eq_iff_iff, way_iff]
  exact ⟨fw_sound n (Nat.le_refl n) hx hy, fun h => via_fw n (Nat.le_refl n) (way_via h)⟩
theorem r13_Close {n : Nat} (hn : n ≤ 64) (f : Nat → Nat → Bool) : G.inquestref13_Close (rg n f) = some (rg n (wayF n f)) := by
  unfold G.inquestref13_Close
  refine Sh.loop_run (fun k => ((n : Int), rows n (fwF f k), (k : Int))) n _ (fuel_gt (by omega)) (fun k hk => ?_) ?_
  · simp only [G.inquestref13_Close_b1, dec_lt, hk, decide_true, if_true, r12_New n hn, Option.bind_some]
    refine count (fun x => rows n (layF (fwF f (k + 1)) x 0)) n _ (fuel_gt (by omega)) (fun x hx => ?_) ?_ (by rw [lay_zero hn])
    · simp only [G.inquestref13_Close_b2, dec_lt, hx, decide_true, if_true]
      refine count (fun y => rows n (layF (fwF f (k + 1)) x y)) n _ (fuel_gt (by omega)) (fun y hy => ?_) ?_ rfl
      · have e : fwF f (k + 1) x y = (fwF f k x y || (fwF f k x k && fwF f k k y)) := rfl
        simp only [G.inquestref13_Close_b3, dec_lt, hy, decide_true, if_true, r12_Has hn _ hx hy, r12_Has hn _ hx hk, r12_Has hn _ hk hy, Option.bind_some, G.inquestref13_Close_j6, G.inquestref13_Close_j5, lay_row _ hx, r10_With, Sh.next, w64_succ (show y < 9223372036854775807 by omega)]
        cases h1 : fwF f k x y with
        | true => simp only [if_true, lay_yes hn (fwF f (k + 1)) hx hy (by rw [e, h1]; rfl)]
        | false =>
          cases h2 : fwF f k x k with
          | false => simp only [Bool.false_eq_true, if_false, lay_no hn (fwF f (k + 1)) (show fwF f (k + 1) x y = false by rw [e, h1, h2]; rfl)]
          | true =>
            cases h3 : fwF f k k y with
            | true => simp only [Bool.false_eq_true, if_false, if_true, lay_yes hn (fwF f (k + 1)) hx hy (by rw [e, h1, h2, h3]; rfl)]
            | false => simp only [Bool.false_eq_true, if_false, if_true, lay_no hn (fwF f (k + 1)) (show fwF f (k + 1) x y = false by rw [e, h1, h2, h3]; rfl)]
      · simp only [G.inquestref13_Close_b3, Int.lt_irrefl, decide_false, Bool.false_eq_true, if_false, G.inquestref13_Close_j4, next_some, exit_some, lay_next hn, w64_succ (show x < 9223372036854775807 by omega)]
    · simp only [G.inquestref13_Close_b2, Int.lt_irrefl, decide_false, Bool.false_eq_true, if_false, G.inquestref13_Close_j3, G.inquestref13_Close_j2, next_some, exit_some, lay_all hn, w64_succ (show k < 9223372036854775807 by omega)]
  · simp only [G.inquestref13_Close_b1, Int.lt_irrefl, decide_false, Bool.false_eq_true, if_false, G.inquestref13_Close_j1, exit_some, fw_way hn]
theorem r13_Cyclic {n : Nat} (hn : n ≤ 64) (f : Nat → Nat → Bool) : G.inquestref13_Cyclic (rg n f) = some (cycB n f) := by
  unfold G.inquestref13_Cyclic
  have hr : G.inquestref12_Right (rg n f) = some true := by
    rw [r12_Right _ (by simp; omega)]; exact congrArg some (right_rows hn f)
  simp only [hr, Option.bind_some, Bool.not_true, Bool.false_eq_true, if_false, r13_Close hn]
  refine (scan0 n (fun k => !wayF n f k k) false true (fuel_gt (by omega)) (fun k hk => ?_) ?_).trans ?_
  · simp only [G.inquestref13_Cyclic_b1, dec_lt, hk, decide_true, if_true, r12_Has hn _ hk hk, Option.bind_some, exit_some, Sh.next, w64_succ (show k < 9223372036854775807 by omega)]
    cases wayF n f k k <;> rfl
  · simp only [G.inquestref13_Cyclic_b1, Int.lt_irrefl, decide_false, Bool.false_eq_true, if_false, G.inquestref13_Cyclic_j1, exit_some]
  · congr 1
    by_cases h : ∀ k, k < n → (!wayF n f k k) = true
    · rw [if_pos h]
      symm
      rw [← Bool.not_eq_true, cyc_iff]
      rintro ⟨x, hx⟩
      have := h x hx.left
      simp [way_iff.2 hx] at this
    · rw [if_neg h]
      symm
      rw [cyc_iff]
      apply Classical.byContradiction
      intro hno
      apply h
      intro k hk
      cases hb : wayF n f k k with
      | false => rfl
      | true => exact absurd ⟨k, way_iff.1 hb⟩ hno
end Pl
end

section
/- The reference's graphs of a history: what must come ahead of what. -/
namespace Pl
open Go Go.Av

theorem inr_nat {h : G.api_Hist} {x : Nat} : inr h (x : Int) = true ↔ x < h.Txns.length := by rw [inr_iff]; omega
theorem idx_nat {h : G.api_Hist} {x : Nat} (hx : x < h.Txns.length) : Sh.idx h.Txns (x : Int) = some (tx h x) := idx_tx (inr_nat.2 hx)
theorem tx_in {h : G.api_Hist} {x : Nat} (hx : x < h.Txns.length) : tx h x ∈ h.Txns := tx_mem (inr_nat.2 hx)
theorem set_edge {n : Nat} (hn : n ≤ 64) (f : Nat → Nat → Bool) {a b : Nat} (ha : a < n) (hb : b < n) : Sh.set (rows n f) (a : Int) (row n (f a) ||| Bv.bit (b : Int)) = rows n (addF f a b) := by
  rw [row_with hn _ hb, set_at, rows_set f ha, rows_ext hn]
  intro x y _ _
  unfold addF
  by_cases hx : x = a
  · subst hx; simp
  · simp [hx]

def soF (h : G.api_Hist) (x y : Nat) : Bool := decide (x < y) && decide ((tx h x).Session = (tx h y).Session)
def wrF (h : G.api_Hist) (x y : Nat) : Bool := (tx h y).Reads.any (fun r => decide (r.From = (x : Int)))
def iniC (h : G.api_Hist) (r : G.api_Take) (y : Nat) : Bool := decide (r.From = -1) && hasW (tx h y) r.Key
def iniF (h : G.api_Hist) (x y : Nat) : Bool := decide (y ≠ x) && (tx h x).Reads.any (fun r => iniC h r y)
def wwF (l : List G.api_Choice) (x y : Nat) : Bool := l.any (fun c => decide (c.A = (x : Int)) && decide (c.B = (y : Int)))
def rwC (h : G.api_Hist) (c : G.api_Choice) (x y : Nat) : Bool := decide (c.B = (y : Int)) && decide (x ≠ y) && decide (fromR h x c.Key = some c.A)
def rwF (h : G.api_Hist) (l : List G.api_Choice) (x y : Nat) : Bool := iniF h x y || l.any (fun c => rwC h c x y)


theorem take_any {α : Type} {l : List α} {k : Nat} (h : k < l.length) (q : α → Bool) : (l.take (k + 1)).any q = ((l.take k).any q || q l[k]) := by
  rw [List.take_add_one, List.getElem?_eq_getElem h, Option.toList_some, List.any_append, List.any_cons, List.any_nil, Bool.or_false]
theorem r17_So {h : G.api_Hist} (hn : h.Txns.length ≤ 64) : G.inquestref17_So h = some (rg h.Txns.length (soF h)) := by
  unfold G.inquestref17_So
  rw [show (Sh.len h.Txns) = ((h.Txns.length : Nat) : Int) from rfl, r12_New _ hn]
  simp only [Option.bind_some]
  refine count_exit (fun k => rows h.Txns.length (gatF (soF h) k fun _ => false)) h.Txns.length _ (fuel_gt (by omega)) (fun a ha => ?_) ?_ (by rw [gat_zero hn])
  · simp only [G.inquestref17_So_b1, dec_lt, ha, decide_true, if_true]
    rw [w64_succ (by omega)]
    refine run_exit (fun j => (rows h.Txns.length (gatF (soF h) a fun y => decide (y < a + 1 + j) && soF h a y), ((a + 1 + j : Nat) : Int))) (h.Txns.length - (a + 1)) _ (fuel_gt (by omega)) (fun j hj => ?_) ?_ ?_
    · have hb : a + 1 + j < h.Txns.length := by omega
      have ne : rows h.Txns.length (gatF (soF h) a fun y => (decide (y < a + 1 + j) && soF h a y) || (decide (y = a + 1 + j) && soF h a (a + 1 + j))) = rows h.Txns.length (gatF (soF h) a fun y => decide (y < a + 1 + (j + 1)) && soF h a y) := by
        apply gat_ext hn
        intro y hy
        by_cases e2 : y = a + 1 + j
        · subst e2; simp
        · have : (y < a + 1 + (j + 1)) ↔ (y < a + 1 + j) := by omega
          simp [e2, this]
      simp only [G.inquestref17_So_b2, dec_lt, hb, decide_true, if_true, idx_nat ha, idx_nat hb, Option.bind_some, rows_idx ha, r10_With, gat_with hn _ ha hb, G.inquestref17_So_j3, w64_succ (show a + 1 + j < 9223372036854775807 by omega), Sh.next]
      have hlt : decide (a < a + 1 + j) = true := by simp; omega
      by_cases hs : (tx h a).Session = (tx h (a + 1 + j : Nat)).Session
      · have hso : soF h a (a + 1 + j) = true := by unfold soF; rw [hlt, hs]; simp
        rw [← ne, hso]
        simp only [hs, decide_true, if_true, Bool.and_true]
        rfl
      · have hso : soF h a (a + 1 + j) = false := by unfold soF; rw [decide_eq_false hs]; simp
        rw [← ne, hso]
        simp only [hs, decide_false, Bool.false_eq_true, if_false, Bool.and_false, Bool.or_false]
        rfl
    · rw [show a + 1 + (h.Txns.length - (a + 1)) = h.Txns.length by omega]
      simp only [G.inquestref17_So_b2, dec_lt, Nat.lt_irrefl, decide_false, Bool.false_eq_true, if_false, G.inquestref17_So_j2, w64_succ (show a < 9223372036854775807 by omega), Sh.next]
      rw [← gat_next hn]
      congr 4
      exact gat_ext hn _ _ fun y hy => by simp [hy]
    · congr 1
      refine gat_ext hn _ _ fun y hy => ?_
      by_cases e2 : y < a + 1
      · have : ¬ a < y := by omega
        simp [soF, this]
      · simp [e2]
  · simp only [G.inquestref17_So_b1, dec_lt, Nat.lt_irrefl, decide_false, Bool.false_eq_true, if_false, G.inquestref17_So_j1]
    rw [gat_all hn]

def gatC (c : Nat → Nat → Bool) (t : Nat) (p : Nat → Bool) : Nat → Nat → Bool := fun a b => if b < t then c a b else if b = t then p a else false
theorem gatC_zero {n : Nat} (hn : n ≤ 64) (c : Nat → Nat → Bool) : rows n (gatC c 0 fun _ => false) = List.replicate n 0#64 := by
  rw [zero_rows, rows_ext hn]
  intro a b _ _
  simp [gatC]
theorem gatC_next {n : Nat} (hn : n ≤ 64) (c : Nat → Nat → Bool) (x : Nat) : rows n (gatC c x fun a => c a x) = rows n (gatC c (x + 1) fun _ => false) := by
  rw [rows_ext hn]
  intro a b _ _
  unfold gatC
  by_cases h1 : b < x
  · simp [h1, show b < x + 1 by omega]
  · by_cases h2 : b = x
    · subst h2; simp
    · simp [h1, h2, show ¬ b < x + 1 by omega]
theorem gatC_all {n : Nat} (hn : n ≤ 64) (c : Nat → Nat → Bool) : rows n (gatC c n fun _ => false) = rows n c := by
  rw [rows_ext hn]
  intro a b _ hb
  simp [gatC, hb]
theorem gatC_ext {n : Nat} (hn : n ≤ 64) (c : Nat → Nat → Bool) (x : Nat) {p q : Nat → Bool} (h : ∀ a, a < n → p a = q a) : rows n (gatC c x p) = rows n (gatC c x q) := by
  rw [rows_ext hn]
  intro a b ha _
  simp [gatC, h a ha]
theorem gatC_with {n : Nat} (hn : n ≤ 64) (c : Nat → Nat → Bool) {x y : Nat} (hx : x < n) (hy : y < n) (p : Nat → Bool) :
    Sh.set (rows n (gatC c y p)) (x : Int) (row n (gatC c y p x) ||| Bv.bit (y : Int)) = rows n (gatC c y fun a => p a || decide (a = x)) := by
  rw [set_at, row_with hn _ hy, rows_set _ hx, rows_ext hn]
  intro a b _ _
  by_cases ha : a = x
  · subst ha
    by_cases hb : b = y
    · subst hb; simp [gatC]
    · simp [gatC, hb]
  · by_cases hb : b = y
    · subst hb; simp [ha, gatC]
    · simp [ha, gatC, hb]

theorem from_in {h : G.api_Hist} (hr : right h = true) {t : Nat} (ht : t < h.Txns.length) {r : G.api_Take} (hm : r ∈ (tx h t).Reads) (h0 : ¬ r.From < 0) : ∃ x : Nat, r.From = (x : Int) ∧ x < h.Txns.length := by
  have := (from_ok hr (tx_in ht) hm h0).1
  obtain ⟨a, b⟩ := inr_iff.1 this
  exact ⟨r.From.toNat, by omega, by omega⟩
theorem r17_Wr {h : G.api_Hist} (hf : Fits h) (hr : right h = true) (hn : h.Txns.length ≤ 64) : G.inquestref17_Wr h = some (rg h.Txns.length (wrF h)) := by
  unfold G.inquestref17_Wr
  rw [show (Sh.len h.Txns) = ((h.Txns.length : Nat) : Int) from rfl, r12_New _ hn]
  simp only [Option.bind_some]
  refine count_exit (fun k => rows h.Txns.length (gatC (wrF h) k fun _ => false)) h.Txns.length _ (fuel_gt (by omega)) (fun t ht => ?_) ?_ (by rw [gatC_zero hn])
  · have hl := hf.reads _ (tx_in ht)
    simp only [G.inquestref17_Wr_b1, dec_lt, ht, decide_true, if_true, idx_nat ht, Option.bind_some]
    refine count_exit (fun i => rows h.Txns.length (gatC (wrF h) t fun x => ((tx h t).Reads.take i).any (fun r => decide (r.From = (x : Int))))) (tx h t).Reads.length _ (fuel_gt (by omega)) (fun i hi => ?_) ?_ (by simp)
    · have hm := List.getElem_mem hi
      have ne : rows h.Txns.length (gatC (wrF h) t fun x => ((tx h t).Reads.take i).any (fun r => decide (r.From = (x : Int))) || decide (((tx h t).Reads[i]).From = (x : Int))) = rows h.Txns.length (gatC (wrF h) t fun x => ((tx h t).Reads.take (i + 1)).any (fun r => decide (r.From = (x : Int)))) :=
        gatC_ext hn _ _ fun x _ => by rw [take_any hi]
      simp only [G.inquestref17_Wr_b2, dec_lt, hi, decide_true, if_true, idx_at hi, Option.bind_some, r10_With, G.inquestref17_Wr_j3, w64_succ (show i < 9223372036854775807 by omega), Sh.next]
      by_cases h0 : ((tx h t).Reads[i]).From < 0
      · have h1 : ¬ 0 ≤ ((tx h t).Reads[i]).From := by omega
        simp only [h1, decide_false, Bool.false_eq_true, if_false]
        rw [← ne]
        congr 3
        refine gatC_ext hn _ _ fun x _ => ?_
        have : ¬ ((tx h t).Reads[i]).From = (x : Int) := by omega
        simp [this]
      · have h1 : 0 ≤ ((tx h t).Reads[i]).From := by omega
        obtain ⟨x, hx, hxn⟩ := from_in hr ht hm h0
        simp only [hx, show (0 : Int) ≤ (x : Int) by omega, decide_true, if_true, rows_idx hxn, Option.bind_some, gatC_with hn _ hxn ht]
        rw [← ne]
        congr 3
        refine gatC_ext hn _ _ fun y _ => ?_
        rw [hx]
        congr 1
        rw [Bool.eq_iff_iff]
        simp only [decide_eq_true_eq]
        omega
    · simp only [G.inquestref17_Wr_b2, dec_lt, Nat.lt_irrefl, decide_false, Bool.false_eq_true, if_false, G.inquestref17_Wr_j2, w64_succ (show t < 9223372036854775807 by omega), Sh.next]
      rw [← gatC_next hn]
      congr 4
      exact gatC_ext hn _ _ fun y hy => by rw [List.take_of_length_le (Nat.le_refl _)]; rfl
  · simp only [G.inquestref17_Wr_b1, dec_lt, Nat.lt_irrefl, decide_false, Bool.false_eq_true, if_false, G.inquestref17_Wr_j1]
    rw [gatC_all hn]

theorem r17_Past {h : G.api_Hist} (hf : Fits h) (hr : right h = true) (hn : h.Txns.length ≤ 64) : G.inquestref17_Past h = some (rg h.Txns.length (orF (soF h) (wrF h))) := by
  unfold G.inquestref17_Past
  rw [r17_So hn, r17_Wr hf hr hn]
  simp only [Option.bind_some, r12_Union hn]

theorem r17_Init {h : G.api_Hist} (hf : Fits h) (hn : h.Txns.length ≤ 64) : G.inquestref17_Init h = some (rg h.Txns.length (iniF h)) := by
  unfold G.inquestref17_Init
  rw [show (Sh.len h.Txns) = ((h.Txns.length : Nat) : Int) from rfl, r12_New _ hn]
  simp only [Option.bind_some]
  refine count_exit (fun k => rows h.Txns.length (gatF (iniF h) k fun _ => false)) h.Txns.length _ (fuel_gt (by omega)) (fun t ht => ?_) ?_ (by rw [gat_zero hn])
  · have hl := hf.reads _ (tx_in ht)
    simp only [G.inquestref17_Init_b1, dec_lt, ht, decide_true, if_true, idx_nat ht, Option.bind_some]
    refine count_exit (fun i => rows h.Txns.length (gatF (iniF h) t fun y => decide (y ≠ t) && ((tx h t).Reads.take i).any (fun r => iniC h r y))) (tx h t).Reads.length _ (fuel_gt (by omega)) (fun i hi => ?_) ?_ (by simp)
    · simp only [G.inquestref17_Init_b2, dec_lt, hi, decide_true, if_true]
      refine count_exit (fun w => rows h.Txns.length (gatF (iniF h) t fun y => (decide (y ≠ t) && ((tx h t).Reads.take i).any (fun r => iniC h r y)) || (decide (y < w) && (decide (y ≠ t) && iniC h ((tx h t).Reads[i]) y)))) h.Txns.length _ (fuel_gt (by omega)) (fun w hw => ?_) ?_ (by simp)
      · have ne : rows h.Txns.length (gatF (iniF h) t fun y => ((decide (y ≠ t) && ((tx h t).Reads.take i).any (fun r => iniC h r y)) || (decide (y < w) && (decide (y ≠ t) && iniC h ((tx h t).Reads[i]) y))) || (decide (y = w) && (decide (w ≠ t) && iniC h ((tx h t).Reads[i]) w))) = rows h.Txns.length (gatF (iniF h) t fun y => (decide (y ≠ t) && ((tx h t).Reads.take i).any (fun r => iniC h r y)) || (decide (y < w + 1) && (decide (y ≠ t) && iniC h ((tx h t).Reads[i]) y))) :=
          gat_ext hn _ _ fun y _ => by
            by_cases e2 : y = w
            · subst e2; simp
            · have : (y < w + 1) ↔ (y < w) := by omega
              simp [e2, this]
        have hj : ∀ b : Bool, G.inquestref17_Init_j5 t (rows h.Txns.length (gatF (iniF h) t fun y => (decide (y ≠ t) && ((tx h t).Reads.take i).any (fun r => iniC h r y)) || (decide (y < w) && (decide (y ≠ t) && iniC h ((tx h t).Reads[i]) y)))) w b = some (.inl (rows h.Txns.length (gatF (iniF h) t fun y => ((decide (y ≠ t) && ((tx h t).Reads.take i).any (fun r => iniC h r y)) || (decide (y < w) && (decide (y ≠ t) && iniC h ((tx h t).Reads[i]) y))) || (decide (y = w) && b)), ((w + 1 : Nat) : Int))) := fun b => by
          unfold G.inquestref17_Init_j5
          simp only [rows_idx ht, Option.bind_some, r10_With, gat_with hn _ ht hw, G.inquestref17_Init_j4, w64_succ (show w < 9223372036854775807 by omega), Sh.next]
          cases b
          · simp
          · simp
        simp only [G.inquestref17_Init_b3, dec_lt, hw, decide_true, if_true, idx_nat hw, idx_at hi, Option.bind_some, rWrites (hf.writes _ (tx_in hw)), hj]
        rw [← ne]
        unfold iniC
        have e3 : decide ((w : Int) ≠ (t : Int)) = decide (w ≠ t) := by congr 1; exact propext (by omega)
        rw [e3]
        cases hasW (tx h w) ((tx h t).Reads[i]).Key
        · simp
        · by_cases e4 : ((tx h t).Reads[i]).From = -1
          · simp [e4]
          · simp [e4]
      · simp only [G.inquestref17_Init_b3, dec_lt, Nat.lt_irrefl, decide_false, Bool.false_eq_true, if_false, G.inquestref17_Init_j3, w64_succ (show i < 9223372036854775807 by omega), Sh.next]
        congr 4
        refine gat_ext hn _ _ fun y hy => ?_
        rw [take_any hi]
        simp only [hy, decide_true, Bool.true_and]
        cases decide (y ≠ t) <;> simp
    · simp only [G.inquestref17_Init_b2, dec_lt, Nat.lt_irrefl, decide_false, Bool.false_eq_true, if_false, G.inquestref17_Init_j2, w64_succ (show t < 9223372036854775807 by omega), Sh.next]
      rw [← gat_next hn]
      congr 4
      exact gat_ext hn _ _ fun y hy => by rw [List.take_of_length_le (Nat.le_refl _)]; rfl
  · simp only [G.inquestref17_Init_b1, dec_lt, Nat.lt_irrefl, decide_false, Bool.false_eq_true, if_false, G.inquestref17_Init_j1]
    rw [gat_all hn]

theorem one_nat {h : G.api_Hist} {c : G.api_Choice} (h1 : one h c = true) : ∃ a b : Nat, c.A = (a : Int) ∧ c.B = (b : Int) ∧ a < h.Txns.length ∧ b < h.Txns.length ∧ a ≠ b ∧ hasW (tx h a) c.Key = true ∧ hasW (tx h b) c.Key = true := by
  simp only [one, Bool.and_eq_true, decide_eq_true_eq] at h1
  obtain ⟨⟨⟨⟨d, e⟩, f⟩, g⟩, k⟩ := h1
  have e' := inr_iff.1 e
  have f' := inr_iff.1 f
  have ea : c.A = ((c.A.toNat : Nat) : Int) := by omega
  have eb : c.B = ((c.B.toNat : Nat) : Int) := by omega
  refine ⟨c.A.toNat, c.B.toNat, ea, eb, by omega, by omega, by omega, ?_, ?_⟩
  · rw [← ea]; exact g
  · rw [← eb]; exact k
theorem r18_Ww {h : G.api_Hist} (hn : h.Txns.length ≤ 64) {l : List G.api_Choice} (hl : l.length < 9223372036854775807) (hone : ∀ c ∈ l, one h c = true) : G.inquestref18_Ww h l = some (rg h.Txns.length (wwF l)) := by
  unfold G.inquestref18_Ww
  rw [show (Sh.len h.Txns) = ((h.Txns.length : Nat) : Int) from rfl, r12_New _ hn]
  simp only [Option.bind_some]
  refine count_exit (fun i => rows h.Txns.length (wwF (l.take i))) l.length _ (fuel_gt (by omega)) (fun i hi => ?_) ?_ ?_
  · obtain ⟨a, b, ea, eb, ha, hb, _⟩ := one_nat (hone _ (List.getElem_mem hi))
    simp only [G.inquestref18_Ww_b1, dec_lt, hi, decide_true, if_true, idx_at hi, Option.bind_some, ea, eb, rows_idx ha, r10_With, set_edge hn _ ha hb, w64_succ (show i < 9223372036854775807 by omega), Sh.next]
    congr 3
    rw [rows_ext hn]
    intro x y _ _
    unfold addF wwF
    rw [take_any hi, ea, eb]
    congr 1
    rw [Bool.eq_iff_iff]
    simp only [decide_eq_true_eq, Bool.and_eq_true]
    omega
  · simp only [G.inquestref18_Ww_b1, dec_lt, Nat.lt_irrefl, decide_false, Bool.false_eq_true, if_false, G.inquestref18_Ww_j1, List.take_length]
  · rw [zero_rows]
    congr 1
def readers (h : G.api_Hist) (key frm : Int) : List Nat := (List.range h.Txns.length).filter fun t : Nat => decide (fromR h t key = some frm)
theorem r09_Readers {h : G.api_Hist} (hf : Fits h) (hn : h.Txns.length ≤ 64) (key frm : Int) : G.inquestref09_Readers h key frm = some ((readers h key frm).map fun t : Nat => (t : Int)) := by
  unfold G.inquestref09_Readers readers
  refine count_exit (fun k => (((List.range k).filter fun t : Nat => decide (fromR h t key = some frm)).map fun t : Nat => (t : Int))) h.Txns.length _ (fuel_gt (by omega)) (fun k hk => ?_) ?_ (by simp)
  · have hj : ∀ b : Bool, G.inquestref09_Readers_j3 (((List.range k).filter fun t : Nat => decide (fromR h t key = some frm)).map fun t : Nat => (t : Int)) k b = some (.inl ((((List.range k).filter fun t : Nat => decide (fromR h t key = some frm)).map fun t : Nat => (t : Int)) ++ (if b then [(k : Int)] else []), ((k + 1 : Nat) : Int))) := fun b => by
      unfold G.inquestref09_Readers_j3
      have hle : ((List.range k).filter fun t : Nat => decide (fromR h t key = some frm)).length ≤ k := by
        have := List.length_filter_le (fun t : Nat => decide (fromR h t key = some frm)) (List.range k); simpa using this
      cases b
      · simp [G.inquestref09_Readers_j2, w64_succ (show k < 9223372036854775807 by omega), Sh.next]
      · simp only [if_true]
        rw [app_ok (by simp; omega)]
        simp [G.inquestref09_Readers_j2, w64_succ (show k < 9223372036854775807 by omega), Sh.next]
    simp only [G.inquestref09_Readers_b1, dec_lt, hk, decide_true, if_true, rFrom hf, Option.bind_some, hj]
    have e : ∀ v : Option Int, (if (match v with | some v => (v, true) | none => ((0 : Int), false)).2 = true then some (Sum.inl (α := List Int × Int) (β := List Int) ((((List.range k).filter fun t : Nat => decide (fromR h t key = some frm)).map fun t : Nat => (t : Int)) ++ (if decide ((match v with | some v => (v, true) | none => ((0 : Int), false)).1 = frm) = true then [(k : Int)] else []), ((k + 1 : Nat) : Int))) else some (Sum.inl ((((List.range k).filter fun t : Nat => decide (fromR h t key = some frm)).map fun t : Nat => (t : Int)) ++ (if false = true then [(k : Int)] else []), ((k + 1 : Nat) : Int)))) = some (.inl ((((List.range k).filter fun t : Nat => decide (fromR h t key = some frm)).map fun t : Nat => (t : Int)) ++ (if decide (v = some frm) then [(k : Int)] else []), ((k + 1 : Nat) : Int))) := fun v => by
      cases v with
      | none => simp
      | some v => by_cases hv : v = frm <;> simp [hv]
    refine (e (fromR h k key)).trans ?_
    rw [List.range_succ, List.filter_append, List.map_append]
    by_cases hk2 : fromR h k key = some frm <;> simp [hk2]
  · simp [G.inquestref09_Readers_b1, G.inquestref09_Readers_j1, Sh.len]
theorem readers_lt {h : G.api_Hist} {key frm : Int} {t : Nat} (ht : t ∈ readers h key frm) : t < h.Txns.length ∧ fromR h t key = some frm := by
  unfold readers at ht
  simpa using ht
theorem readers_len {h : G.api_Hist} {key frm : Int} : (readers h key frm).length ≤ h.Txns.length := by
  have := List.length_filter_le (fun t : Nat => decide (fromR h t key = some frm)) (List.range h.Txns.length); simpa [readers] using this
theorem r18_Rw {h : G.api_Hist} (hf : Fits h) (hn : h.Txns.length ≤ 64) {l : List G.api_Choice} (hl : l.length < 9223372036854775807) (hone : ∀ c ∈ l, one h c = true) : G.inquestref18_Rw h l = some (rg h.Txns.length (rwF h l)) := by
  unfold G.inquestref18_Rw
  rw [r17_Init hf hn]
  simp only [Option.bind_some]
  refine count_exit (fun i => rows h.Txns.length (rwF h (l.take i))) l.length _ (fuel_gt (by omega)) (fun i hi => ?_) ?_ ?_
  · obtain ⟨a, b, ea, eb, ha, hb, _⟩ := one_nat (hone _ (List.getElem_mem hi))
    simp only [G.inquestref18_Rw_b1, dec_lt, hi, decide_true, if_true, idx_at hi, Option.bind_some, r09_Readers hf hn]
    have hlen := readers_len (h := h) (key := (l[i]).Key) (frm := (l[i]).A)
    refine count_exit (fun k => rows h.Txns.length (fun x y => rwF h (l.take i) x y || (decide (y = b) && decide (x ≠ b) && ((readers h (l[i]).Key (l[i]).A).take k).any (fun t => decide (x = t))))) (readers h (l[i]).Key (l[i]).A).length _ (fuel_gt (by omega)) (fun k hk => ?_) ?_ ?_
    · have hk2 : k < ((readers h (l[i]).Key (l[i]).A).map fun t : Nat => (t : Int)).length := by simpa using hk
      have et : ((readers h (l[i]).Key (l[i]).A).map fun t : Nat => (t : Int))[k] = (((readers h (l[i]).Key (l[i]).A)[k] : Nat) : Int) := by simp
      obtain ⟨htn, _⟩ := readers_lt (List.getElem_mem hk)
      generalize hF : (fun x y => rwF h (l.take i) x y || (decide (y = b) && decide (x ≠ b) && ((readers h (l[i]).Key (l[i]).A).take k).any (fun t => decide (x = t)))) = F
      generalize ht : (readers h (l[i]).Key (l[i]).A)[k] = t at htn et
      simp only [G.inquestref18_Rw_b2, dec_lt, hk2, decide_true, if_true, idx_at hk2, idx_at hi, Option.bind_some, et, eb, rows_idx htn, r10_With, set_edge hn _ htn hb, G.inquestref18_Rw_j3, w64_succ (show k < 9223372036854775807 by omega), Sh.next]
      by_cases e : t = b
      · have e' : ¬ ((t : Int) ≠ (b : Int)) := by omega
        simp only [e', decide_false, Bool.false_eq_true, if_false]
        congr 3
        rw [rows_ext hn]
        intro x y _ _
        rw [← hF, take_any hk, ht]
        by_cases hx : x = t
        · subst hx; simp [e]
        · simp [hx]
      · have e' : ¬ ((t : Int) = (b : Int)) := by omega
        simp only [ne_eq, e', not_false_eq_true, decide_true, if_true]
        congr 3
        rw [rows_ext hn]
        intro x y _ _
        unfold addF
        rw [← hF, take_any hk, ht]
        by_cases hx : x = t
        · subst hx; by_cases hy : y = b <;> simp [e, hy]
        · simp [hx]
    · have hm : ((readers h (l[i]).Key (l[i]).A).map fun t : Nat => (t : Int)).length = (readers h (l[i]).Key (l[i]).A).length := by simp
      simp only [G.inquestref18_Rw_b2, len_eq, hm, dec_lt, Nat.lt_irrefl, decide_false, Bool.false_eq_true, if_false, G.inquestref18_Rw_j2, w64_succ (show i < 9223372036854775807 by omega), Sh.next]
      congr 4
      rw [rows_ext hn]
      intro x y hx hy
      rw [List.take_length]
      unfold rwF
      rw [take_any hi, Bool.or_assoc]
      congr 2
      unfold rwC
      rw [eb, Bool.eq_iff_iff]
      simp only [Bool.and_eq_true, decide_eq_true_eq, List.any_eq_true]
      constructor
      · rintro ⟨⟨h1, h2⟩, t, ht, rfl⟩
        exact ⟨⟨by omega, by omega⟩, (readers_lt ht).2⟩
      · rintro ⟨⟨h1, h2⟩, h3⟩
        refine ⟨⟨by omega, by omega⟩, x, ?_, rfl⟩
        unfold readers
        simp [hx, h3]
    · congr 2
      funext x y
      simp
  · simp only [G.inquestref18_Rw_b1, dec_lt, Nat.lt_irrefl, decide_false, Bool.false_eq_true, if_false, G.inquestref18_Rw_j1, List.take_length]
  · congr 2
    funext x y
    simp [rwF]

def dF (h : G.api_Hist) (l : List G.api_Choice) : Nat → Nat → Bool := orF (orF (soF h) (wrF h)) (wwF l)
def fullF (h : G.api_Hist) (lev : Int) (l : List G.api_Choice) : Nat → Nat → Bool :=
  orF (dF h l) (if lev = 1 then compF h.Txns.length (dF h l) (rwF h l) else rwF h l)
theorem r18_Full {h : G.api_Hist} (hf : Fits h) (hr : right h = true) (lev : Int) {l : List G.api_Choice} (hl : l.length < 9223372036854775807) (hone : ∀ c ∈ l, one h c = true) : G.inquestref18_Full h lev l = some (rg h.Txns.length (fullF h lev l)) := by
  have hn : h.Txns.length ≤ 64 := by
    simp only [right, Bool.and_eq_true, decide_eq_true_eq] at hr; omega
  unfold G.inquestref18_Full fullF
  rw [r17_Past hf hr hn, r18_Ww hn hl hone]
  simp only [Option.bind_some, r12_Union hn, r18_Rw hf hn hl hone]
  by_cases h1 : lev = 1
  · simp only [h1, decide_true, if_true, G.inquestref18_Full_j1, r12_Compose hn, Option.bind_some]
    rw [show orF (orF (soF h) (wrF h)) (wwF l) = dF h l from rfl, r12_Union hn]
    rfl
  · simp only [h1, decide_false, Bool.false_eq_true, if_false, G.inquestref18_Full_j1, Option.bind_some]
    rw [show orF (orF (soF h) (wrF h)) (wwF l) = dF h l from rfl, r12_Union hn]
    rfl
noncomputable def good (h : G.api_Hist) (lev : Int) (l : List G.api_Choice) : Bool := !cycB h.Txns.length (fullF h lev l)
theorem r18_Good {h : G.api_Hist} (hf : Fits h) (hr : right h = true) (lev : Int) {l : List G.api_Choice} (hl : l.length < 9223372036854775807) (hone : ∀ c ∈ l, one h c = true) : G.inquestref18_Good h lev l = some (good h lev l) := by
  have hn : h.Txns.length ≤ 64 := by
    simp only [right, Bool.and_eq_true, decide_eq_true_eq] at hr; omega
  unfold G.inquestref18_Good good
  rw [r18_Full hf hr lev hl hone]
  simp only [Option.bind_some, r13_Cyclic hn]
end Pl
end

section
/- What follows must be so: whoever chooses all pairs, and lets nothing lead back, chooses it too. -/
namespace Pl
open Go Go.Av

theorem direct_dF {h : G.api_Hist} {s : List G.api_Choice} {x y : Nat} (hd : direct h s x y = true) : dF h s x y = true := by
  unfold direct dirS at hd
  simp only [Bool.and_eq_true, Bool.or_eq_true, decide_eq_true_eq, List.any_eq_true] at hd
  unfold dF orF
  simp only [Bool.or_eq_true]
  rcases hd.2 with (h1 | h1) | h1
  · left; left
    unfold soF
    simp only [Bool.and_eq_true, decide_eq_true_eq]
    exact ⟨by omega, h1.2⟩
  · left; right
    unfold wrF
    simp only [List.any_eq_true, decide_eq_true_eq]
    exact h1
  · right
    obtain ⟨c, hc, hw⟩ := h1
    unfold isW at hw
    unfold wwF
    simp only [Bool.and_eq_true, decide_eq_true_eq] at hw
    simp only [List.any_eq_true, Bool.and_eq_true, decide_eq_true_eq]
    exact ⟨c, hc, hw.1.1.1.1, hw.1.1.1.2⟩
theorem anti_rwF {h : G.api_Hist} {s : List G.api_Choice} {x y : Nat} (hx : x < h.Txns.length) (hd : anti h s x y = true) : rwF h s x y = true := by
  unfold anti antS isO two at hd
  simp only [Bool.and_eq_true, Bool.or_eq_true, decide_eq_true_eq, List.any_eq_true] at hd
  obtain ⟨⟨⟨hr, _⟩, _⟩, hne, r, hm, hw, ho⟩ := hd
  unfold rwF
  rw [Bool.or_eq_true]
  rcases ho with h0 | ⟨_, c, hc, he⟩
  · left
    have h1 := (from_neg hr (tx_in hx) hm).1 h0
    unfold iniF iniC
    simp only [Bool.and_eq_true, decide_eq_true_eq, List.any_eq_true]
    exact ⟨by omega, r, hm, h1, hw⟩
  · right
    subst he
    simp only [List.any_eq_true]
    refine ⟨_, hc, ?_⟩
    unfold rwC
    simp only [Bool.and_eq_true, decide_eq_true_eq]
    refine ⟨⟨by simp, by omega⟩, ?_⟩
    rw [fromR_iff hr (inr_nat.2 hx)]
    simp only [List.any_eq_true, decide_eq_true_eq]
    exact ⟨r, hm, rfl⟩
theorem edge_full {h : G.api_Hist} {lev : Int} {s : List G.api_Choice} {x y : Nat} (hx : x < h.Txns.length) (hd : edge h lev s x y = true) : fullF h lev s x y = true := by
  unfold edge at hd
  unfold fullF orF
  rw [Bool.or_eq_true]
  by_cases h0 : lev = 0
  · subst h0
    simp only [if_true, Bool.or_eq_true] at hd
    rcases hd with hd | hd
    · exact .inl (direct_dF hd)
    · right
      simp only [show ¬ ((0 : Int) = 1) by omega, if_false]
      exact anti_rwF hx hd
  · by_cases h1 : lev = 1
    · subst h1
      simp only [show ¬ ((1 : Int) = 0) by omega, if_false, if_true, List.any_eq_true, List.mem_range, Bool.and_eq_true, Bool.or_eq_true, decide_eq_true_eq] at hd
      obtain ⟨m, hm, hd1, hd2⟩ := hd
      rcases hd2 with hd2 | hd2
      · left
        have : m = y := by omega
        subst this
        exact direct_dF hd1
      · right
        simp only [if_true]
        unfold compF
        simp only [List.any_eq_true, List.mem_range, Bool.and_eq_true]
        exact ⟨m, hm, direct_dF hd1, anti_rwF hm hd2⟩
    · simp [h0, h1] at hd
theorem edge_in {h : G.api_Hist} {lev : Int} {s : List G.api_Choice} {x y : Int} (hd : edge h lev s x y = true) : inr h x = true ∧ inr h y = true := by
  unfold edge direct anti two at hd
  by_cases h0 : lev = 0
  · simp only [h0, if_true, Bool.or_eq_true, Bool.and_eq_true] at hd
    rcases hd with hd | hd <;> exact ⟨hd.1.1.2, hd.1.2⟩
  · by_cases h1 : lev = 1
    · simp only [h0, h1, if_false, if_true, List.any_eq_true, Bool.and_eq_true, Bool.or_eq_true, show ¬ ((1 : Int) = 0) by omega, decide_eq_true_eq] at hd
      obtain ⟨m, hm, hd1, hd2⟩ := hd
      refine ⟨hd1.1.1.2, ?_⟩
      rcases hd2 with hd2 | hd2
      · rw [← hd2]; exact hd1.1.2
      · exact hd2.1.2
    · simp [h0, h1] at hd
theorem ring_way {h : G.api_Hist} {lev : Int} {s : List G.api_Choice} {row : List Int} (hd : ring h lev s row = true) : ∃ x, Way h.Txns.length (fullF h lev s) x x := by
  unfold ring at hd
  simp only [Bool.and_eq_true, List.all_eq_true, decide_eq_true_eq, List.mem_range] at hd
  obtain ⟨hp, hall⟩ := hd
  have hq : ∀ i, edge h lev s (row.getD (i % row.length) 0) (row.getD ((i + 1) % row.length) 0) = true := fun i => by
    have := (hall (i % row.length) (Nat.mod_lt _ hp)).2
    rwa [Nat.mod_add_mod] at this
  let q : Nat → Nat := fun i => (row.getD (i % row.length) 0).toNat
  have hin : ∀ i, ((q i : Nat) : Int) = row.getD (i % row.length) 0 ∧ q i < h.Txns.length := fun i => by
    have := inr_iff.1 (edge_in (hq i)).1
    simp only [q]
    omega
  have hstep : ∀ i, fullF h lev s (q i) (q (i + 1)) = true := fun i => by
    refine edge_full (hin i).2 ?_
    rw [(hin i).1, (hin (i + 1)).1]
    exact hq i
  have hway : ∀ k, Way h.Txns.length (fullF h lev s) (q 0) (q (k + 1)) := by
    intro k
    induction k with
    | zero => exact .edge (hin 0).2 (hin 1).2 (hstep 0)
    | succ k ih => exact ih.snoc (hin (k + 2)).2 (hstep (k + 1))
  refine ⟨q 0, ?_⟩
  have h1 := hway (row.length - 1)
  have h2 : q (row.length - 1 + 1) = q 0 := by
    simp only [q]
    rw [show row.length - 1 + 1 = row.length by omega]
    simp
  rwa [h2] at h1

theorem ww_full {h : G.api_Hist} {lev : Int} {s : List G.api_Choice} {c : G.api_Choice} {a b : Nat} (hc : c ∈ s) (ha : c.A = (a : Int)) (hb : c.B = (b : Int)) : fullF h lev s a b = true := by
  unfold fullF orF dF orF wwF
  simp only [Bool.or_eq_true, List.any_eq_true, Bool.and_eq_true, decide_eq_true_eq]
  exact .inl (.inr ⟨c, hc, ha, hb⟩)
theorem d_full {h : G.api_Hist} {lev : Int} {s : List G.api_Choice} {a b : Nat} (hd : dF h s a b = true) : fullF h lev s a b = true := by
  unfold fullF orF
  rw [hd]; rfl
theorem sound {h : G.api_Hist} {lev : Int} {s : List G.api_Choice} (hlev : lev = 0 ∨ lev = 1) (hs : ∀ c ∈ s, one h c = true) (hall : ∀ c, one h c = true → c ∈ s ∨ back c ∈ s) (hg : good h lev s = true) {l : List G.fact_Fact} (hl : ∀ f ∈ l, f.C ∈ s) {f : G.fact_Fact} (hh : holds h lev l f = true) : f.C ∈ s := by
  have hno : ∀ x, ¬ Way h.Txns.length (fullF h lev s) x x := fun x hx => by
    unfold good at hg
    rw [cyc_iff.2 ⟨x, hx⟩] at hg
    cases hg
  unfold holds may at hh
  simp only [Bool.and_eq_true] at hh
  obtain ⟨⟨⟨⟨hr, _⟩, hone⟩, _⟩, hre⟩ := hh
  rcases hall _ hone with hc | hc
  · exact hc
  exfalso
  obtain ⟨a, b, ea, eb, ha, hb, hab, _⟩ := one_nat hone
  have hback : fullF h lev s b a = true := ww_full hc eb ea
  unfold reason at hre
  by_cases k1 : f.Kind = 1
  · simp only [k1, if_true, Bool.and_eq_true] at hre
    have h1 := direct_sub (l := []) (m := s) (fun c hc => by cases hc) hre.2
    rw [ea, eb] at h1
    exact hno a (.cons ha hb (d_full (direct_dF h1)) (.edge hb ha hback))
  · by_cases k2 : f.Kind = 2
    · simp only [k2, if_true, show ¬ ((2 : Int) = 1) by omega, if_false] at hre
      unfold joinedB at hre
      simp only [Bool.and_eq_true, decide_eq_true_eq] at hre
      obtain ⟨⟨⟨⟨i1, i2⟩, e1⟩, e2⟩, e3⟩ := hre
      have fm : ∀ {i : Int}, ini l i = true → fa l i ∈ l := fun {i} hi => by
        obtain ⟨p, q⟩ := ini_iff.1 hi
        unfold fa
        rw [List.getElem?_eq_getElem (show i.toNat < l.length by omega)]
        exact List.getElem_mem _
      have m1 := hl _ (fm i1)
      have m2 := hl _ (fm i2)
      have eA : (fa l f.I).C.A = (a : Int) := by rw [← ea, e3]
      have eB : (fa l f.J).C.B = (b : Int) := by rw [← eb, e3]
      obtain ⟨_, m, _, em, _, hm, _⟩ := one_nat (hs _ m1)
      have w1 : fullF h lev s a m = true := ww_full m1 eA em
      have w2 : fullF h lev s m b = true := ww_full m2 (by rw [← e1, em]) eB
      exact hno a (.cons ha hm w1 (.cons hm hb w2 (.edge hb ha hback)))
    · by_cases k3 : f.Kind = 3
      · simp only [k3, if_true, show ¬ ((3 : Int) = 1) by omega, show ¬ ((3 : Int) = 2) by omega, if_false] at hre
        unfold seenB at hre
        simp only [Bool.and_eq_true, decide_eq_true_eq] at hre
        obtain ⟨⟨⟨⟨_, hne⟩, hi⟩, hrd⟩, hdir⟩ := hre
        obtain ⟨i0, i1⟩ := inr_iff.1 hi
        have ei : f.I = ((f.I.toNat : Nat) : Int) := by omega
        generalize f.I.toNat = i at ei
        rw [ei] at hi hrd hdir hne i1
        have hin : i < h.Txns.length := inr_nat.1 hi
        have h1 := direct_dF (direct_sub (l := []) (m := s) (fun c hc => by cases hc) (by rw [ea] at hdir; exact hdir))
        have h2 : rwF h s i a = true := by
          unfold rwF
          rw [Bool.or_eq_true]
          right
          simp only [List.any_eq_true]
          refine ⟨_, hc, ?_⟩
          unfold rwC back
          simp only [Bool.and_eq_true, decide_eq_true_eq]
          exact ⟨⟨ea, by omega⟩, (fromR_iff hr hi).2 hrd⟩
        rcases hlev with h0 | h0
        · have h3 : fullF h lev s i a = true := by
            unfold fullF orF
            rw [h0, if_neg (by omega), h2, Bool.or_true]
          exact hno a (.cons ha hin (d_full h1) (.edge hin ha h3))
        · have h3 : fullF h lev s a a = true := by
            unfold fullF orF
            rw [h0, if_pos rfl, Bool.or_eq_true]
            right
            unfold compF
            simp only [List.any_eq_true, List.mem_range, Bool.and_eq_true]
            exact ⟨i, hin, h1, h2⟩
          exact hno a (.edge ha ha h3)
      · by_cases k4 : f.Kind = 4
        · simp only [k4, if_true, show ¬ ((4 : Int) = 1) by omega, show ¬ ((4 : Int) = 2) by omega, show ¬ ((4 : Int) = 3) by omega, if_false, Bool.and_eq_true] at hre
          obtain ⟨x, hx⟩ := ring_way (ring_sub (m := s) (fun c hcm => by
            rcases List.mem_append.1 hcm with h1 | h1
            · obtain ⟨g, hg1, rfl⟩ := List.mem_map.1 h1
              exact hl g hg1
            · rw [List.mem_singleton.1 h1]; exact hc) hre.2)
          exact hno x hx
        · simp [k1, k2, k3, k4] at hre
theorem sound_all {h : G.api_Hist} {lev : Int} {s : List G.api_Choice} (hlev : lev = 0 ∨ lev = 1) (hs : ∀ c ∈ s, one h c = true) (hall : ∀ c, one h c = true → c ∈ s ∨ back c ∈ s) (hg : good h lev s = true) {l : List G.fact_Fact} (hr : replay h lev l = true) : ∀ f ∈ l, f.C ∈ s := by
  unfold replay at hr
  simp only [Bool.and_eq_true, decide_eq_true_eq] at hr
  have key : ∀ n, n ≤ l.length → ∀ f ∈ l.take n, f.C ∈ s := by
    intro n
    induction n with
    | zero => intro _ f hf; simp at hf
    | succ n ih =>
      intro hn f hf
      rw [List.take_add_one, List.getElem?_eq_getElem (show n < l.length by omega), Option.toList_some] at hf
      rcases List.mem_append.1 hf with hf | hf
      · exact ih (by omega) f hf
      · rw [List.mem_singleton.1 hf]
        have h1 := hr.2 n (by omega)
        unfold okFact at h1
        have h2 : l.getD n default = l[n] := by simp [List.getD, List.getElem?_eq_getElem (show n < l.length by omega)]
        rw [h2] at h1
        exact sound hlev hs hall hg (ih (by omega)) h1
  intro f hf
  have := key l.length (Nat.le_refl _)
  rw [List.take_length] at this
  exact this f hf
end Pl
end

section
/- All pairs, and all ways to choose them. -/
namespace Pl
open Go Go.Av

def writers (h : G.api_Hist) (key : Int) : List Int := if right h then ((List.range h.Txns.length).filter fun t : Nat => hasW (tx h t) key).map fun t : Nat => (t : Int) else []
theorem r09_Writers {h : G.api_Hist} (hf : Fits h) (hn : h.Txns.length ≤ 64) (key : Int) : G.inquestref09_Writers h key = some (writers h key) := by
  unfold G.inquestref09_Writers writers
  rw [rRight hf]
  simp only [Option.bind_some]
  cases hr : right h with
  | false =>
    refine run_exit (fun _ => ([], false, 0)) 0 _ (by decide) (fun k hk => by omega) ?_ rfl
    simp [G.inquestref09_Writers_b1, G.inquestref09_Writers_j2, G.inquestref09_Writers_j1]
  | true =>
    refine run_exit (fun k => ((((List.range k).filter fun t : Nat => hasW (tx h t) key).map fun t : Nat => (t : Int)), true, (k : Int))) h.Txns.length _ (fuel_gt (by omega)) (fun k hk => ?_) ?_ rfl
    · have hle : ((List.range k).filter fun t : Nat => hasW (tx h t) key).length ≤ k := by
        have := List.length_filter_le (fun t : Nat => hasW (tx h t) key) (List.range k); simpa using this
      simp only [G.inquestref09_Writers_b1, if_true, G.inquestref09_Writers_j2, dec_lt, hk, decide_true, idx_nat hk, Option.bind_some, rWrites (hf.writes _ (tx_in hk))]
      rw [List.range_succ, List.filter_append, List.map_append]
      cases hw : hasW (tx h k) key with
      | false => simp [G.inquestref09_Writers_j3, w64_succ (show k < 9223372036854775807 by omega), Sh.next, hw]
      | true =>
        simp only [if_true]
        rw [app_ok (by simp; omega)]
        simp [G.inquestref09_Writers_j3, w64_succ (show k < 9223372036854775807 by omega), Sh.next, hw]
    · simp [G.inquestref09_Writers_b1, G.inquestref09_Writers_j2, G.inquestref09_Writers_j1, Sh.len]
theorem writers_len {h : G.api_Hist} {key : Int} : (writers h key).length ≤ h.Txns.length := by
  unfold writers
  split
  · have := List.length_filter_le (fun t : Nat => hasW (tx h t) key) (List.range h.Txns.length); simpa using this
  · simp
theorem mem_writers {h : G.api_Hist} (hr : right h = true) {key x : Int} : x ∈ writers h key ↔ inr h x = true ∧ hasW (tx h x) key = true := by
  unfold writers
  rw [if_pos hr]
  simp only [List.mem_map, List.mem_filter, List.mem_range]
  constructor
  · rintro ⟨t, ⟨h1, h2⟩, rfl⟩; exact ⟨inr_nat.2 h1, h2⟩
  · rintro ⟨h1, h2⟩
    obtain ⟨a, b⟩ := inr_iff.1 h1
    refine ⟨x.toNat, ⟨by omega, ?_⟩, by omega⟩
    rw [show ((x.toNat : Nat) : Int) = x by omega]; exact h2
theorem writers_sorted {h : G.api_Hist} {key : Int} : (writers h key).Pairwise (· < ·) := by
  unfold writers
  split
  · rw [List.pairwise_map]
    refine List.Pairwise.imp (R := fun a b : Nat => a < b) (fun {a b} hab => by omega) ?_
    exact List.Pairwise.filter _ List.pairwise_lt_range
  · exact .nil

def pairsI (key : Int) (ws : List Int) (i : Nat) : List G.api_Choice := (ws.drop (i + 1)).map fun w => ⟨key, ws.getD i 0, w⟩
def pairsK (key : Int) (ws : List Int) : List G.api_Choice := (List.range ws.length).flatMap (pairsI key ws)
def pairs (h : G.api_Hist) : List G.api_Choice := (List.range 16).flatMap fun k : Nat => pairsK k (writers h k)
theorem flat_len {α : Type} (f : Nat → List α) (b : Nat) (hb : ∀ k, (f k).length ≤ b) : ∀ n, ((List.range n).flatMap f).length ≤ n * b := by
  intro n
  induction n with
  | zero => simp
  | succ n ih =>
    rw [List.range_succ, List.flatMap_append, List.length_append]
    have := hb n
    simp only [List.flatMap_cons, List.flatMap_nil, List.append_nil]
    rw [Nat.add_mul, Nat.one_mul]; omega
theorem pairsI_len (key : Int) (ws : List Int) (i : Nat) : (pairsI key ws i).length ≤ ws.length := by simp [pairsI]
theorem pairsK_len (key : Int) (ws : List Int) : (pairsK key ws).length ≤ ws.length * ws.length := flat_len _ _ (pairsI_len key ws) _
theorem flat_succ {α : Type} (f : Nat → List α) (k : Nat) : (List.range (k + 1)).flatMap f = (List.range k).flatMap f ++ f k := by
  rw [List.range_succ, List.flatMap_append]; simp
theorem r09_Pairs {h : G.api_Hist} (hf : Fits h) (hn : h.Txns.length ≤ 64) : G.inquestref09_Pairs h = some (pairs h) := by
  have hkk : ∀ k : Nat, (pairsK k (writers h k)).length ≤ 4096 := fun k => by
    have h1 := pairsK_len (k : Int) (writers h k)
    have h2 : (writers h (k : Int)).length ≤ 64 := Nat.le_trans writers_len hn
    exact Nat.le_trans h1 (Nat.mul_le_mul h2 h2)
  unfold G.inquestref09_Pairs pairs
  refine count_exit (fun k => (List.range k).flatMap fun k : Nat => pairsK k (writers h k)) 16 _ (by decide) (fun k hk => ?_) ?_ rfl
  · have hk2 : (k : Int) < 16 := by omega
    have hw2 : (writers h (k : Int)).length ≤ 64 := Nat.le_trans writers_len hn
    have hout := flat_len (fun k : Nat => pairsK k (writers h k)) 4096 hkk k
    have ho2 : k * 4096 ≤ 65536 := Nat.mul_le_mul (show k ≤ 16 by omega) (Nat.le_refl 4096)
    simp only [G.inquestref09_Pairs_b1, hk2, decide_true, if_true, r09_Writers hf hn, Option.bind_some]
    rw [flat_succ]
    generalize ((List.range k).flatMap fun k : Nat => pairsK k (writers h k)) = out at hout
    generalize writers h (k : Int) = ws at hw2
    refine count_exit (fun i => out ++ (List.range i).flatMap (pairsI k ws)) ws.length _ (fuel_gt (by omega)) (fun i hi => ?_) ?_ (by simp)
    · have ho3 := flat_len (pairsI (k : Int) ws) 64 (fun i => Nat.le_trans (pairsI_len _ _ _) hw2) i
      have ho4 : i * 64 ≤ 4096 := Nat.mul_le_mul (show i ≤ 64 by omega) (Nat.le_refl 64)
      simp only [G.inquestref09_Pairs_b2, dec_lt, hi, decide_true, if_true]
      rw [w64_succ (by omega), flat_succ, ← List.append_assoc]
      have ho5 : (out ++ (List.range i).flatMap (pairsI (k : Int) ws)).length ≤ 100000 := by simp only [List.length_append]; omega
      generalize out ++ (List.range i).flatMap (pairsI (k : Int) ws) = out2 at ho5
      refine run_exit (fun j => (out2 ++ ((ws.drop (i + 1)).take j).map fun w => ⟨(k : Int), ws.getD i 0, w⟩, ((i + 1 + j : Nat) : Int))) (ws.length - (i + 1)) _ (fuel_gt (by omega)) (fun j hj => ?_) ?_ (by simp)
      · have hb : i + 1 + j < ws.length := by omega
        have hd : ws.getD i 0 = ws[i] := by simp [List.getD, List.getElem?_eq_getElem hi]
        have hj2 : j < (ws.drop (i + 1)).length := by simp; omega
        simp only [G.inquestref09_Pairs_b3, dec_lt, hb, decide_true, if_true, idx_at hi, idx_at hb, Option.bind_some]
        rw [app_ok (by simp; omega)]
        simp only [Option.bind_some, w64_succ (show i + 1 + j < 9223372036854775807 by omega), Sh.next]
        rw [List.take_add_one, List.getElem?_eq_getElem hj2, Option.toList_some, List.map_append, List.append_assoc, List.getElem_drop, hd]
        rfl
      · rw [show i + 1 + (ws.length - (i + 1)) = ws.length by omega]
        simp only [G.inquestref09_Pairs_b3, dec_lt, Nat.lt_irrefl, decide_false, Bool.false_eq_true, if_false, G.inquestref09_Pairs_j3, w64_succ (show i < 9223372036854775807 by omega), Sh.next]
        rw [List.take_of_length_le (by simp)]
        rfl
    · simp only [G.inquestref09_Pairs_b2, dec_lt, Nat.lt_irrefl, decide_false, Bool.false_eq_true, if_false, G.inquestref09_Pairs_j2, w64_succ (show k < 9223372036854775807 by omega), Sh.next]
      rfl
  · simp [G.inquestref09_Pairs_b1, G.inquestref09_Pairs_j1]

theorem pairs_one {h : G.api_Hist} (hr : right h = true) {c : G.api_Choice} (hc : c ∈ pairs h) : one h c = true := by
  unfold pairs pairsK pairsI at hc
  simp only [List.mem_flatMap, List.mem_range, List.mem_map] at hc
  obtain ⟨k, hk, i, hi, w, hw, rfl⟩ := hc
  have hd : (writers h (k : Int)).getD i 0 = (writers h (k : Int))[i] := by simp [List.getD, List.getElem?_eq_getElem hi]
  have m1 := (mem_writers hr).1 (List.getElem_mem hi)
  have m2 := (mem_writers hr).1 (List.mem_of_mem_drop hw)
  have hlt : (writers h (k : Int))[i] < w := by
    have hs := writers_sorted (h := h) (key := (k : Int))
    rw [List.pairwise_iff_getElem] at hs
    obtain ⟨j, hj, rfl⟩ := List.getElem_of_mem hw
    rw [List.getElem_drop]
    simp only [List.length_drop] at hj
    exact hs i (i + 1 + j) hi (by omega) (by omega)
  unfold one
  rw [hd]
  simp only [m1.1, m1.2, m2.1, m2.2, Bool.and_true, decide_eq_true_eq]
  omega
theorem hasW_lt {h : G.api_Hist} (hr : right h = true) {t : G.api_Txn} (ht : t ∈ h.Txns) {k : Int} (hw : hasW t k = true) : 0 ≤ k ∧ k < 16 := by
  have key : ∀ (l : List G.api_Txn) (n : Nat), okAll h n l = true → ∀ t ∈ l, rising (-1) t.Writes = true := by
    intro l
    induction l with
    | nil => intro n _ t ht; cases ht
    | cons x l ih =>
      intro n hn t ht
      rw [show okAll h n (x :: l) = (okT h (n : Nat) x && okAll h (n + 1) l) from rfl, Bool.and_eq_true] at hn
      rcases List.mem_cons.1 ht with rfl | ht
      · have := hn.1
        simp only [okT, Bool.and_eq_true] at this
        exact this.1.1.1
      · exact ih _ hn.2 t ht
  have hri : rising (-1) t.Writes = true := by
    simp only [right, Bool.and_eq_true] at hr
    exact key _ 0 hr.2 t ht
  have bd : ∀ (l : List Int) (last : Int), rising last l = true → ∀ x ∈ l, last < x ∧ x < 16 := by
    intro l
    induction l with
    | nil => intro _ _ x hx; cases hx
    | cons y l ih =>
      intro last hl x hx
      rw [show rising last (y :: l) = (decide (last < y) && decide (y < 16) && rising y l) from rfl] at hl
      simp only [Bool.and_eq_true, decide_eq_true_eq] at hl
      rcases List.mem_cons.1 hx with rfl | hx
      · exact ⟨hl.1.1, hl.1.2⟩
      · have := ih _ hl.2 x hx; omega
  unfold hasW at hw
  simp only [List.any_eq_true, decide_eq_true_eq] at hw
  obtain ⟨x, hx, rfl⟩ := hw
  have := bd _ _ hri _ hx
  omega
theorem pairs_all {h : G.api_Hist} (hr : right h = true) {c : G.api_Choice} (hc : one h c = true) : c ∈ pairs h ∨ back c ∈ pairs h := by
  have mk : ∀ (K x y : Int), inr h x = true → inr h y = true → hasW (tx h x) K = true → hasW (tx h y) K = true → x < y → (⟨K, x, y⟩ : G.api_Choice) ∈ pairs h := by
    intro K x y hx hy wx wy hlt
    obtain ⟨k0, k1⟩ := hasW_lt hr (tx_mem hx) wx
    have ek : K = ((K.toNat : Nat) : Int) := by omega
    generalize K.toNat = k at ek
    subst ek
    have mx := (mem_writers hr).2 ⟨hx, wx⟩
    have my := (mem_writers hr).2 ⟨hy, wy⟩
    obtain ⟨i, hi, ei⟩ := List.getElem_of_mem mx
    obtain ⟨j, hj, ej⟩ := List.getElem_of_mem my
    have hs := writers_sorted (h := h) (key := (k : Int))
    rw [List.pairwise_iff_getElem] at hs
    have hij : i < j := by
      rcases Nat.lt_trichotomy i j with h1 | h1 | h1
      · exact h1
      · subst h1; omega
      · have := hs j i hj hi h1; omega
    unfold pairs pairsK pairsI
    simp only [List.mem_flatMap, List.mem_range, List.mem_map]
    refine ⟨k, by omega, i, hi, y, ?_, ?_⟩
    · rw [List.mem_iff_getElem]
      refine ⟨j - (i + 1), by simp; omega, ?_⟩
      rw [List.getElem_drop]
      rw [← ej]
      congr 1
      omega
    · have hd : (writers h (k : Int)).getD i 0 = (writers h (k : Int))[i] := by simp [List.getD, List.getElem?_eq_getElem hi]
      rw [hd, ei]
  simp only [one, Bool.and_eq_true, decide_eq_true_eq] at hc
  obtain ⟨⟨⟨⟨d, e⟩, f⟩, g⟩, k⟩ := hc
  by_cases hlt : c.A < c.B
  · exact .inl (mk c.Key c.A c.B e f g k hlt)
  · exact .inr (mk c.Key c.B c.A f e k g (by omega))

inductive Sel : List G.api_Choice → List G.api_Choice → Prop
  | nil : Sel [] []
  | so {x : G.api_Choice} {r s : List G.api_Choice} : Sel r s → Sel (x :: r) (x :: s)
  | not {x : G.api_Choice} {r s : List G.api_Choice} : Sel r s → Sel (x :: r) (back x :: s)
theorem Sel.len {r s : List G.api_Choice} (h : Sel r s) : s.length = r.length := by induction h <;> simp_all
theorem Sel.mem {r s : List G.api_Choice} (h : Sel r s) : ∀ c ∈ r, c ∈ s ∨ back c ∈ s := by
  induction h with
  | nil => intro c hc; cases hc
  | so _ ih =>
    intro c hc
    rcases List.mem_cons.1 hc with rfl | hc
    · exact .inl (List.mem_cons_self ..)
    · exact (ih c hc).imp (List.mem_cons_of_mem _) (List.mem_cons_of_mem _)
  | not _ ih =>
    intro c hc
    rcases List.mem_cons.1 hc with rfl | hc
    · exact .inr (List.mem_cons_self ..)
    · exact (ih c hc).imp (List.mem_cons_of_mem _) (List.mem_cons_of_mem _)
theorem Sel.all {r s : List G.api_Choice} (h : Sel r s) {p : G.api_Choice → Prop} (h1 : ∀ c ∈ r, p c) (h2 : ∀ c, p c → p (back c)) : ∀ c ∈ s, p c := by
  induction h with
  | nil => intro c hc; cases hc
  | so _ ih =>
    intro c hc
    rcases List.mem_cons.1 hc with rfl | hc
    · exact h1 _ (List.mem_cons_self ..)
    · exact ih (fun c hc => h1 c (List.mem_cons_of_mem _ hc)) c hc
  | not _ ih =>
    intro c hc
    rcases List.mem_cons.1 hc with rfl | hc
    · exact h2 _ (h1 _ (List.mem_cons_self ..))
    · exact ih (fun c hc => h1 c (List.mem_cons_of_mem _ hc)) c hc
theorem one_back {h : G.api_Hist} {c : G.api_Choice} (h1 : one h c = true) : one h (back c) = true := by
  simp only [one, back, Bool.and_eq_true, decide_eq_true_eq] at *
  obtain ⟨⟨⟨⟨d, e⟩, f⟩, g⟩, k⟩ := h1
  refine ⟨⟨⟨⟨?_, f⟩, e⟩, k⟩, g⟩
  exact decide_eq_true (fun h => d h.symm)
theorem back_back (c : G.api_Choice) : back (back c) = c := rfl
theorem rAll {h : G.api_Hist} (hf : Fits h) (hr : right h = true) (lev : Int) (c : G.api_Choice) : ∀ (rest l p : List G.api_Choice) (n : Nat), p.drop l.length = rest → l.length ≤ p.length → p.length ≤ 1000000 → rest.length < n → (∀ c ∈ p, one h c = true) → (∀ c ∈ l, one h c = true) →
    (∀ s, Sel rest s → good h lev (l ++ s) = true → c ∈ l ++ s) → G.inquestref22_all_n n h lev p l c = some true := by
  intro rest
  induction rest with
  | nil =>
    intro l p n hd hl hp hn hop hol hs
    obtain ⟨n, rfl⟩ : ∃ m, n = m + 1 := ⟨n - 1, by simp at hn; omega⟩
    have hlen : l.length = p.length := by
      have : (p.drop l.length).length = 0 := by rw [hd]; rfl
      simp at this; omega
    simp only [G.inquestref22_all_n, G.inquestref22_all_step, Sh.len, hlen, decide_true, if_true]
    rw [r18_Good hf hr lev (show l.length < 9223372036854775807 by omega) hol, rIn (by omega)]
    simp only [Option.bind_some]
    have := hs [] .nil
    rw [List.append_nil] at this
    cases hg : good h lev l with
    | false => simp
    | true =>
      have h1 : l.any (fun x => decide (c = x)) = true := by
        simp only [List.any_eq_true, decide_eq_true_eq]
        exact ⟨c, this hg, rfl⟩
      simp [h1]
  | cons x rest ih =>
    intro l p n hd hl hp hn hop hol hs
    obtain ⟨n, rfl⟩ : ∃ m, n = m + 1 := ⟨n - 1, by simp at hn; omega⟩
    have hlt : l.length < p.length := by
      have : (p.drop l.length).length = rest.length + 1 := by rw [hd]; rfl
      simp at this; omega
    have hx : p[l.length] = x ∧ p.drop (l.length + 1) = rest := by
      rw [List.drop_eq_getElem_cons hlt] at hd
      simp only [List.cons.injEq] at hd
      exact hd
    have hox : one h x = true := by rw [← hx.1]; exact hop _ (List.getElem_mem hlt)
    have hne : ¬ ((l.length : Int) = (p.length : Int)) := by omega
    have e1 : Sh.app 24 [] l = some l := by rw [app_ok (by simp; omega)]; rfl
    have e2 : Sh.app 24 l [x] = some (l ++ [x]) := app_ok (by simp; omega)
    have e3 : Sh.idx (l ++ [x]) (l.length : Int) = some x := by
      rw [idx_at (by simp)]; simp
    have e4 : Sh.set (l ++ [x]) (l.length : Int) (back x) = l ++ [back x] := by
      rw [set_at]; simp
    have i1 := ih (l ++ [x]) p n (by simp [hx.2]) (by simp; omega) hp (by simp at hn; omega) hop
      (fun c hc => by
        rcases List.mem_append.1 hc with h1 | h1
        · exact hol c h1
        · rw [List.mem_singleton.1 h1]; exact hox)
      (fun s h1 h2 => by
        have := hs (x :: s) (.so h1)
        simp only [List.append_assoc, List.singleton_append] at h2 ⊢
        exact this h2)
    have i2 := ih (l ++ [back x]) p n (by simp [hx.2]) (by simp; omega) hp (by simp at hn; omega) hop
      (fun c hc => by
        rcases List.mem_append.1 hc with h1 | h1
        · exact hol c h1
        · rw [List.mem_singleton.1 h1]; exact one_back hox)
      (fun s h1 h2 => by
        have := hs (back x :: s) (.not h1)
        simp only [List.append_assoc, List.singleton_append] at h2 ⊢
        exact this h2)
    simp only [G.inquestref22_all_n, G.inquestref22_all_step, Sh.len, hne, decide_false, Bool.false_eq_true, if_false, e1, Option.bind_some, idx_at hlt, hx.1, e2, i1, Bool.not_true, G.inquestref18_Back, show G.api_Choice.mk x.Key x.B x.A = back x from rfl, e3, e4, i2]
theorem rMust {h : G.api_Hist} (hf : Fits h) (hr : right h = true) (hn : h.Txns.length ≤ 64) (hp : (pairs h).length ≤ 1000000) {lev : Int} {c : G.api_Choice} (hs : ∀ s, Sel (pairs h) s → good h lev s = true → c ∈ s) : G.inquestref22_Must h lev c = some true := by
  unfold G.inquestref22_Must G.inquestref22_all
  rw [r09_Pairs hf hn]
  simp only [Option.bind_some]
  rw [rAll hf hr lev c (pairs h) [] (pairs h) Sh.FUEL rfl (Nat.zero_le _) hp (fuel_gt (by omega)) (fun c hc => pairs_one hr hc) (fun c hc => by cases hc) (fun s h1 h2 => by simpa using hs s h1 (by simpa using h2))]
  rfl
theorem must {h : G.api_Hist} (hf : Fits h) (hr : right h = true) (hp : (pairs h).length ≤ 1000000) {lev : Int} (hlev : lev = 0 ∨ lev = 1) {l : List G.fact_Fact} (hrep : replay h lev l = true) {f : G.fact_Fact} (hh : holds h lev l f = true) : G.inquestref22_Must h lev f.C = some true := by
  have hn : h.Txns.length ≤ 64 := by
    simp only [right, Bool.and_eq_true, decide_eq_true_eq] at hr; omega
  refine rMust hf hr hn hp fun s hsel hg => ?_
  have hs : ∀ c ∈ s, one h c = true := hsel.all (fun c hc => pairs_one hr hc) (fun c => one_back)
  have hall : ∀ c, one h c = true → c ∈ s ∨ back c ∈ s := fun c hc => by
    rcases pairs_all hr hc with h1 | h1
    · exact hsel.mem c h1
    · have := hsel.mem _ h1
      rw [back_back] at this
      exact this.symm
  exact sound hlev hs hall hg (sound_all hlev hs hall hg hrep) hh
end Pl
end

section
/- Law 22: facts as the reference sees them; what one more fact adds. -/
namespace Pl
open Go Go.Av

theorem dec_gt {α : Type} (l : List α) (n : Nat) : decide ((n : Int) < Sh.len l) = !decide (l.length ≤ n) := by
  by_cases h : l.length ≤ n <;> simp [h, Sh.len] <;> omega
end Pl
end

section
/- Law 22: what facts say must be so. -/
namespace Pl
open Go Go.Av

theorem rSmall {h : G.api_Hist} (hf : Fits h) (hn : h.Txns.length ≤ 64) {m p : Int} (hm : m < 9223372036854775807) : G.inquestref22_Small h m p = some (few h m && right h && decide (((pairs h).length : Int) ≤ p)) := by
  unfold G.inquestref22_Small
  rw [rFew hm, rRight hf, r09_Pairs hf hn]
  simp only [Option.bind_some]
  cases few h m <;> cases right h <;> rfl
theorem few_len {h : G.api_Hist} {m : Int} (hf : few h m = true) : (h.Txns.length : Int) ≤ m := by
  simp only [few, Bool.and_eq_true, decide_eq_true_eq] at hf; exact hf.1
end Pl
end

section
/- Trees in a row of nodes. -/
namespace Pl
open Go Go.Av

inductive Tree where
  | leaf (x : G.refute_Node)
  | br (x : G.refute_Node) (a b : Tree)
namespace Tree
def flat : Tree → List G.refute_Node
  | leaf x => [x]
  | br x a b => x :: (a.flat ++ b.flat)
def ok : Tree → Bool
  | leaf x => decide (0 < x.Cycle.length)
  | br x a b => decide (x.Cycle.length = 0) && a.ok && b.ok
def leaves : Tree → Nat
  | leaf _ => 1
  | br _ a b => a.leaves + b.leaves
def deep : Tree → Nat
  | leaf _ => 0
  | br _ a b => 1 + max a.deep b.deep
theorem flat_pos : ∀ t : Tree, 0 < t.flat.length
  | leaf _ => by simp [flat]
  | br _ _ _ => by simp [flat]
theorem leaves_le : ∀ t : Tree, t.leaves ≤ t.flat.length
  | leaf _ => by simp [flat, leaves]
  | br _ a b => by simp only [flat, leaves, List.length_cons, List.length_append]; have := leaves_le a; have := leaves_le b; omega
theorem deep_le : ∀ t : Tree, t.deep < t.flat.length
  | leaf _ => by simp [flat, deep]
  | br _ a b => by simp only [flat, deep, List.length_cons, List.length_append]; have := deep_le a; have := deep_le b; have := flat_pos a; have := flat_pos b; omega
end Tree

def parse : Nat → List G.refute_Node → Option (Tree × List G.refute_Node)
  | 0, _ => none
  | _ + 1, [] => none
  | n + 1, x :: l =>
    if 0 < x.Cycle.length then some (.leaf x, l)
    else match parse n l with
      | none => none
      | some (a, l1) => match parse n l1 with
        | none => none
        | some (b, l2) => some (.br x a b, l2)
theorem parse_spec : ∀ (n : Nat) {l r : List G.refute_Node} {t : Tree}, parse n l = some (t, r) → t.ok = true ∧ l = t.flat ++ r
  | 0, _, _, _, h => by cases h
  | _ + 1, [], _, _, h => by cases h
  | n + 1, x :: l, r, t, h => by
    simp only [parse] at h
    split at h
    · rename_i hx; cases h; simp [Tree.ok, Tree.flat, hx]
    · rename_i hx
      cases h1 : parse n l with
      | none => rw [h1] at h; cases h
      | some p =>
        obtain ⟨a, l1⟩ := p
        rw [h1] at h
        dsimp only at h
        cases h2 : parse n l1 with
        | none => rw [h2] at h; cases h
        | some q =>
          obtain ⟨b, l2⟩ := q
          rw [h2] at h
          cases h
          obtain ⟨a1, a2⟩ := parse_spec n h1
          obtain ⟨b1, b2⟩ := parse_spec n h2
          have hx0 : x.Cycle.length = 0 := by omega
          refine ⟨by simp only [Tree.ok, a1, b1, hx0, decide_true, Bool.and_self], ?_⟩
          rw [a2, b2]; simp [Tree.flat]
theorem parse_of : ∀ (t : Tree) (n : Nat) (r : List G.refute_Node), t.ok = true → t.flat.length ≤ n → parse n (t.flat ++ r) = some (t, r)
  | .leaf x, n, r, h, hn => by
    obtain ⟨n, rfl⟩ : ∃ m, n = m + 1 := ⟨n - 1, by simp [Tree.flat] at hn; omega⟩
    simp only [Tree.ok, decide_eq_true_eq] at h
    simp [Tree.flat, parse, h]
  | .br x a b, n, r, h, hn => by
    obtain ⟨n, rfl⟩ : ∃ m, n = m + 1 := ⟨n - 1, by simp [Tree.flat] at hn; omega⟩
    simp only [Tree.ok, Bool.and_eq_true, decide_eq_true_eq] at h
    simp only [Tree.flat, List.length_cons, List.length_append] at hn
    have h0 : ¬ 0 < x.Cycle.length := by omega
    simp only [Tree.flat, List.cons_append, List.append_assoc, parse, if_neg h0]
    rw [parse_of a n _ h.1.2 (by omega)]
    dsimp only
    rw [parse_of b n _ h.2 (by omega)]
theorem parse_eq {n m : Nat} {l : List G.refute_Node} (hn : l.length ≤ n) (hm : l.length ≤ m) : parse n l = parse m l := by
  have key : ∀ {n m : Nat}, l.length ≤ n → l.length ≤ m → ∀ p, parse n l = some p → parse m l = some p := fun {n m} hn hm p hp => by
    obtain ⟨t, r⟩ := p
    obtain ⟨h1, h2⟩ := parse_spec n hp
    have hl : t.flat.length ≤ m := by have := congrArg List.length h2; simp at this; omega
    have := parse_of t m r h1 hl
    rwa [← h2] at this
  cases h1 : parse n l with
  | some p => exact (key hn hm p h1).symm
  | none =>
    cases h2 : parse m l with
    | none => rfl
    | some p => rw [key hm hn p h2] at h1; cases h1
def whole (l : List G.refute_Node) : Option Tree :=
  match parse l.length l with
  | some (t, []) => some t
  | _ => none
theorem whole_spec {l : List G.refute_Node} {t : Tree} (h : whole l = some t) : t.ok = true ∧ l = t.flat := by
  unfold whole at h
  split at h
  · rename_i t' hp
    cases h
    have := parse_spec _ hp
    simpa using this
  · cases h

theorem gt0 {α : Type} (l : List α) : decide ((0 : Int) < Sh.len l) = decide (0 < l.length) := by
  by_cases h : 0 < l.length
  · simp [Sh.len, h]
  · simp [Sh.len, h]
theorem pNext (x : G.refute_Node) (l : List G.refute_Node) : G.refute_reader_next__1 ⟨x :: l⟩ = some (x, ⟨l⟩) := by
  unfold G.refute_reader_next__1
  have h0 : ¬ (Sh.len (x :: l)) = 0 := by simp [Sh.len]; omega
  have h1 : Sh.idx (x :: l) 0 = some x := by simp [Sh.idx]
  have h2 : Sh.sub (x :: l) 1 (Sh.len (x :: l)) = some l := by
    simp [Sh.sub, Sh.len]; omega
  show (if decide (Sh.len (x :: l) = 0) = true then none else _) = _
  rw [if_neg (by simp), h1, Option.bind_some, h2, Option.bind_some]
theorem pNext0 : G.refute_reader_next__1 ⟨[]⟩ = none := by simp [G.refute_reader_next__1, Sh.len]
theorem pShapeN : ∀ (n : Nat) (l : List G.refute_Node), l.length ≤ 4611686018427387904 → G.refute_reader_shape__1_n n ⟨l⟩ = (parse n l).map fun p => (⟨p.2⟩, (p.1.leaves : Int), (p.1.deep : Int))
  | 0, _, _ => rfl
  | n + 1, [], _ => by simp [G.refute_reader_shape__1_n, G.refute_reader_shape__1_step, pNext0, parse]
  | n + 1, x :: l, hl => by
    simp only [List.length_cons] at hl
    simp only [G.refute_reader_shape__1_n, G.refute_reader_shape__1_step, pNext, Option.bind_some, parse, gt0]
    by_cases hx : 0 < x.Cycle.length
    · simp [hx, Tree.leaves, Tree.deep]
    · simp only [hx, decide_false, Bool.false_eq_true, if_false]
      rw [pShapeN n l (by omega)]
      cases h1 : parse n l with
      | none => rfl
      | some p =>
        obtain ⟨a, l1⟩ := p
        obtain ⟨a1, a2⟩ := parse_spec n h1
        have e1 := congrArg List.length a2
        simp only [List.length_append] at e1
        simp only [Option.map_some, Option.bind_some]
        rw [pShapeN n l1 (by omega)]
        cases h2 : parse n l1 with
        | none => rfl
        | some q =>
          obtain ⟨b, l2⟩ := q
          obtain ⟨b1, b2⟩ := parse_spec n h2
          have e2 := congrArg List.length b2
          simp only [List.length_append] at e2
          have := a.leaves_le; have := b.leaves_le; have := a.deep_le; have := b.deep_le
          simp only [Option.map_some, Option.bind_some, Tree.leaves, Tree.deep]
          have w1 : w64 ((a.leaves : Int) + (b.leaves : Int)) = ((a.leaves + b.leaves : Nat) : Int) := by rw [w64_id (by omega) (by omega)]; omega
          have w2 : w64 (1 + Sh.max (a.deep : Int) (b.deep : Int)) = ((1 + max a.deep b.deep : Nat) : Int) := by
            have hm : Sh.max (a.deep : Int) (b.deep : Int) = ((max a.deep b.deep : Nat) : Int) := by
              simp only [Sh.max]; split <;> omega
            rw [hm, w64_id (by omega) (by omega)]; omega
          rw [w1, w2]
def shapeOf (l : List G.refute_Node) : Int × Int × Bool := match whole l with | some t => ((t.leaves : Int), (t.deep : Int), true) | none => (0, 0, false)
theorem shape_none {l : List G.refute_Node} (h : whole l = none) : shapeOf l = (0, 0, false) := by unfold shapeOf; rw [h]
theorem shape_some {l : List G.refute_Node} {t : Tree} (h : whole l = some t) : shapeOf l = ((t.leaves : Int), (t.deep : Int), true) := by unfold shapeOf; rw [h]
theorem pShape {l : List G.refute_Node} (hl : l.length ≤ 1000000) : G.refute_Shape l = some (shapeOf l) := by
  unfold G.refute_Shape
  rw [pShapeN _ _ (by omega), parse_eq (n := l.length + 1) (m := l.length) (by omega) (Nat.le_refl _)]
  unfold shapeOf whole
  cases h : parse l.length l with
  | none => rfl
  | some p =>
    obtain ⟨t, r⟩ := p
    cases r with
    | nil => simp [Sh.len]
    | cons y r =>
      simp only [Option.map_some, gt0]
      simp
end Pl
end

section
/- What a tree says of choices: the program, and the reference. -/
namespace Pl
open Go Go.Av

def Tree.held (h : G.api_Hist) (lev : Int) : Tree → List G.api_Choice → Bool
  | .leaf x, l => decide (x.C = ⟨0, 0, 0⟩) && ring h lev l x.Cycle
  | .br x a b, l => a.held h lev (l ++ [x.C]) && b.held h lev (l ++ [back x.C]) && one h x.C
def Slight (t : Tree) : Prop := ∀ x ∈ t.flat, x.Cycle.length < 9223372036854775808
theorem Slight.br {x : G.refute_Node} {a b : Tree} (h : Slight (.br x a b)) : Slight a ∧ Slight b :=
  ⟨fun y hy => h y (by simp [Tree.flat, hy]), fun y hy => h y (by simp [Tree.flat, hy])⟩

theorem pWr24 {h : G.api_Hist} (hf : Fits h) (x : Int) (c : G.api_Choice) : G.refute_choice_1__1 x h c = some (inr h x && hasW (tx h x) c.Key) := by
  unfold G.refute_choice_1__1
  by_cases hx : inr h x = true
  · obtain ⟨a, b⟩ := inr_iff.1 hx
    have := hf.writes _ (tx_mem hx)
    rw [if_pos (by simpa using a), if_pos (by simpa [Sh.len] using b), idx_tx hx, Option.bind_some, pHas (by omega), Option.bind_some, hx]
    rfl
  · have h1 : inr h x = false := by simpa using hx
    rw [h1]
    unfold inr at h1
    by_cases a : 0 ≤ x <;> by_cases b : x < (h.Txns.length : Int) <;> simp [a, b, Sh.len] at h1 ⊢
theorem pOne24 {h : G.api_Hist} (hf : Fits h) (c : G.api_Choice) : G.refute_choice h c = some (one h c) := by
  unfold G.refute_choice one
  rw [pWr24 hf, pWr24 hf]
  simp only [Option.bind_some]
  by_cases a : c.A = c.B
  · simp [a]
  · simp only [a, ne_eq, not_false_eq_true, decide_true, if_true, Bool.true_and]
    cases inr h c.A <;> cases hasW (tx h c.A) c.Key <;> cases inr h c.B <;> cases hasW (tx h c.B) c.Key <;> rfl
theorem pClip (l : List G.api_Choice) : G.slices_Clip_api_Choice_api_Choice l = some l := by
  simp [G.slices_Clip_api_Choice_api_Choice, Sh.sub, Sh.len]
theorem pHeldN {h : G.api_Hist} (hf : Fits h) (lev : Int) : ∀ (t : Tree) (n : Nat) (l : List G.api_Choice) (r : List G.refute_Node), t.ok = true → t.flat.length ≤ n → l.length + t.deep ≤ 1000000 → Slight t →
    G.refute_reader_held__1_n n h lev l ⟨t.flat ++ r⟩ = some (⟨r⟩, t.held h lev l)
  | .leaf x, n, l, r, hok, hn, hl, hs => by
    obtain ⟨n, rfl⟩ : ∃ m, n = m + 1 := ⟨n - 1, by simp [Tree.flat] at hn; omega⟩
    simp only [Tree.ok] at hok
    have hx := hs x (by simp [Tree.flat])
    simp only [Tree.deep] at hl
    simp only [Tree.flat, List.singleton_append, G.refute_reader_held__1_n, G.refute_reader_held__1_step, pNext, Option.bind_some, gt0, hok, if_true, Tree.held]
    rw [pCycle hf (show l.length < 9223372036854775807 by omega) lev hx]
    by_cases hc : x.C = ⟨0, 0, 0⟩ <;> simp [hc]
  | .br x a b, n, l, r, hok, hn, hl, hs => by
    obtain ⟨n, rfl⟩ : ∃ m, n = m + 1 := ⟨n - 1, by simp [Tree.flat] at hn; omega⟩
    simp only [Tree.ok, Bool.and_eq_true, decide_eq_true_eq] at hok
    simp only [Tree.flat, List.length_cons, List.length_append] at hn
    simp only [Tree.deep] at hl
    have h0 : decide (0 < x.Cycle.length) = false := by simp [hok.1.1]
    have i1 := pHeldN hf lev a n (l ++ [x.C]) (b.flat ++ r) hok.1.2 (by omega) (by simp; omega) hs.br.1
    have i2 := pHeldN hf lev b n (l ++ [back x.C]) r hok.2 (by omega) (by simp; omega) hs.br.2
    have e1 : Sh.app 24 l [x.C] = some (l ++ [x.C]) := app_ok (by simp; omega)
    have e2 : Sh.app 24 l [back x.C] = some (l ++ [back x.C]) := app_ok (by simp; omega)
    simp only [Tree.flat, List.cons_append, List.append_assoc, G.refute_reader_held__1_n, G.refute_reader_held__1_step, pNext, Option.bind_some, gt0, h0, Bool.false_eq_true, if_false, pClip, e1, i1, G.refute_back, show G.api_Choice.mk x.C.Key x.C.B x.C.A = back x.C from rfl, e2, i2, pOne24 hf, Tree.held]
    cases a.held h lev (l ++ [x.C]) <;> cases b.held h lev (l ++ [back x.C]) <;> simp
def check (h : G.api_Hist) (lev : Int) (l : List G.api_Choice) (tree : List G.refute_Node) : Bool :=
  match whole tree with
  | some t => may h lev && t.held h lev l
  | none => false
def SmallTree (tree : List G.refute_Node) : Prop := tree.length ≤ 1000 ∧ ∀ x ∈ tree, x.Cycle.length < 9223372036854775808
theorem pCheck {h : G.api_Hist} (hf : Fits h) (lev : Int) {l : List G.api_Choice} (hl : l.length ≤ 1000) {tree : List G.refute_Node} (ht : SmallTree tree) : G.refute_Check h lev l tree = some (check h lev l tree) := by
  unfold G.refute_Check check
  rw [pShape (by have := ht.1; omega), pRight hf]
  simp only [Option.bind_some]
  cases hw : whole tree with
  | none => simp [G.refute_Check_j1, shape_none hw]
  | some t =>
    rw [shape_some hw]
    obtain ⟨h1, h2⟩ := whole_spec hw
    have hd := t.deep_le
    have hlen := congrArg List.length h2
    have key : G.refute_reader_held__1 h lev l ⟨tree⟩ = some (⟨[]⟩, t.held h lev l) := by
      have := pHeldN hf lev t Sh.FUEL l [] h1 (Nat.le_of_lt (fuel_gt (by have := ht.1; omega))) (by have := ht.1; omega) (fun x hx => ht.2 x (by rw [h2]; exact hx))
      rw [List.append_nil, ← h2] at this
      exact this
    simp only [Bool.not_true, Bool.false_eq_true, if_false, may]
    cases right h with
    | false => simp [G.refute_Check_j1]
    | true =>
      by_cases a : lev = 0
      · simp [a, G.refute_Check_j1] at key ⊢
        rw [key]; rfl
      · by_cases b : lev = 1
        · simp [b, G.refute_Check_j1] at key ⊢
          rw [key]; rfl
        · simp [a, b, G.refute_Check_j1]

end Pl
end

section
/- Law 24: trees that refute. -/
namespace Pl
open Go Go.Av

theorem awake24 : G.inquestlaw24_awake = some true := by kernel_rfl
def few24 (x : G.inquestlaw24_Case) (m : Int) (n : Nat) : Bool :=
  few x.H m && decide (x.L.length ≤ 40) && decide (x.Tree.length ≤ n) && x.Tree.all (fun f => decide (f.Cycle.length ≤ 40))
theorem rFew24 (x : G.inquestlaw24_Case) {m : Int} (hm : m < 9223372036854775807) {n : Nat} (hn : n ≤ 1000) : G.inquestlaw24_few x m (n : Int) = some (few24 x m n) := by
  unfold G.inquestlaw24_few few24
  rw [rFew hm]
  simp only [Option.bind_some]
  have hj : x.Tree.length ≤ n → ∀ b, G.inquestlaw24_few_j1 x b = some (!b && x.Tree.all (fun f => decide (f.Cycle.length ≤ 40))) := fun hl b => by
    unfold G.inquestlaw24_few_j1
    cases b
    · simp only [Bool.false_eq_true, if_false]
      rw [any_loop x.Tree (fun f => !decide (f.Cycle.length ≤ 40)) false (some true) (fuel_gt (by omega)) (fun k hk => ?_) ?_]
      · rw [List.any_eq_not_all_not]
        simp only [Bool.not_not]
        cases x.Tree.all (fun f => decide (f.Cycle.length ≤ 40)) <;> rfl
      · simp [G.inquestlaw24_few_b1, G.inquestlaw24_few_j2]
      · have := dec_gt (x.Tree[k]).Cycle 40
        simp only [G.inquestlaw24_few_b1, dec_lt, hk, decide_true, if_true, idx_at hk, Option.bind_some, w64_succ (show k < 9223372036854775807 by omega), Sh.exit, Sh.next, Option.map_some]
        rw [show ((40 : Int)) = ((40 : Nat) : Int) from rfl, this]
    · simp
  cases few x.H m with
  | false => simp [G.inquestlaw24_few_j1]
  | true =>
    have d1 : decide ((40 : Int) < Sh.len x.L) = !decide (x.L.length ≤ 40) := dec_gt x.L 40
    have d2 : decide ((n : Int) < Sh.len x.Tree) = !decide (x.Tree.length ≤ n) := dec_gt x.Tree n
    by_cases hl : x.L.length ≤ 40
    · by_cases ht : x.Tree.length ≤ n
      · simp [d1, d2, hl, ht, hj ht]
      · simp [d1, d2, hl, ht, G.inquestlaw24_few_j1]
    · simp [d1, hl, G.inquestlaw24_few_j1]
theorem few24_small {x : G.inquestlaw24_Case} {m : Int} {n : Nat} (hn : n ≤ 400) (h : few24 x m n = true) : few x.H m = true ∧ x.L.length ≤ 40 ∧ x.Tree.length ≤ n ∧ SmallTree x.Tree := by
  simp only [few24, Bool.and_eq_true, decide_eq_true_eq, List.all_eq_true] at h
  obtain ⟨⟨⟨a, b⟩, c⟩, d⟩ := h
  exact ⟨a, b, c, by omega, fun y hy => by have := d y hy; omega⟩
end Pl
end

section
/- Law 24: what a tree refutes. -/
namespace Pl
open Go Go.Av

theorem held_ring {h : G.api_Hist} {lev : Int} {s : List G.api_Choice} (hall : ∀ c, one h c = true → c ∈ s ∨ back c ∈ s) : ∀ (t : Tree) {l : List G.api_Choice}, (∀ c ∈ l, c ∈ s) → t.held h lev l = true → ∃ row, ring h lev s row = true
  | .leaf x, l, hs, hh => by
    simp only [Tree.held, Bool.and_eq_true] at hh
    exact ⟨x.Cycle, ring_sub hs hh.2⟩
  | .br x a b, l, hs, hh => by
    simp only [Tree.held, Bool.and_eq_true] at hh
    have key : ∀ c : G.api_Choice, c ∈ s → ∀ d ∈ l ++ [c], d ∈ s := fun c hc d hd => by
      rcases List.mem_append.1 hd with h | h
      · exact hs d h
      · rw [List.mem_singleton.1 h]; exact hc
    rcases hall _ hh.2 with hc | hc
    · exact held_ring hall a (key _ hc) hh.1.1
    · exact held_ring hall b (key _ hc) hh.1.2
theorem held_bad {h : G.api_Hist} {lev : Int} {s : List G.api_Choice} (hall : ∀ c, one h c = true → c ∈ s ∨ back c ∈ s) {t : Tree} (hh : t.held h lev [] = true) : good h lev s = false := by
  obtain ⟨row, hr⟩ := held_ring hall t (fun c hc => by cases hc) hh
  have hw := ring_way hr
  unfold good
  rw [cyc_iff.2 hw]
  rfl
theorem rSome {h : G.api_Hist} (hf : Fits h) (hr : right h = true) (lev : Int) : ∀ (rest l p : List G.api_Choice) (n : Nat), p.drop l.length = rest → l.length ≤ p.length → p.length ≤ 1000000 → rest.length < n → (∀ c ∈ p, one h c = true) → (∀ c ∈ l, one h c = true) →
    (∀ s, Sel rest s → good h lev (l ++ s) = false) → G.inquestref21_some_n n h lev p l = some false := by
  intro rest
  induction rest with
  | nil =>
    intro l p n hd hl hp hn hop hol hs
    obtain ⟨n, rfl⟩ : ∃ m, n = m + 1 := ⟨n - 1, by simp at hn; omega⟩
    have hlen : l.length = p.length := by
      have : (p.drop l.length).length = 0 := by rw [hd]; rfl
      simp at this; omega
    simp only [G.inquestref21_some_n, G.inquestref21_some_step, Sh.len, hlen, decide_true, if_true]
    rw [r18_Good hf hr lev (show l.length < 9223372036854775807 by omega) hol]
    have := hs [] .nil
    rw [List.append_nil] at this
    rw [this]; rfl
  | cons x rest ih =>
    intro l p n hd hl hp hn hop hol hs
    obtain ⟨n, rfl⟩ : ∃ m, n = m + 1 := ⟨n - 1, by simp at hn; omega⟩
    have hlt : l.length < p.length := by
      have : (p.drop l.length).length = rest.length + 1 := by rw [hd]; rfl
      simp at this; omega
    have hx : p[l.length] = x ∧ p.drop (l.length + 1) = rest := by
      rw [List.drop_eq_getElem_cons hlt] at hd
      simp only [List.cons.injEq] at hd
      exact hd
    have hox : one h x = true := by rw [← hx.1]; exact hop _ (List.getElem_mem hlt)
    have hne : ¬ ((l.length : Int) = (p.length : Int)) := by omega
    have e1 : Sh.app 24 [] l = some l := by rw [app_ok (by simp; omega)]; rfl
    have e2 : Sh.app 24 l [x] = some (l ++ [x]) := app_ok (by simp; omega)
    have e3 : Sh.idx (l ++ [x]) (l.length : Int) = some x := by
      rw [idx_at (by simp)]; simp
    have e4 : Sh.set (l ++ [x]) (l.length : Int) (back x) = l ++ [back x] := by
      rw [set_at]; simp
    have i1 := ih (l ++ [x]) p n (by simp [hx.2]) (by simp; omega) hp (by simp at hn; omega) hop
      (fun c hc => by
        rcases List.mem_append.1 hc with h1 | h1
        · exact hol c h1
        · rw [List.mem_singleton.1 h1]; exact hox)
      (fun s h1 => by
        have := hs (x :: s) (.so h1)
        simpa only [List.append_assoc, List.singleton_append] using this)
    have i2 := ih (l ++ [back x]) p n (by simp [hx.2]) (by simp; omega) hp (by simp at hn; omega) hop
      (fun c hc => by
        rcases List.mem_append.1 hc with h1 | h1
        · exact hol c h1
        · rw [List.mem_singleton.1 h1]; exact one_back hox)
      (fun s h1 => by
        have := hs (back x :: s) (.not h1)
        simpa only [List.append_assoc, List.singleton_append] using this)
    simp only [G.inquestref21_some_n, G.inquestref21_some_step, Sh.len, hne, decide_false, Bool.false_eq_true, if_false, e1, Option.bind_some, idx_at hlt, hx.1, e2, i1, G.inquestref18_Back, show G.api_Choice.mk x.Key x.B x.A = back x from rfl, e3, e4, i2]
theorem RefuteSound (x : G.inquestlaw24_Case) : G.inquestlaw24_RefuteSound x = some true := by
  unfold G.inquestlaw24_RefuteSound
  rw [awake24, show (200 : Int) = ((200 : Nat) : Int) from rfl, rFew24 x (by omega) (by omega)]
  simp only [Option.bind_some, Bool.not_true, Bool.false_eq_true, if_false]
  cases hF : few24 x 5 200 with
  | false => rfl
  | true =>
    obtain ⟨h1, h2, h3, h4⟩ := few24_small (by omega) hF
    have hf := few_fits (by omega) h1
    have hlen := few_len h1
    simp only [Bool.not_true, Bool.false_eq_true, if_false]
    rw [rSmall hf (by omega) (by omega)]
    simp only [Option.bind_some]
    cases hs : few x.H 5 && right x.H && decide (((pairs x.H).length : Int) ≤ 6) with
    | false => simp [G.inquestlaw24_RefuteSound_j1]
    | true =>
      simp only [Bool.and_eq_true, decide_eq_true_eq] at hs
      have hr := hs.1.2
      have main : check x.H x.Level [] x.Tree = true → G.inquestref21_Has x.H x.Level = some false := fun hc => by
        unfold check at hc
        cases hw : whole x.Tree with
        | none => rw [hw] at hc; cases hc
        | some t =>
          rw [hw] at hc
          simp only [Bool.and_eq_true] at hc
          unfold G.inquestref21_Has G.inquestref21_some
          rw [r09_Pairs hf (by omega)]
          simp only [Option.bind_some]
          rw [rSome hf hr x.Level (pairs x.H) [] (pairs x.H) Sh.FUEL rfl (Nat.zero_le _) (by omega) (fuel_gt (by omega)) (fun c hc => pairs_one hr hc) (fun c hc => by cases hc) (fun s hsel => ?_)]
          · rfl
          · rw [List.nil_append]
            refine held_bad (fun c hc => ?_) hc.2
            rcases pairs_all hr hc with h1 | h1
            · exact hsel.mem c h1
            · have := hsel.mem _ h1
              rw [back_back] at this
              exact this.symm
      have key : ∀ b : Bool, b = check x.H x.Level [] x.Tree → G.inquestlaw24_RefuteSound_j1 x (!b) = some true := fun b hb => by
        subst hb
        cases hc : check x.H x.Level [] x.Tree with
        | false => rfl
        | true =>
          simp only [G.inquestlaw24_RefuteSound_j1, Bool.not_true, Bool.false_eq_true, if_false, main hc, Option.bind_some]
          rfl
      simp only [Bool.not_true, Bool.false_eq_true, if_false]
      rw [pCheck hf _ (by simp) h4]
      simp only [Option.bind_some, key _ rfl]
      by_cases a : x.Level = 0
      · simp [a]
      · by_cases b : x.Level = 1
        · simp [b]
        · simp [a, b, G.inquestlaw24_RefuteSound_j1]
end Pl
end
