/- What the plain functions answer. -/
import Derived.Test.YtfgndjgcfkfobaaBase1
import Derived.Test.YtfgndjgcfkfobaaSh
import Derived.KernelRfl
set_option linter.unusedSimpArgs false
set_option linter.unusedVariables false
section
/- What is used to reason about the plain functions. -/
namespace Pl
open Go Go.Av

theorem w64_id {n : Int} (h1 : -9223372036854775808 ≤ n) (h2 : n < 9223372036854775808) : w64 n = n := i64_wrap h1 h2
theorem idx_at {α : Type} {l : List α} {k : Nat} (h : k < l.length) : Sh.idx l (k : Int) = some l[k] := by
  simp [Sh.idx, h]
theorem idx_of {α : Type} {l : List α} {i : Int} (h0 : 0 ≤ i) (h : i < l.length) : Sh.idx l i = some (l[i.toNat]'(by omega)) := by
  unfold Sh.idx
  rw [if_pos h0]
  exact List.getElem?_eq_getElem (by omega)
theorem app_ok {α : Type} {b : Nat} {l m : List α} (h : (l.length + m.length) * b ≤ 140737488355328) : Sh.app b l m = some (l ++ m) := by
  simp [Sh.app, h]
theorem sub_ok {α : Type} {l : List α} {m k : Nat} (h1 : m ≤ k) (h2 : k ≤ l.length) : Sh.sub l (m : Int) (k : Int) = some ((l.drop m).take (k - m)) := by
  unfold Sh.sub
  rw [if_pos ⟨by omega, by omega, by omega⟩]
  simp
/-- The same, with nothing beside the counter. -/
theorem count0 {α : Type} {b : Int → Option (Int ⊕ α)} (m : Nat) (r : α) (hm : m < Sh.FUEL) (h : ∀ k, k < m → b (k : Int) = some (.inl ((k + 1 : Nat) : Int))) (hr : b (m : Int) = some (.inr r)) : Sh.loop b 0 = some r :=
  Sh.loop_run (fun k => (k : Int)) m r hm h hr
theorem fuel_gt {n : Nat} (h : n < 9223372036854775808) : n < Sh.FUEL := h
theorem w64_succ {k : Nat} (h : k < 9223372036854775807) : w64 ((k : Int) + 1) = ((k + 1 : Nat) : Int) := by
  rw [w64_id (by omega) (by omega)]; omega
theorem len_eq {α : Type} (l : List α) : Sh.len l = (l.length : Int) := rfl
theorem dec_lt {k n : Nat} : decide ((k : Int) < (n : Int)) = decide (k < n) := by
  congr 1; exact propext (by omega)
end Pl
namespace Pl
open Go Go.Av
end Pl
namespace Pl
open Go Go.Av
/-- Rounds one by one, and then what comes behind the loop. -/
theorem run_exit {σ α : Type} {b : σ → Option (σ ⊕ α)} (S : Nat → σ) (m : Nat) (X : Option α) (hm : m < Sh.FUEL) (h : ∀ k, k < m → b (S k) = some (.inl (S (k + 1)))) (hr : b (S m) = Sh.exit X) {s : σ} (hs : s = S 0) : Sh.loop b s = X := by
  subst hs
  unfold Sh.loop
  rw [show Sh.FUEL = m + ((Sh.FUEL - m - 1) + 1) by omega, Sh.iter_go S m h]
  simp only [Sh.iter, hr]
  cases X <;> rfl
theorem count_exit {σ α : Type} {b : σ × Int → Option ((σ × Int) ⊕ α)} (S : Nat → σ) (m : Nat) (X : Option α) (hm : m < Sh.FUEL) (h : ∀ k, k < m → b (S k, (k : Int)) = some (.inl (S (k + 1), ((k + 1 : Nat) : Int)))) (hr : b (S m, (m : Int)) = Sh.exit X) {s : σ} (hs : s = S 0) :
    Sh.loop b (s, 0) = X := run_exit (fun k => (S k, (k : Int))) m X hm h hr (by rw [hs]; rfl)
end Pl
end

section
/- Loops over lists. -/
namespace Pl
open Go Go.Av

/-- What a loop over a list does that may be left early: by each element a state turns, or an answer is there. -/
def foldE {σ α β : Type} (step : Nat → σ → α → σ ⊕ β) (X : σ → Option β) : Nat → List α → σ → Option β
  | _, [], s => X s
  | k, x :: l, s => match step k s x with
    | .inl s' => foldE step X (k + 1) l s'
    | .inr r => some r

theorem loop_step {σ β : Type} {b : σ → Option (σ ⊕ β)} {n : Nat} {s s' : σ} (h : b s = some (.inl s')) : Sh.iter b (n + 1) s = Sh.iter b n s' := by simp [Sh.iter, h]
theorem loop_stop {σ β : Type} {b : σ → Option (σ ⊕ β)} {n : Nat} {s : σ} {r : β} (h : b s = some (.inr r)) : Sh.iter b (n + 1) s = some r := by simp [Sh.iter, h]
theorem loop_exit {σ β : Type} {b : σ → Option (σ ⊕ β)} {n : Nat} {s : σ} {X : Option β} (h : b s = Sh.exit X) : Sh.iter b (n + 1) s = X := by cases X <;> simp [Sh.iter, h, Sh.exit]

theorem iter_fold {σ τ α β : Type} {b : τ → Option (τ ⊕ β)} (S : σ → Nat → τ) (step : Nat → σ → α → σ ⊕ β) (X : σ → Option β) (l0 : List α)
    (h : ∀ (k : Nat) (s : σ) (hk : k < l0.length), b (S s k) = match step k s l0[k] with | .inl s' => some (.inl (S s' (k + 1))) | .inr r => some (.inr r))
    (he : ∀ s, b (S s l0.length) = Sh.exit (X s)) : ∀ (l : List α) (k n : Nat) (s : σ), l0.drop k = l → k ≤ l0.length → l.length < n → Sh.iter b n (S s k) = foldE step X k l s := by
  intro l
  induction l with
  | nil =>
    intro k n s hl hk hn
    have hk2 : k = l0.length := by
      have : (l0.drop k).length = 0 := by rw [hl]; rfl
      simp at this; omega
    subst hk2
    obtain ⟨n, rfl⟩ : ∃ m, n = m + 1 := ⟨n - 1, by simp at hn; omega⟩
    exact loop_exit (he s)
  | cons x l ih =>
    intro k n s hl hk hn
    have hlen : (l0.drop k).length = l.length + 1 := by rw [hl]; rfl
    have hk2 : k < l0.length := by simp at hlen; omega
    obtain ⟨n, rfl⟩ : ∃ m, n = m + 1 := ⟨n - 1, by simp at hn; omega⟩
    have hx : l0[k] = x ∧ l0.drop (k + 1) = l := by
      rw [List.drop_eq_getElem_cons hk2] at hl
      simp only [List.cons.injEq] at hl
      exact hl
    have hb := h k s hk2
    rw [hx.1] at hb
    simp only [foldE]
    cases hs : step k s x with
    | inl s' =>
      rw [hs] at hb
      rw [loop_step hb]
      exact ih (k + 1) n s' hx.2 hk2 (by simp at hn; omega)
    | inr r =>
      rw [hs] at hb
      exact loop_stop hb

theorem loop_fold {σ τ α β : Type} {b : τ → Option (τ ⊕ β)} (S : σ → Nat → τ) (step : Nat → σ → α → σ ⊕ β) (X : σ → Option β) (l : List α) (hm : l.length < Sh.FUEL)
    (h : ∀ (k : Nat) (s : σ) (hk : k < l.length), b (S s k) = match step k s l[k] with | .inl s' => some (.inl (S s' (k + 1))) | .inr r => some (.inr r))
    (he : ∀ s, b (S s l.length) = Sh.exit (X s)) (s : σ) {t : τ} (ht : t = S s 0) : Sh.loop b t = foldE step X 0 l s := by
  subst ht
  exact iter_fold S step X l h he l 0 Sh.FUEL s rfl (Nat.zero_le _) hm

/-- A loop that looks for the first element of a kind. -/
theorem find_loop {α β : Type} {b : Int → Option (Int ⊕ β)} (l : List α) (p : α → Bool) (A : Nat → β) (X : Option β) (hm : l.length < Sh.FUEL)
    (h : ∀ (k : Nat) (hk : k < l.length), b (k : Int) = if p l[k] then some (.inr (A k)) else some (.inl ((k + 1 : Nat) : Int)))
    (he : b (l.length : Int) = Sh.exit X) : Sh.loop b 0 = (l.findIdx? p).elim X (fun k => some (A k)) := by
  rw [loop_fold (σ := Unit) (α := α) (fun _ k => (k : Int)) (fun k _ x => if p x then .inr (A k) else .inl ()) (fun _ => X) l hm (fun k s hk => ?_) (fun _ => he) () (t := (0 : Int)) rfl]
  · have key : ∀ (l : List α) (k : Nat), foldE (fun k (_ : Unit) x => if p x then Sum.inr (A k) else Sum.inl ()) (fun _ => X) k l () = (l.findIdx? p).elim X (fun i => some (A (k + i))) := by
      intro l
      induction l with
      | nil => intro k; simp [foldE]
      | cons x l ih =>
        intro k
        simp only [foldE, List.findIdx?_cons]
        cases hp : p x with
        | true => simp
        | false =>
          simp only [Bool.false_eq_true, if_false]
          rw [ih (k + 1)]
          cases l.findIdx? p with
          | none => rfl
          | some i => simp only [Option.map_some, Option.elim_some]; congr 2; omega
    rw [key l 0]
    simp
  · rw [h k hk]
    cases p l[k] <;> rfl

/-- A loop that asks whether there is an element of a kind. -/
theorem any_loop {α β : Type} {b : Int → Option (Int ⊕ β)} (l : List α) (p : α → Bool) (A : β) (X : Option β) (hm : l.length < Sh.FUEL)
    (h : ∀ (k : Nat) (hk : k < l.length), b (k : Int) = if p l[k] then some (.inr A) else some (.inl ((k + 1 : Nat) : Int)))
    (he : b (l.length : Int) = Sh.exit X) : Sh.loop b 0 = if l.any p then some A else X := by
  rw [find_loop l p (fun _ => A) X hm h he]
  cases hf : l.findIdx? p with
  | none =>
    have : l.any p = false := by
      rw [List.findIdx?_eq_none_iff] at hf
      rw [List.any_eq_false]
      intro x hx
      simpa using hf x hx
    rw [this]; rfl
  | some i =>
    have : l.any p = true := by
      rw [List.any_eq_true]
      rw [List.findIdx?_eq_some_iff_getElem] at hf
      obtain ⟨hi, hp, _⟩ := hf
      exact ⟨l[i], List.getElem_mem hi, hp⟩
    rw [this]; rfl

/-- Where the first one stands; -1: nowhere. -/
def pos {α : Type} (l : List α) (p : α → Bool) : Int := (l.findIdx? p).elim (-1) (fun k => (k : Int))
theorem pos_some {α : Type} (l : List α) (p : α → Bool) : (l.findIdx? p).elim (some (-1 : Int)) (fun k => some (k : Int)) = some (pos l p) := by unfold pos; cases l.findIdx? p <;> rfl
theorem contains_of_find {α : Type} (l : List α) (p : α → Bool) : decide ((0 : Int) ≤ pos l p) = l.any p := by
  unfold pos
  cases hf : l.findIdx? p with
  | none =>
    have : l.any p = false := by
      rw [List.findIdx?_eq_none_iff] at hf
      rw [List.any_eq_false]
      intro x hx
      simpa using hf x hx
    rw [this]; rfl
  | some i =>
    have : l.any p = true := by
      rw [List.any_eq_true]
      rw [List.findIdx?_eq_some_iff_getElem] at hf
      obtain ⟨hi, hp, _⟩ := hf
      exact ⟨l[i], List.getElem_mem hi, hp⟩
    rw [this]; simp
end Pl
end

section
/- Whether a history may be. -/
namespace Pl
open Go Go.Av

theorem pIdx {l : List Int} (hl : l.length < 9223372036854775808) (v : Int) : G.slices_Index_int_int l v = some (pos l (fun x => decide (v = x))) := by
  unfold G.slices_Index_int_int
  rw [find_loop l (fun x => decide (v = x)) (fun k => (k : Int)) (some (-1)) (fuel_gt hl) (fun k hk => ?_) ?_, pos_some]
  · simp [G.slices_Index_int_int_b1, G.slices_Index_int_int_j1]
  · simp only [G.slices_Index_int_int_b1, dec_lt, hk, decide_true, if_true, idx_at hk, Option.bind_some, w64_succ (show k < 9223372036854775807 by omega)]
    rfl
theorem pHas {l : List Int} (hl : l.length < 9223372036854775808) (v : Int) : G.slices_Contains_int_int l v = some (l.any (fun x => decide (v = x))) := by
  unfold G.slices_Contains_int_int
  rw [pIdx hl, Option.bind_some, contains_of_find]

/-- The numbers rise, from one on, and lie below 16. -/
def rising : Int → List Int → Bool
  | _, [] => true
  | last, x :: l => decide (last < x) && decide (x < 16) && rising x l
def hasW (t : G.api_Txn) (k : Int) : Bool := t.Writes.any (fun x => decide (k = x))
def there (h : G.api_Hist) (n : Int) (x : G.api_Take) : Bool :=
  decide (x.From = -1) || (decide (0 ≤ x.From) && decide (x.From < (h.Txns.length : Int)) && decide (x.From ≠ n) && match h.Txns[x.From.toNat]? with | some t => hasW t x.Key | none => false)
def takes (h : G.api_Hist) (n : Int) : Int → List G.api_Take → Bool
  | _, [] => true
  | last, x :: l => decide (last < x.Key) && decide (x.Key < 16) && there h n x && takes h n x.Key l
def okT (h : G.api_Hist) (n : Int) (t : G.api_Txn) : Bool := rising (-1) t.Writes && takes h n (-1) t.Reads && decide (0 ≤ t.Session) && decide (t.Session < 8)
def okAll (h : G.api_Hist) : Nat → List G.api_Txn → Bool
  | _, [] => true
  | n, t :: l => okT h n t && okAll h (n + 1) l
def right (h : G.api_Hist) : Bool := decide (h.Txns.length ≤ 32) && okAll h 0 h.Txns

/-- Nothing is too long for a number. -/
structure Fits (h : G.api_Hist) : Prop where
  txns : h.Txns.length < 9223372036854775807
  writes : ∀ t ∈ h.Txns, t.Writes.length < 9223372036854775807
  reads : ∀ t ∈ h.Txns, t.Reads.length < 9223372036854775807

theorem y1 (c y : Bool) : G.hist_Right__r c y = some (if y then (c, true) else (false, false)) := by cases y <;> rfl

theorem pThere {h : G.api_Hist} (hf : Fits h) (n : Int) (x : G.api_Take) {α : Type} (K : Bool → Option α) :
    (if decide (x.From = (-1)) then K true else if decide ((0 : Int) ≤ x.From) then if decide (x.From < (Sh.len h.Txns)) then if decide (x.From ≠ n) then (Sh.idx h.Txns x.From).bind fun x840 => (G.slices_Contains_int_int x840.Writes x.Key).bind fun r842 => K r842 else K false else K false else K false) = K (there h n x) := by
  unfold there
  by_cases h1 : x.From = -1
  · simp [h1]
  · by_cases h2 : 0 ≤ x.From
    · by_cases h3 : x.From < (h.Txns.length : Int)
      · by_cases h4 : x.From = n
        · subst h4; simp [h1, h2, h3]
        · have h5 : h.Txns[x.From.toNat]? = some (h.Txns[x.From.toNat]'(by omega)) := List.getElem?_eq_getElem (by omega)
          rw [idx_of h2 h3, h5]
          have := hf.writes _ (List.getElem_mem (show x.From.toNat < h.Txns.length by omega))
          have h6 := pHas (l := (h.Txns[x.From.toNat]'(by omega)).Writes) (by omega) x.Key
          simp [h1, h2, h3, h4, h6, hasW]
      · simp [h1, h2, h3]
    · simp [h1, h2]

theorem pReads {h : G.api_Hist} (hf : Fits h) (n : Int) (t : G.api_Txn) (ht : t ∈ h.Txns) (c : Bool) : G.hist_faults_1__hist_Right__r_j2 h n t c = if takes h n (-1) t.Reads then G.hist_faults_1__hist_Right__r_j3 n t c else some (.inr (false, false)) := by
  unfold G.hist_faults_1__hist_Right__r_j2
  have hl := hf.reads t ht
  rw [loop_fold (σ := Bool × Int) (fun s k => (s.1, s.2, (k : Int))) (fun _ s x => if decide (s.2 < x.Key) && decide (x.Key < 16) && there h n x then .inl (s.1, x.Key) else .inr (.inr (false, false))) (fun s => G.hist_faults_1__hist_Right__r_j3 n t s.1) t.Reads (fuel_gt (by omega)) (fun k s hk => ?_) (fun s => ?_) (c, -1) (t := (c, (-1 : Int), (0 : Int))) rfl]
  · have key : ∀ (l : List G.api_Take) (k : Nat) (last : Int), foldE (fun _ (s : Bool × Int) (x : G.api_Take) => if decide (s.2 < x.Key) && decide (x.Key < 16) && there h n x then Sum.inl (s.1, x.Key) else Sum.inr (.inr (false, false))) (fun s => G.hist_faults_1__hist_Right__r_j3 n t s.1) k l (c, last) = if takes h n last l then G.hist_faults_1__hist_Right__r_j3 n t c else some (.inr (false, false)) := by
      intro l
      induction l with
      | nil => intro k last; simp [foldE, takes]
      | cons x l ih =>
        intro k last
        simp only [foldE]
        rw [show takes h n last (x :: l) = (decide (last < x.Key) && decide (x.Key < 16) && there h n x && takes h n x.Key l) from rfl]
        by_cases hq : (decide (last < x.Key) && decide (x.Key < 16) && there h n x) = true
        · rw [if_pos hq, hq, Bool.true_and]; exact ih (k + 1) x.Key
        · rw [if_neg hq, Bool.eq_false_iff.2 hq]; simp
    exact key t.Reads 0 (-1)
  · obtain ⟨c, last⟩ := s
    simp only [G.hist_faults_1__hist_Right__r_b2, dec_lt, hk, decide_true, if_true, idx_at hk, Option.bind_some]
    rw [pThere hf n t.Reads[k] (fun b => G.hist_faults_1__hist_Right__r_j4 c last k t.Reads[k] b)]
    simp only [G.hist_faults_1__hist_Right__r_j4, y1, G.hist_faults_1__hist_Right__r_j5, w64_succ (show k < 9223372036854775807 by omega), Option.bind_some]
    by_cases h1 : last < t.Reads[k].Key
    · by_cases h2 : t.Reads[k].Key < 16
      · cases h3 : there h n t.Reads[k] <;> simp [h1, h2, Sh.exit, Sh.next]
      · simp [h1, h2, Sh.exit]
    · simp [h1, Sh.exit]
  · simp [G.hist_faults_1__hist_Right__r_b2]

theorem pWrites {h : G.api_Hist} (hf : Fits h) (n : Nat) (hn : n < 9223372036854775807) (t : G.api_Txn) (ht : t ∈ h.Txns) (c : Bool) :
    Sh.loop (fun (p : Bool × Int × Int) => G.hist_faults_1__hist_Right__r_b3 h n t p.1 p.2.1 p.2.2) (c, (-1), 0) = if okT h n t then some (.inl (c, ((n + 1 : Nat) : Int))) else some (.inr (false, false)) := by
  have hl := hf.writes t ht
  rw [loop_fold (σ := Bool × Int) (fun s k => (s.1, s.2, (k : Int))) (fun _ s x => if decide (s.2 < x) && decide (x < 16) then .inl (s.1, x) else .inr (.inr (false, false))) (fun s => G.hist_faults_1__hist_Right__r_j2 h n t s.1) t.Writes (fuel_gt (by omega)) (fun k s hk => ?_) (fun s => ?_) (c, -1) (t := (c, (-1 : Int), (0 : Int))) rfl]
  · have key : ∀ (l : List Int) (k : Nat) (last : Int), foldE (fun _ (s : Bool × Int) (x : Int) => if decide (s.2 < x) && decide (x < 16) then Sum.inl (s.1, x) else Sum.inr (.inr (false, false))) (fun s => G.hist_faults_1__hist_Right__r_j2 h n t s.1) k l (c, last) = if rising last l then G.hist_faults_1__hist_Right__r_j2 h n t c else some (.inr (false, false)) := by
      intro l
      induction l with
      | nil => intro k last; simp [foldE, rising]
      | cons x l ih =>
        intro k last
        simp only [foldE]
        rw [show rising last (x :: l) = (decide (last < x) && decide (x < 16) && rising x l) from rfl]
        by_cases hq : (decide (last < x) && decide (x < 16)) = true
        · rw [if_pos hq, hq, Bool.true_and]; exact ih (k + 1) x
        · rw [if_neg hq, Bool.eq_false_iff.2 hq]; simp
    rw [key t.Writes 0 (-1), pReads hf n t ht]
    unfold okT
    cases h1 : rising (-1) t.Writes
    · simp
    · cases h2 : takes h n (-1) t.Reads
      · simp
      · simp only [G.hist_faults_1__hist_Right__r_j3, y1, G.hist_faults_1__hist_Right__r_j1, w64_succ hn, Option.bind_some]
        by_cases h3 : 0 ≤ t.Session
        · by_cases h4 : t.Session < 8 <;> simp [h3, h4, Sh.exit, Sh.next]
        · simp [h3, Sh.exit]
  · obtain ⟨c, last⟩ := s
    simp only [G.hist_faults_1__hist_Right__r_b3, dec_lt, hk, decide_true, if_true, idx_at hk, Option.bind_some, y1, G.hist_faults_1__hist_Right__r_j6, w64_succ (show k < 9223372036854775807 by omega)]
    by_cases h1 : last < t.Writes[k]
    · by_cases h2 : t.Writes[k] < 16 <;> simp [h1, h2, Sh.exit, Sh.next]
    · simp [h1, Sh.exit]
  · simp [G.hist_faults_1__hist_Right__r_b3]

theorem pRight {h : G.api_Hist} (hf : Fits h) : G.hist_Right h = some (right h) := by
  have hl := hf.txns
  have hloop : ∀ c, Sh.loop (fun (p : Bool × Int) => G.hist_faults_1__hist_Right__r_b1 h p.1 p.2) (c, 0) = if okAll h 0 h.Txns then some (c, true) else some (false, false) := by
    intro c
    rw [loop_fold (σ := Bool) (fun s k => (s, (k : Int))) (fun k s x => if okT h k x then .inl s else .inr (false, false)) (fun s => some (s, true)) h.Txns (fuel_gt (by omega)) (fun k s hk => ?_) (fun s => ?_) c (t := (c, (0 : Int))) rfl]
    · have key : ∀ (l : List G.api_Txn) (k : Nat), foldE (fun k (s : Bool) (x : G.api_Txn) => if okT h (k : Nat) x then Sum.inl s else Sum.inr (false, false)) (fun s => some (s, true)) k l c = if okAll h k l then some (c, true) else some (false, false) := by
        intro l
        induction l with
        | nil => intro k; simp [foldE, okAll]
        | cons x l ih =>
          intro k
          simp only [foldE]
          rw [show okAll h k (x :: l) = (okT h (k : Nat) x && okAll h (k + 1) l) from rfl]
          by_cases hq : okT h (k : Nat) x = true
          · rw [if_pos hq, hq, Bool.true_and]; exact ih (k + 1)
          · rw [if_neg hq, Bool.eq_false_iff.2 hq]; simp
      exact key h.Txns 0
    · simp only [G.hist_faults_1__hist_Right__r_b1, dec_lt, hk, decide_true, if_true, idx_at hk, Option.bind_some]
      rw [pWrites hf k (by omega) _ (List.getElem_mem hk)]
      cases okT h k h.Txns[k] <;> rfl
    · simp [G.hist_faults_1__hist_Right__r_b1]
  unfold G.hist_Right G.hist_faults G.hist_faults_1__hist_Right__r right
  simp only [Option.bind_some, y1, len_eq]
  by_cases h1 : h.Txns.length ≤ 32
  · have h2 : ((h.Txns.length : Int) ≤ 32) := by omega
    simp only [h1, h2, decide_true, if_true, hloop, Bool.true_and]
    cases okAll h 0 h.Txns <;> simp
  · have h2 : ¬ ((h.Txns.length : Int) ≤ 32) := by omega
    simp [h1, h2]

/-! ### The reference -/
theorem rWrites {t : G.api_Txn} (hl : t.Writes.length < 9223372036854775807) (k : Int) : G.inquestref08_Writes t k = some (hasW t k) := by
  unfold G.inquestref08_Writes hasW
  rw [any_loop t.Writes (fun x => decide (k = x)) true (some false) (fuel_gt (by omega)) (fun i hi => ?_) ?_]
  · cases t.Writes.any (fun x => decide (k = x)) <;> rfl
  · simp [G.inquestref08_Writes_b1, G.inquestref08_Writes_j1]
  · simp only [G.inquestref08_Writes_b1, dec_lt, hi, decide_true, if_true, idx_at hi, Option.bind_some, w64_succ (show i < 9223372036854775807 by omega), Sh.exit, Sh.next, Option.map_some]
    by_cases h1 : t.Writes[i] = k
    · simp [h1]
    · have : ¬ k = t.Writes[i] := fun h => h1 h.symm
      simp [h1, this]
end Pl
end

section
/- Edges, one by one: what the program and the reference answer. -/



namespace Pl
open Go Go.Av

def tx (h : G.api_Hist) (x : Int) : G.api_Txn := (h.Txns[x.toNat]?).getD default
def inr (h : G.api_Hist) (x : Int) : Bool := decide (0 ≤ x) && decide (x < (h.Txns.length : Int))
theorem inr_iff {h : G.api_Hist} {x : Int} : inr h x = true ↔ 0 ≤ x ∧ x < (h.Txns.length : Int) := by simp [inr]
theorem idx_tx {h : G.api_Hist} {x : Int} (hx : inr h x = true) : Sh.idx h.Txns x = some (tx h x) := by
  rw [inr_iff] at hx
  rw [idx_of hx.1 hx.2]
  simp [tx, List.getElem?_eq_getElem (show x.toNat < h.Txns.length by omega)]
theorem tx_mem {h : G.api_Hist} {x : Int} (hx : inr h x = true) : tx h x ∈ h.Txns := by
  rw [inr_iff] at hx
  simp only [tx, List.getElem?_eq_getElem (show x.toNat < h.Txns.length by omega), Option.getD_some]
  exact List.getElem_mem _

/-! ### What edges are -/
def isW (h : G.api_Hist) (x y : Int) (c : G.api_Choice) : Bool := decide (c.A = x) && decide (c.B = y) && decide (x ≠ y) && hasW (tx h x) c.Key && hasW (tx h y) c.Key
def dirS (h : G.api_Hist) (l : List G.api_Choice) (x y : Int) : Bool :=
  (decide (x < y) && decide ((tx h x).Session = (tx h y).Session)) || (tx h y).Reads.any (fun r => decide (r.From = x)) || l.any (isW h x y)
def isO (h : G.api_Hist) (l : List G.api_Choice) (y : Int) (r : G.api_Take) : Bool :=
  hasW (tx h y) r.Key && (decide (r.From < 0) || (decide (r.From ≠ y) && l.any (fun c => decide (G.api_Choice.mk r.Key r.From y = c))))
def antS (h : G.api_Hist) (l : List G.api_Choice) (x y : Int) : Bool := decide (x ≠ y) && (tx h x).Reads.any (isO h l y)
def two (h : G.api_Hist) (x y : Int) : Bool := right h && inr h x && inr h y
def direct (h : G.api_Hist) (l : List G.api_Choice) (x y : Int) : Bool := two h x y && dirS h l x y
def anti (h : G.api_Hist) (l : List G.api_Choice) (x y : Int) : Bool := two h x y && antS h l x y
def edge (h : G.api_Hist) (lev : Int) (l : List G.api_Choice) (x y : Int) : Bool :=
  if lev = 0 then direct h l x y || anti h l x y
  else if lev = 1 then (List.range h.Txns.length).any (fun m => direct h l x m && (decide ((m : Int) = y) || anti h l m y))
  else false
/-! ### The program -/
end Pl
end

section
/- Rings of edges, and what the reference answers of edges. -/
namespace Pl
open Go Go.Av

/-! ### The reference -/
end Pl
end

section
/- The reference's word on histories: whether one may be, and whether it is small. -/
namespace Pl
open Go Go.Av

/-- The same, asked at each place. -/
def step {α : Type} (key : α → Int) (ok : α → Bool) (l : List α) (k : Nat) : Bool :=
  match l[k]? with
  | none => true
  | some x => decide (0 ≤ key x) && decide (key x < 16) && ok x && (decide (k = 0) || match l[k - 1]? with | none => true | some y => decide (key y < key x))
theorem w64_pred {k : Nat} (h0 : 0 < k) (h : k < 9223372036854775807) : w64 ((k : Int) - 1) = ((k - 1 : Nat) : Int) := by
  rw [w64_id (by omega) (by omega)]; omega
/-! ### Small histories -/
theorem dec_len_gt {α : Type} (l : List α) : decide ((20 : Int) < Sh.len l) = !decide (l.length ≤ 20) := by
  by_cases h : l.length ≤ 20 <;> simp [h, Sh.len] <;> omega
def few (h : G.api_Hist) (m : Int) : Bool := decide ((h.Txns.length : Int) ≤ m) && h.Txns.all (fun t => decide (t.Writes.length ≤ 20) && decide (t.Reads.length ≤ 20))
theorem rFew {h : G.api_Hist} {m : Int} (hm : m < 9223372036854775807) : G.inquestref08_Few h m = some (few h m) := by
  unfold G.inquestref08_Few few
  by_cases h1 : (h.Txns.length : Int) ≤ m
  · have h2 : ¬ m < (h.Txns.length : Int) := by omega
    simp only [Sh.len, h2, decide_false, Bool.false_eq_true, if_false, h1, decide_true, Bool.true_and]
    rw [any_loop h.Txns (fun t => !(decide (t.Writes.length ≤ 20) && decide (t.Reads.length ≤ 20))) false (some true) (fuel_gt (by omega)) (fun k hk => ?_) ?_]
    · rw [List.any_eq_not_all_not]
      simp only [Bool.not_not]
      cases h.Txns.all (fun t => decide (t.Writes.length ≤ 20) && decide (t.Reads.length ≤ 20)) <;> rfl
    · simp [G.inquestref08_Few_b1, G.inquestref08_Few_j1]
    · simp only [G.inquestref08_Few_b1, dec_lt, hk, decide_true, if_true, idx_at hk, Option.bind_some, dec_len_gt, G.inquestref08_Few_j2, w64_succ (show k < 9223372036854775807 by omega), Sh.exit, Sh.next, Option.map_some]
      by_cases a : (h.Txns[k]).Writes.length ≤ 20 <;> by_cases b : (h.Txns[k]).Reads.length ≤ 20 <;> simp [a, b]
  · have h2 : m < (h.Txns.length : Int) := by omega
    simp [Sh.len, h2, h1]
theorem few_fits {h : G.api_Hist} {m : Int} (hm : m < 9223372036854775807) (hf : few h m = true) : Fits h := by
  simp only [few, Bool.and_eq_true, decide_eq_true_eq, List.all_eq_true] at hf
  exact ⟨by omega, fun t ht => by have := (hf.2 t ht).1; omega, fun t ht => by have := (hf.2 t ht).2; omega⟩
end Pl
end

section
/- Law 19, first half: edges as the reference sees them; what one more choice adds. -/

namespace Pl
open Go Go.Av

/-! ### One choice more -/
def one (h : G.api_Hist) (c : G.api_Choice) : Bool := decide (c.A ≠ c.B) && inr h c.A && inr h c.B && hasW (tx h c.A) c.Key && hasW (tx h c.B) c.Key
end Pl
end

section
/- Facts: what follows from what; the program's answer and the reference's. -/


namespace Pl
open Go Go.Av

def back (c : G.api_Choice) : G.api_Choice := ⟨c.Key, c.B, c.A⟩
def may (h : G.api_Hist) (lev : Int) : Bool := right h && (decide (lev = 0) || decide (lev = 1))
/-! ### The program -/
/-! ### What more facts add -/
/-! ### The reference -/
end Pl
end

section
/- Sets of numbers as bits: the program's functions, and the reference's, say the same. -/


namespace Pl
open Go Go.Av

/-! ### The reference -/
end Pl
namespace Pl
open Go Go.Av
end Pl
end

section
/- Graphs as rows of bits: the program's functions and the reference's, over the edges. -/


namespace Pl
open Go Go.Av

/-- A row of a graph of n nodes. -/
def row : Nat → (Nat → Bool) → BitVec 64
  | 0, _ => 0#64
  | n + 1, p => if p n then row n p ||| (1#64 <<< n) else row n p
def rows (n : Nat) (f : Nat → Nat → Bool) : List (BitVec 64) := (List.range n).map fun x => row n (f x)
@[simp] theorem rows_len (n : Nat) (f : Nat → Nat → Bool) : (rows n f).length = n := by simp [rows]
/-! ### The program's -/
/-! ### Rows turned one by one -/
/-! ### A row that gathers -/
/-! ### All edges -/
end Pl
end

section
/- The reference's graphs. -/
namespace Pl
open Go Go.Av

/-! ### Loops over the nodes that lay edges -/
end Pl
namespace Pl
open Go Go.Av
end Pl
end

section
/- Where ways lead. -/


namespace Pl
open Go Go.Av

/-- A way: an edge, or an edge and a way behind it. -/
inductive Way (n : Nat) (f : Nat → Nat → Bool) : Nat → Nat → Prop
  | edge {x y : Nat} : x < n → y < n → f x y = true → Way n f x y
  | cons {x y z : Nat} : x < n → y < n → f x y = true → Way n f y z → Way n f x z

theorem Way.trans {n : Nat} {f : Nat → Nat → Bool} {x y z : Nat} (h : Way n f x y) (k : Way n f y z) : Way n f x z := by
  induction h with
  | edge hx hy hf => exact .cons hx hy hf k
  | cons hx hy hf _ ih => exact .cons hx hy hf (ih k)
theorem Way.left {n : Nat} {f : Nat → Nat → Bool} {x y : Nat} (h : Way n f x y) : x < n := by cases h <;> assumption
theorem Way.right {n : Nat} {f : Nat → Nat → Bool} {x y : Nat} (h : Way n f x y) : y < n := by
  induction h with
  | edge _ hy _ => exact hy
  | cons _ _ _ _ ih => exact ih
theorem Way.mono {n : Nat} {f h : Nat → Nat → Bool} (hm : ∀ x y, x < n → y < n → f x y = true → Way n h x y) {x y : Nat} (w : Way n f x y) : Way n h x y := by
  induction w with
  | edge hx hy hf => exact hm _ _ hx hy hf
  | cons hx hy hf _ ih => exact (hm _ _ hx hy hf).trans ih
/-- A way's last edge. -/
theorem Way.last {n : Nat} {f : Nat → Nat → Bool} {x z : Nat} (h : Way n f x z) : ∃ y, y < n ∧ f y z = true ∧ (y = x ∨ Way n f x y) := by
  induction h with
  | edge hx hy hf => exact ⟨_, hx, hf, .inl rfl⟩
  | cons hx hy hf _ ih =>
    obtain ⟨y, h1, h2, h3⟩ := ih
    refine ⟨y, h1, h2, .inr ?_⟩
    rcases h3 with rfl | h3
    · exact .edge hx hy hf
    · exact .cons hx hy hf h3

end Pl
end

section
/- The statements on graphs. -/

namespace Pl
open Go Go.Av

end Pl
end

section
/- The statements on where ways lead. -/

namespace Pl
open Go Go.Av

/-! ### The reference -/
/-! ### The statements -/
end Pl
end

section
/- The reference's graphs of a history: what must come ahead of what. -/


namespace Pl
open Go Go.Av

theorem inr_nat {h : G.api_Hist} {x : Nat} : inr h (x : Int) = true ↔ x < h.Txns.length := by rw [inr_iff]; omega
theorem idx_nat {h : G.api_Hist} {x : Nat} (hx : x < h.Txns.length) : Sh.idx h.Txns (x : Int) = some (tx h x) := idx_tx (inr_nat.2 hx)
theorem tx_in {h : G.api_Hist} {x : Nat} (hx : x < h.Txns.length) : tx h x ∈ h.Txns := tx_mem (inr_nat.2 hx)
/-! ### Choices -/
theorem one_nat {h : G.api_Hist} {c : G.api_Choice} (h1 : one h c = true) : ∃ a b : Nat, c.A = (a : Int) ∧ c.B = (b : Int) ∧ a < h.Txns.length ∧ b < h.Txns.length ∧ a ≠ b ∧ hasW (tx h a) c.Key = true ∧ hasW (tx h b) c.Key = true := by
  simp only [one, Bool.and_eq_true, decide_eq_true_eq] at h1
  obtain ⟨⟨⟨⟨d, e⟩, f⟩, g⟩, k⟩ := h1
  have e' := inr_iff.1 e
  have f' := inr_iff.1 f
  have ea : c.A = ((c.A.toNat : Nat) : Int) := by omega
  have eb : c.B = ((c.B.toNat : Nat) : Int) := by omega
  refine ⟨c.A.toNat, c.B.toNat, ea, eb, by omega, by omega, by omega, ?_, ?_⟩
  · rw [← ea]; exact g
  · rw [← eb]; exact k
/-! ### All together -/
end Pl
end

section
/- What follows must be so: whoever chooses all pairs, and lets nothing lead back, chooses it too. -/
namespace Pl
open Go Go.Av

end Pl
end

section
/- All pairs, and all ways to choose them. -/

namespace Pl
open Go Go.Av

def writers (h : G.api_Hist) (key : Int) : List Int := if right h then ((List.range h.Txns.length).filter fun t : Nat => hasW (tx h t) key).map fun t : Nat => (t : Int) else []
theorem writers_len {h : G.api_Hist} {key : Int} : (writers h key).length ≤ h.Txns.length := by
  unfold writers
  split
  · have := List.length_filter_le (fun t : Nat => hasW (tx h t) key) (List.range h.Txns.length); simpa using this
  · simp
theorem mem_writers {h : G.api_Hist} (hr : right h = true) {key x : Int} : x ∈ writers h key ↔ inr h x = true ∧ hasW (tx h x) key = true := by
  unfold writers
  rw [if_pos hr]
  simp only [List.mem_map, List.mem_filter, List.mem_range]
  constructor
  · rintro ⟨t, ⟨h1, h2⟩, rfl⟩; exact ⟨inr_nat.2 h1, h2⟩
  · rintro ⟨h1, h2⟩
    obtain ⟨a, b⟩ := inr_iff.1 h1
    refine ⟨x.toNat, ⟨by omega, ?_⟩, by omega⟩
    rw [show ((x.toNat : Nat) : Int) = x by omega]; exact h2
theorem writers_sorted {h : G.api_Hist} {key : Int} : (writers h key).Pairwise (· < ·) := by
  unfold writers
  split
  · rw [List.pairwise_map]
    refine List.Pairwise.imp (R := fun a b : Nat => a < b) (fun {a b} hab => by omega) ?_
    exact List.Pairwise.filter _ List.pairwise_lt_range
  · exact .nil

def pairsI (key : Int) (ws : List Int) (i : Nat) : List G.api_Choice := (ws.drop (i + 1)).map fun w => ⟨key, ws.getD i 0, w⟩
def pairsK (key : Int) (ws : List Int) : List G.api_Choice := (List.range ws.length).flatMap (pairsI key ws)
def pairs (h : G.api_Hist) : List G.api_Choice := (List.range 16).flatMap fun k : Nat => pairsK k (writers h k)
theorem flat_len {α : Type} (f : Nat → List α) (b : Nat) (hb : ∀ k, (f k).length ≤ b) : ∀ n, ((List.range n).flatMap f).length ≤ n * b := by
  intro n
  induction n with
  | zero => simp
  | succ n ih =>
    rw [List.range_succ, List.flatMap_append, List.length_append]
    have := hb n
    simp only [List.flatMap_cons, List.flatMap_nil, List.append_nil]
    rw [Nat.add_mul, Nat.one_mul]; omega
theorem pairsI_len (key : Int) (ws : List Int) (i : Nat) : (pairsI key ws i).length ≤ ws.length := by simp [pairsI]
theorem pairsK_len (key : Int) (ws : List Int) : (pairsK key ws).length ≤ ws.length * ws.length := flat_len _ _ (pairsI_len key ws) _
theorem flat_succ {α : Type} (f : Nat → List α) (k : Nat) : (List.range (k + 1)).flatMap f = (List.range k).flatMap f ++ f k := by
  rw [List.range_succ, List.flatMap_append]; simp
theorem pairs_one {h : G.api_Hist} (hr : right h = true) {c : G.api_Choice} (hc : c ∈ pairs h) : one h c = true := by
  unfold pairs pairsK pairsI at hc
  simp only [List.mem_flatMap, List.mem_range, List.mem_map] at hc
  obtain ⟨k, hk, i, hi, w, hw, rfl⟩ := hc
  have hd : (writers h (k : Int)).getD i 0 = (writers h (k : Int))[i] := by simp [List.getD, List.getElem?_eq_getElem hi]
  have m1 := (mem_writers hr).1 (List.getElem_mem hi)
  have m2 := (mem_writers hr).1 (List.mem_of_mem_drop hw)
  have hlt : (writers h (k : Int))[i] < w := by
    have hs := writers_sorted (h := h) (key := (k : Int))
    rw [List.pairwise_iff_getElem] at hs
    obtain ⟨j, hj, rfl⟩ := List.getElem_of_mem hw
    rw [List.getElem_drop]
    simp only [List.length_drop] at hj
    exact hs i (i + 1 + j) hi (by omega) (by omega)
  unfold one
  rw [hd]
  simp only [m1.1, m1.2, m2.1, m2.2, Bool.and_true, decide_eq_true_eq]
  omega
/-! ### All ways to choose -/
inductive Sel : List G.api_Choice → List G.api_Choice → Prop
  | nil : Sel [] []
  | so {x : G.api_Choice} {r s : List G.api_Choice} : Sel r s → Sel (x :: r) (x :: s)
  | not {x : G.api_Choice} {r s : List G.api_Choice} : Sel r s → Sel (x :: r) (back x :: s)
theorem Sel.len {r s : List G.api_Choice} (h : Sel r s) : s.length = r.length := by induction h <;> simp_all
theorem Sel.mem {r s : List G.api_Choice} (h : Sel r s) : ∀ c ∈ r, c ∈ s ∨ back c ∈ s := by
  induction h with
  | nil => intro c hc; cases hc
  | so _ ih =>
    intro c hc
    rcases List.mem_cons.1 hc with rfl | hc
    · exact .inl (List.mem_cons_self ..)
    · exact (ih c hc).imp (List.mem_cons_of_mem _) (List.mem_cons_of_mem _)
  | not _ ih =>
    intro c hc
    rcases List.mem_cons.1 hc with rfl | hc
    · exact .inr (List.mem_cons_self ..)
    · exact (ih c hc).imp (List.mem_cons_of_mem _) (List.mem_cons_of_mem _)
theorem Sel.all {r s : List G.api_Choice} (h : Sel r s) {p : G.api_Choice → Prop} (h1 : ∀ c ∈ r, p c) (h2 : ∀ c, p c → p (back c)) : ∀ c ∈ s, p c := by
  induction h with
  | nil => intro c hc; cases hc
  | so _ ih =>
    intro c hc
    rcases List.mem_cons.1 hc with rfl | hc
    · exact h1 _ (List.mem_cons_self ..)
    · exact ih (fun c hc => h1 c (List.mem_cons_of_mem _ hc)) c hc
  | not _ ih =>
    intro c hc
    rcases List.mem_cons.1 hc with rfl | hc
    · exact h2 _ (h1 _ (List.mem_cons_self ..))
    · exact ih (fun c hc => h1 c (List.mem_cons_of_mem _ hc)) c hc
end Pl
end

section
/- What is left of sorted numbers when what comes twice is left out. -/
namespace Pl
open Go Go.Av

/-- Rising rows of the same members are the same. -/
theorem asc_ext : ∀ {a b : List Int}, a.Pairwise (· < ·) → b.Pairwise (· < ·) → (∀ x, x ∈ a ↔ x ∈ b) → a = b
  | [], [], _, _, _ => rfl
  | [], y :: b, _, _, h => absurd ((h y).2 (List.mem_cons_self ..)) (by simp)
  | x :: a, [], _, _, h => absurd ((h x).1 (List.mem_cons_self ..)) (by simp)
  | x :: a, y :: b, ha, hb, h => by
    rw [List.pairwise_cons] at ha hb
    have hxy : x = y := by
      rcases List.mem_cons.1 ((h x).1 (List.mem_cons_self ..)) with e | e
      · exact e
      · rcases List.mem_cons.1 ((h y).2 (List.mem_cons_self ..)) with e2 | e2
        · exact e2.symm
        · have h1 := hb.1 x e
          have h2 := ha.1 y e2
          omega
    subst hxy
    have : a = b := asc_ext ha.2 hb.2 fun z => ⟨fun hz => by
      rcases List.mem_cons.1 ((h z).1 (List.mem_cons_of_mem _ hz)) with e | e
      · subst e; have := ha.1 z hz; omega
      · exact e, fun hz => by
      rcases List.mem_cons.1 ((h z).2 (List.mem_cons_of_mem _ hz)) with e | e
      · subst e; have := hb.1 z hz; omega
      · exact e⟩
    rw [this]

theorem compact_mem (l : List Int) (x : Int) : x ∈ Lib.compact l ↔ x ∈ l := by
  unfold Lib.compact Lib.compactUpTo
  simp only [List.mem_map, List.mem_filter, List.mem_range]
  constructor
  · rintro ⟨j, ⟨hj, _⟩, rfl⟩
    simp [hj]
  · intro hx
    obtain ⟨i, hi, hix⟩ := List.getElem_of_mem hx
    have hex : ∃ i, i < l.length ∧ l.toArray[i]! = x := ⟨i, hi, by simp [hi, hix]⟩
    obtain ⟨k, ⟨hk, hkx⟩, hmin⟩ := exists_least _ hex
    refine ⟨k, ⟨hk, ?_⟩, hkx⟩
    unfold Lib.keeps
    rw [decide_eq_true_eq]
    by_cases h0 : k = 0
    · exact .inl h0
    · refine .inr fun he => ?_
      have := hmin (k - 1) ⟨by omega, by rw [← he]; exact hkx⟩
      omega
theorem compact_sorted (l : List Int) (hs : l.Pairwise (· ≤ ·)) : (Lib.compact l).Pairwise (· < ·) := by
  unfold Lib.compact Lib.compactUpTo
  rw [List.pairwise_map]
  refine List.Pairwise.imp_of_mem (R := fun a b : Nat => a < b) (fun {a b} ha hb hab => ?_) (List.Pairwise.filter _ List.pairwise_lt_range)
  simp only [List.mem_filter, List.mem_range] at ha hb
  have hk := hb.2
  unfold Lib.keeps at hk
  rw [decide_eq_true_eq] at hk
  have hk2 := hk.resolve_left (by omega)
  have e1 : l.toArray[a]! = l[a] := by simp [ha.1]
  have e2 : l.toArray[b]! = l[b] := by simp [hb.1]
  have e3 : l.toArray[b - 1]! = l[b - 1]'(by omega) := by simp [show b - 1 < l.length by omega]
  rw [e2, e3] at hk2
  rw [e1, e2]
  have le : ∀ i j (hi : i < l.length) (hj : j < l.length), i ≤ j → l[i] ≤ l[j] := fun i j hi hj hij => by
    rcases Nat.lt_or_ge i j with h | h
    · exact List.pairwise_iff_getElem.1 hs i j hi hj h
    · have : i = j := by omega
      subst this; exact Int.le_refl _
  have h1 := le a (b - 1) (by omega) (by omega) (by omega)
  have h2 := le (b - 1) b (by omega) hb.1 (by omega)
  omega
/-- Sorted, and each once: the one rising row of these numbers. -/
theorem sort_compact (l r : List Int) (hr : r.Pairwise (· < ·)) (hm : ∀ x, x ∈ r ↔ x ∈ l) : Lib.compact (l.mergeSort fun x y => decide (x ≤ y)) = r := by
  refine asc_ext (compact_sorted _ ?_) hr fun x => ?_
  · have h := List.pairwise_mergeSort (le := fun x y : Int => decide (x ≤ y)) (fun a b c h1 h2 => by simp at h1 h2 ⊢; omega) (fun a b => by simp; omega) l
    exact h.imp fun {a b} hab => by simpa using hab
  · rw [compact_mem, List.mem_mergeSort, hm]
theorem sort_ok {l : List Int} (h : l.length < 4611686018427387904) : Sh.sort l = some (l.mergeSort fun x y => decide (x ≤ y)) := by rw [← Sh.isort_eq]; exact if_pos h
theorem compact_ok {l : List Int} (h : l.length < 4611686018427387904) : Sh.compact l = some (Lib.compact l) := if_pos h
end Pl
end

section
/- Who writes, and who reads, each key: what the program answers. -/
namespace Pl
open Go Go.Av

theorem right_le {h : G.api_Hist} (hr : right h = true) : h.Txns.length ≤ 32 := by
  simp only [right, Bool.and_eq_true, decide_eq_true_eq] at hr; exact hr.1
theorem right_txn {h : G.api_Hist} (hr : right h = true) {t : G.api_Txn} (ht : t ∈ h.Txns) : ∃ n : Int, okT h n t = true := by
  simp only [right, Bool.and_eq_true] at hr
  have key : ∀ (l : List G.api_Txn) (n : Nat), okAll h n l = true → ∀ t ∈ l, ∃ n : Int, okT h n t = true := by
    intro l
    induction l with
    | nil => intro n _ t ht; cases ht
    | cons x l ih =>
      intro n hn t ht
      rw [show okAll h n (x :: l) = (okT h (n : Nat) x && okAll h (n + 1) l) from rfl, Bool.and_eq_true] at hn
      rcases List.mem_cons.1 ht with rfl | ht
      · exact ⟨_, hn.1⟩
      · exact ih _ hn.2 t ht
  exact key _ 0 hr.2 t ht
theorem rising_len : ∀ {l : List Int} {last : Int}, rising last l = true → last ≤ 15 → (l.length : Int) ≤ 15 - last
  | [], last, _, h => by simp; omega
  | x :: l, last, hr, h => by
    rw [show rising last (x :: l) = (decide (last < x) && decide (x < 16) && rising x l) from rfl] at hr
    simp only [Bool.and_eq_true, decide_eq_true_eq] at hr
    have := rising_len hr.2 (by omega)
    simp only [List.length_cons]; omega
theorem rising_mem : ∀ {l : List Int} {last : Int}, rising last l = true → ∀ x ∈ l, last < x ∧ x < 16
  | [], _, _, x, hx => by cases hx
  | y :: l, last, hr, x, hx => by
    rw [show rising last (y :: l) = (decide (last < y) && decide (y < 16) && rising y l) from rfl] at hr
    simp only [Bool.and_eq_true, decide_eq_true_eq] at hr
    rcases List.mem_cons.1 hx with rfl | hx
    · exact hr.1
    · have := rising_mem hr.2 x hx; omega
theorem right_writes {h : G.api_Hist} (hr : right h = true) {t : G.api_Txn} (ht : t ∈ h.Txns) : rising (-1) t.Writes = true ∧ t.Writes.length ≤ 16 := by
  obtain ⟨n, hn⟩ := right_txn hr ht
  simp only [okT, Bool.and_eq_true] at hn
  have := rising_len hn.1.1.1 (by omega)
  exact ⟨hn.1.1.1, by omega⟩
/-! ### Who writes a key -/
theorem pWriters {h : G.api_Hist} (hf : Fits h) (key : Int) : G.index_Writers h key = some (writers h key) := by
  unfold G.index_Writers writers
  rw [pRight hf]
  simp only [Option.bind_some]
  cases hr : right h with
  | false => rfl
  | true =>
    have hn := right_le hr
    simp only [Bool.not_true, Bool.false_eq_true, if_false, if_true]
    refine count_exit (fun k => ((List.range k).filter fun t : Nat => hasW (tx h t) key).map fun t : Nat => (t : Int)) h.Txns.length _ (fuel_gt (by omega)) (fun k hk => ?_) ?_ rfl
    · have hle : ((List.range k).filter fun t : Nat => hasW (tx h t) key).length ≤ k := by
        have := List.length_filter_le (fun t : Nat => hasW (tx h t) key) (List.range k); simpa using this
      have hw := hf.writes _ (tx_in hk)
      simp only [G.index_Writers_b1, dec_lt, hk, decide_true, if_true, idx_nat hk, Option.bind_some]
      rw [pHas (by omega), List.range_succ, List.filter_append, List.map_append]
      simp only [Option.bind_some]
      have e : (tx h (k : Int)).Writes.any (fun x => decide (key = x)) = hasW (tx h (k : Int)) key := rfl
      rw [e]
      cases hw : hasW (tx h k) key with
      | false => simp [G.index_Writers_j2, w64_succ (show k < 9223372036854775807 by omega), Sh.next, hw]
      | true =>
        simp only [if_true]
        rw [app_ok (by simp; omega)]
        simp [G.index_Writers_j2, w64_succ (show k < 9223372036854775807 by omega), Sh.next, hw]
    · simp [G.index_Writers_b1, G.index_Writers_j1, Sh.len]

/-! ### Who reads a key from somebody -/
/-! ### All keys -/
def keysN (h : G.api_Hist) : List Nat := (List.range 16).filter fun k : Nat => h.Txns.any fun t => hasW t k
def keys (h : G.api_Hist) : List Int := if right h then (keysN h).map fun k : Nat => (k : Int) else []
theorem flatMap_take_len {α β : Type} (f : α → List β) (b : Nat) : ∀ (l : List α), (∀ x ∈ l, (f x).length ≤ b) → (l.flatMap f).length ≤ l.length * b
  | [], _ => by simp
  | x :: l, h => by
    have h1 := h x (List.mem_cons_self ..)
    have h2 := flatMap_take_len f b l fun y hy => h y (List.mem_cons_of_mem _ hy)
    simp only [List.flatMap_cons, List.length_append, List.length_cons, Nat.add_mul, Nat.one_mul]
    omega
theorem pKeys {h : G.api_Hist} (hf : Fits h) : G.index_Keys h = some (keys h) := by
  unfold G.index_Keys keys
  rw [pRight hf]
  simp only [Option.bind_some]
  cases hr : right h with
  | false => rfl
  | true =>
    have hn := right_le hr
    simp only [Bool.not_true, Bool.false_eq_true, if_false, if_true]
    have hwl : ∀ t ∈ h.Txns, t.Writes.length ≤ 16 := fun t ht => (right_writes hr ht).2
    refine count_exit (fun k => (h.Txns.take k).flatMap (·.Writes)) h.Txns.length _ (fuel_gt (by omega)) (fun k hk => ?_) ?_ rfl
    · have hle := flatMap_take_len (fun t : G.api_Txn => t.Writes) 16 (h.Txns.take k) fun t ht => hwl t (List.mem_of_mem_take ht)
      have hle2 := hwl _ (List.getElem_mem hk)
      have hl3 : (h.Txns.take k).length ≤ 32 := by simp; omega
      have hle3 : (h.Txns.take k).length * 16 ≤ 32 * 16 := Nat.mul_le_mul_right _ hl3
      simp only [G.index_Keys_b1, dec_lt, hk, decide_true, if_true, idx_at hk, Option.bind_some]
      rw [app_ok (by omega)]
      simp only [Option.bind_some, w64_succ (show k < 9223372036854775807 by omega), Sh.next]
      rw [List.take_add_one, List.getElem?_eq_getElem hk, Option.toList_some, List.flatMap_append]
      simp
    · simp only [G.index_Keys_b1, dec_lt, Nat.lt_irrefl, decide_false, Bool.false_eq_true, if_false, G.index_Keys_j1, List.take_length]
      have hle := flatMap_take_len (fun t : G.api_Txn => t.Writes) 16 h.Txns hwl
      have hle3 : h.Txns.length * 16 ≤ 32 * 16 := Nat.mul_le_mul_right _ hn
      rw [sort_ok (by omega)]
      simp only [Option.bind_some]
      rw [compact_ok (by simp only [List.length_mergeSort]; omega)]
      simp only [Option.bind_some]
      rw [sort_compact _ ((keysN h).map fun k : Nat => (k : Int)) ?_ ?_]
      · rw [List.pairwise_map]
        exact List.Pairwise.imp (R := fun a b : Nat => a < b) (fun {a b} hab => by omega) (List.Pairwise.filter _ List.pairwise_lt_range)
      · intro x
        simp only [List.mem_map, keysN, List.mem_filter, List.mem_range, List.any_eq_true, List.mem_flatMap]
        constructor
        · rintro ⟨k, ⟨h1, t, ht, hw⟩, rfl⟩
          refine ⟨t, ht, ?_⟩
          simp only [hasW, List.any_eq_true, decide_eq_true_eq] at hw
          obtain ⟨y, hy, rfl⟩ := hw; exact hy
        · rintro ⟨t, ht, hx⟩
          have := rising_mem (right_writes hr ht).1 x hx
          refine ⟨x.toNat, ⟨by omega, t, ht, ?_⟩, by omega⟩
          simp only [hasW, List.any_eq_true, decide_eq_true_eq]
          exact ⟨x, hx, by omega⟩

/-! ### All pairs -/
theorem writers_none {h : G.api_Hist} (hr : right h = true) {k : Nat} (hk : (h.Txns.any fun t => hasW t k) = false) : writers h (k : Int) = [] := by
  rw [List.eq_nil_iff_forall_not_mem]
  intro x hx
  obtain ⟨h1, h2⟩ := (mem_writers hr).1 hx
  rw [List.any_eq_false] at hk
  exact hk _ (tx_mem h1) h2
theorem flatMap_filter_nil {α : Type} (f : Nat → List α) (p : Nat → Bool) (l : List Nat) (h : ∀ k ∈ l, p k = false → f k = []) : (l.filter p).flatMap f = l.flatMap f := by
  induction l with
  | nil => rfl
  | cons x l ih =>
    rw [List.filter_cons]
    have h2 := ih fun k hk => h k (List.mem_cons_of_mem _ hk)
    cases hp : p x with
    | true => simp [h2]
    | false => simp [h2, h x (List.mem_cons_self ..) hp]
theorem pairs_keys {h : G.api_Hist} (hr : right h = true) : (keysN h).flatMap (fun k : Nat => pairsK k (writers h k)) = pairs h := by
  unfold keysN pairs
  refine flatMap_filter_nil _ _ _ fun k _ hk => ?_
  rw [writers_none hr hk]; rfl
theorem pPairs_inner (k : Int) (ws : List Int) (hw : ws.length ≤ 64) {i : Nat} (hi : i < ws.length) (acc : List G.api_Choice) (hacc : acc.length ≤ 100000) :
    Sh.loop (fun (p : (List G.api_Choice) × Int) => G.index_Pairs_b3 k i ws[i] (ws.drop (i + 1)) p.1 p.2) (acc, 0) = some (.inl (acc ++ pairsI k ws i, ((i + 1 : Nat) : Int))) := by
  have hg : ws.getD i 0 = ws[i] := by simp [List.getD, hi]
  refine count_exit (fun j => acc ++ ((ws.drop (i + 1)).take j).map fun w => (⟨k, ws[i], w⟩ : G.api_Choice)) (ws.drop (i + 1)).length _ (fuel_gt (by simp; omega)) (fun j hj => ?_) ?_ (by simp)
  · have hj2 : j < ws.length := by simp at hj; omega
    simp only [G.index_Pairs_b3, dec_lt, hj, decide_true, if_true, idx_at hj, Option.bind_some]
    rw [app_ok (by simp; omega)]
    simp only [Option.bind_some, w64_succ (show j < 9223372036854775807 by omega), Sh.next]
    rw [List.take_add_one, List.getElem?_eq_getElem hj, Option.toList_some, List.map_append]
    simp
  · simp only [G.index_Pairs_b3, dec_lt, Nat.lt_irrefl, decide_false, Bool.false_eq_true, if_false, G.index_Pairs_j3, w64_succ (show i < 9223372036854775807 by omega), Sh.next, List.take_length]
    unfold pairsI
    rw [hg]
theorem pPairs_mid (k : Int) (ws : List Int) (hw : ws.length ≤ 64) (v : Nat) (hv : v < 64) (acc : List G.api_Choice) (hacc : acc.length ≤ 80000) :
    Sh.loop (fun (p : (List G.api_Choice) × Int) => G.index_Pairs_b2 v k ws p.1 p.2) (acc, 0) = some (.inl (acc ++ pairsK k ws, ((v + 1 : Nat) : Int))) := by
  refine count_exit (fun i => acc ++ (List.range i).flatMap (pairsI k ws)) ws.length _ (fuel_gt (by omega)) (fun i hi => ?_) ?_ (by simp)
  · have hl := flat_len (pairsI k ws) ws.length (pairsI_len k ws) i
    have hl2 : i * ws.length ≤ 64 * 64 := Nat.mul_le_mul (by omega) hw
    simp only [G.index_Pairs_b2, dec_lt, hi, decide_true, if_true, idx_at hi, Option.bind_some, w64_succ (show i < 9223372036854775807 by omega)]
    rw [show (Sh.len ws) = ((ws.length : Nat) : Int) from rfl, sub_ok (by omega) (Nat.le_refl _)]
    simp only [Option.bind_some]
    have e : (ws.drop (i + 1)).take (ws.length - (i + 1)) = ws.drop (i + 1) := List.take_of_length_le (by simp)
    rw [e, pPairs_inner k ws hw hi _ (by simp only [List.length_append]; omega), flat_succ, List.append_assoc]
  · simp only [G.index_Pairs_b2, dec_lt, Nat.lt_irrefl, decide_false, Bool.false_eq_true, if_false, G.index_Pairs_j2, w64_succ (show v < 9223372036854775807 by omega), Sh.next]
    rfl
theorem pairs_len {h : G.api_Hist} : (pairs h).length ≤ 16 * (h.Txns.length * h.Txns.length) :=
  flat_len _ _ (fun _ => Nat.le_trans (pairsK_len _ _) (Nat.mul_le_mul writers_len writers_len)) 16
theorem pairs_no {h : G.api_Hist} (hr : right h = false) : pairs h = [] := by
  unfold pairs
  rw [List.flatMap_eq_nil_iff]
  intro k _
  have : writers h (k : Int) = [] := by unfold writers; rw [if_neg (by rw [hr]; simp)]
  rw [this]; rfl
theorem pPairs {h : G.api_Hist} (hf : Fits h) : G.index_Pairs h = some (pairs h) := by
  unfold G.index_Pairs
  rw [pKeys hf]
  simp only [Option.bind_some]
  cases hr : right h with
  | false =>
    have e : keys h = [] := by unfold keys; rw [if_neg (by rw [hr]; simp)]
    rw [e, pairs_no hr]
    refine count_exit (fun _ => []) 0 _ (by decide) (fun k hk => by omega) ?_ rfl
    simp [G.index_Pairs_b1, G.index_Pairs_j1]
  | true =>
    have hn := right_le hr
    have e : keys h = (keysN h).map fun k : Nat => (k : Int) := by unfold keys; rw [if_pos hr]
    have hkl : (keysN h).length ≤ 16 := by
      have := List.length_filter_le (fun k : Nat => h.Txns.any fun t => hasW t k) (List.range 16); simpa [keysN] using this
    rw [e]
    refine count_exit (fun i => ((keysN h).take i).flatMap fun k : Nat => pairsK k (writers h k)) (keysN h).length _ (fuel_gt (by omega)) (fun i hi => ?_) ?_ rfl
    · have hi2 : i < ((keysN h).map fun k : Nat => (k : Int)).length := by simpa using hi
      have hwl : ∀ k : Nat, (pairsK (k : Int) (writers h k)).length ≤ 1024 := fun _ => Nat.le_trans (pairsK_len _ _) (Nat.mul_le_mul (Nat.le_trans writers_len hn) (Nat.le_trans writers_len hn))
      have hacc := flatMap_take_len (fun k : Nat => pairsK k (writers h k)) 1024 ((keysN h).take i) fun k _ => hwl k
      have h3 : ((keysN h).take i).length ≤ 16 := by simp; omega
      have h4 : ((keysN h).take i).length * 1024 ≤ 16 * 1024 := Nat.mul_le_mul_right _ h3
      simp only [G.index_Pairs_b1, Sh.len, List.length_map, dec_lt, hi, decide_true, if_true, idx_at hi2, Option.bind_some, List.getElem_map, pWriters hf]
      rw [pPairs_mid _ _ (Nat.le_trans writers_len (by omega)) i (by omega) _ (by omega), List.take_add_one, List.getElem?_eq_getElem hi, Option.toList_some, List.flatMap_append]
      simp
    · simp only [G.index_Pairs_b1, Sh.len, List.length_map, dec_lt, Nat.lt_irrefl, decide_false, Bool.false_eq_true, if_false, G.index_Pairs_j1, List.take_length, pairs_keys hr]
end Pl
end

section
/- From whom anybody reads a key: what the program answers. -/
namespace Pl
open Go Go.Av

end Pl
end

section
/- What is known of a history's order, and what follows from choices: the graphs that the program makes. -/


namespace Pl
open Go Go.Av

/-! ### The sessions' order -/
/-! ### Who reads from whom -/
/-! ### Who reads what was there at first -/
end Pl
end

section
/- Cycles: which lists are, and what is told of them. -/


namespace Pl
open Go Go.Av

end Pl
end

section
/- Law 9: who writes, and who reads, each key; all pairs. -/
namespace Pl
open Go Go.Av

theorem awake09 : G.inquestlaw09_awake = some true := by kernel_rfl
/-! ### Pairs -/
def lexLt (d c : G.api_Choice) : Prop := d.Key < c.Key ∨ d.Key = c.Key ∧ (d.A < c.A ∨ d.A = c.A ∧ d.B < c.B)
theorem pairsI_lex (key : Int) {ws : List Int} (hs : ws.Pairwise (· < ·)) (i : Nat) : (pairsI key ws i).Pairwise lexLt := by
  unfold pairsI
  rw [List.pairwise_map]
  exact (List.Pairwise.drop hs).imp fun {a b} hab => .inr ⟨rfl, .inr ⟨rfl, hab⟩⟩
theorem pairsK_lex (key : Int) {ws : List Int} (hs : ws.Pairwise (· < ·)) : (pairsK key ws).Pairwise lexLt := by
  unfold pairsK
  rw [List.pairwise_flatMap]
  refine ⟨fun i _ => pairsI_lex key hs i, List.Pairwise.imp_of_mem (R := fun a b : Nat => a < b) (fun {a b} ha hb hab x hx y hy => ?_) List.pairwise_lt_range⟩
  simp only [List.mem_range] at ha hb
  unfold pairsI at hx hy
  obtain ⟨_, _, rfl⟩ := List.mem_map.1 hx
  obtain ⟨_, _, rfl⟩ := List.mem_map.1 hy
  refine .inr ⟨rfl, .inl ?_⟩
  have e1 : ws.getD a 0 = ws[a] := by simp [List.getD, ha]
  have e2 : ws.getD b 0 = ws[b] := by simp [List.getD, hb]
  rw [e1, e2]
  exact List.pairwise_iff_getElem.1 hs a b ha hb hab
theorem pairsK_key {key : Int} {ws : List Int} {c : G.api_Choice} (hc : c ∈ pairsK key ws) : c.Key = key := by
  unfold pairsK pairsI at hc
  simp only [List.mem_flatMap, List.mem_map] at hc
  obtain ⟨_, _, _, _, rfl⟩ := hc
  rfl
theorem pairs_lex {h : G.api_Hist} : (pairs h).Pairwise lexLt := by
  unfold pairs
  rw [List.pairwise_flatMap]
  refine ⟨fun k _ => pairsK_lex _ writers_sorted, List.Pairwise.imp (R := fun a b : Nat => a < b) (fun {a b} hab x hx y hy => ?_) List.pairwise_lt_range⟩
  left
  rw [pairsK_key hx, pairsK_key hy]; omega
theorem pairs_asc {h : G.api_Hist} {c : G.api_Choice} (hc : c ∈ pairs h) : c.A < c.B := by
  unfold pairs pairsK pairsI at hc
  simp only [List.mem_flatMap, List.mem_map, List.mem_range] at hc
  obtain ⟨k, _, i, hi, w, hw, rfl⟩ := hc
  have hs := writers_sorted (h := h) (key := (k : Int))
  obtain ⟨j, hj, rfl⟩ := List.getElem_of_mem hw
  have hj2 : j + (i + 1) < (writers h (k : Int)).length := by simp at hj; omega
  have e1 : (writers h (k : Int)).getD i 0 = (writers h (k : Int))[i] := by simp [List.getD, hi]
  simp only [e1, List.getElem_drop]
  exact List.pairwise_iff_getElem.1 hs i (i + 1 + j) hi (by omega) (by omega)
/-- Sums. -/
def S (f : Nat → Nat) : Nat → Nat
  | 0 => 0
  | n + 1 => S f n + f n
theorem S_ext {f g : Nat → Nat} : ∀ {n : Nat}, (∀ i, i < n → f i = g i) → S f n = S g n
  | 0, _ => rfl
  | n + 1, h => by
    unfold S
    rw [S_ext fun i hi => h i (by omega), h n (by omega)]
theorem S_le {f : Nat → Nat} {b : Nat} : ∀ {n : Nat}, (∀ i, i < n → f i ≤ b) → S f n ≤ n * b
  | 0, _ => by simp [S]
  | n + 1, h => by
    have := S_le (n := n) fun i hi => h i (by omega)
    have := h n (by omega)
    simp only [S, Nat.add_mul, Nat.one_mul]; omega
theorem flat_S {α : Type} (f : Nat → List α) : ∀ n, ((List.range n).flatMap f).length = S (fun i => (f i).length) n
  | 0 => rfl
  | n + 1 => by rw [flat_succ, List.length_append, flat_S f n]; rfl
theorem tri : ∀ n m, n ≤ m → 2 * S (fun i => m - (i + 1)) n = n * (2 * m - n - 1)
  | 0, _, _ => by simp [S]
  | n + 1, m, h => by
    have ih := tri n m (by omega)
    unfold S
    rw [Nat.mul_add, ih]
    obtain ⟨k, rfl⟩ : ∃ k, m = n + 1 + k := ⟨m - (n + 1), by omega⟩
    rw [show n + 1 + k - (n + 1) = k by omega, show 2 * (n + 1 + k) - n - 1 = n + 1 + 2 * k by omega, show 2 * (n + 1 + k) - (n + 1) - 1 = n + 2 * k by omega]
    rw [Nat.mul_add n (n + 1), Nat.mul_add n n 1, Nat.add_mul n 1, Nat.mul_add n n (2 * k)]
    omega
theorem pairsK_tri (key : Int) (ws : List Int) : (pairsK key ws).length = ws.length * (ws.length - 1) / 2 := by
  unfold pairsK
  rw [flat_S]
  have e : S (fun i => (pairsI key ws i).length) ws.length = S (fun i => ws.length - (i + 1)) ws.length := S_ext fun i _ => by simp [pairsI]
  rw [e]
  have := tri ws.length ws.length (Nat.le_refl _)
  rw [show 2 * ws.length - ws.length - 1 = ws.length - 1 by omega] at this
  omega
theorem quo2 {m : Nat} (hm : m ≤ 64) : Sh.quo w64 (w64 (((m : Nat) : Int) * (w64 (((m : Nat) : Int) - 1)))) 2 = some ((m * (m - 1) / 2 : Nat) : Int) := by
  have h1 : w64 (((m : Nat) : Int) - 1) = ((m : Nat) : Int) - 1 := w64_id (by omega) (by omega)
  rw [h1]
  unfold Sh.quo
  rw [if_pos (by decide)]
  congr 1
  cases m with
  | zero => decide
  | succ k =>
    have h2 : (((k + 1 : Nat) : Int) * (((k + 1 : Nat) : Int) - 1)) = (((k + 1) * k : Nat) : Int) := by
      rw [Int.natCast_mul]; congr 1; omega
    have h3 : (k + 1) * k ≤ 64 * 64 := Nat.mul_le_mul hm (by omega)
    generalize hq : (k + 1) * k = q at h2 h3
    have h5 : (k + 1) * (k + 1 - 1) = q := by rw [← hq]; rfl
    have h6 : w64 ((q : Nat) : Int) = (q : Int) := w64_id (by omega) (by omega)
    have h4 : ((q : Nat) : Int).tdiv 2 = ((q / 2 : Nat) : Int) := by
      rw [Int.tdiv_eq_ediv_of_nonneg (by omega)]; rfl
    rw [h2, h6, h4, h5]
    exact w64_id (by omega) (by omega)
theorem IndexPairs (h : G.api_Hist) : G.inquestlaw09_IndexPairs h = some true := by
  unfold G.inquestlaw09_IndexPairs
  rw [awake09, rFew (by omega)]
  simp only [Option.bind_some, Bool.not_true, Bool.false_eq_true, if_false]
  cases hF : few h 40 with
  | false => rfl
  | true =>
    have hf := few_fits (by omega) hF
    simp only [Bool.not_true, Bool.false_eq_true, if_false, pPairs hf, pRight hf, Option.bind_some]
    cases hr : right h with
    | false => rw [pairs_no hr]; rfl
    | true =>
      have hn := right_le hr
      have hn64 : h.Txns.length ≤ 64 := by omega
      have hpl := pairs_len (h := h)
      have hpl2 : h.Txns.length * h.Txns.length ≤ 40 * 40 := Nat.mul_le_mul (by omega) (by omega)
      have wl : ∀ k : Nat, (writers h (k : Int)).length ≤ 32 := fun k => Nat.le_trans writers_len hn
      have pk : ∀ k : Nat, (pairsK (k : Int) (writers h k)).length ≤ 1024 := fun k => Nat.le_trans (pairsK_len _ _) (Nat.mul_le_mul (wl k) (wl k))
      simp only [Bool.not_true, Bool.false_eq_true, if_false]
      refine run_exit (fun k => (((S (fun i => (pairsK (i : Int) (writers h i)).length) k : Nat) : Int), (k : Int))) 16 _ (by decide) (fun k hk => ?_) ?_ rfl
      · have hk2 : (k : Int) < 16 := by omega
        have hS : S (fun i => (pairsK (i : Int) (writers h i)).length) k ≤ k * 1024 := S_le fun i _ => pk i
        have hS2 : k * 1024 ≤ 16 * 1024 := Nat.mul_le_mul_right _ (by omega)
        have hp := pk k
        have hwl := wl k
        simp only [G.inquestlaw09_IndexPairs_b2, hk2, decide_true, if_true, pWriters hf, Option.bind_some, Sh.len]
        rw [quo2 (show (writers h (k : Int)).length ≤ 64 by omega)]
        simp only [Option.bind_some, w64_succ (show k < 9223372036854775807 by omega), Sh.next]
        rw [← pairsK_tri (k : Int) (writers h k)]
        have e : w64 (((S (fun i => (pairsK (i : Int) (writers h i)).length) k : Nat) : Int) + (((pairsK (k : Int) (writers h k)).length : Nat) : Int)) = ((S (fun i => (pairsK (i : Int) (writers h i)).length) (k + 1) : Nat) : Int) := by
          rw [w64_id (by omega) (by omega)]
          show _ = (((S (fun i => (pairsK (i : Int) (writers h i)).length) k + (pairsK (k : Int) (writers h k)).length : Nat)) : Int)
          omega
        rw [e]
      · have hlen : S (fun i => (pairsK (i : Int) (writers h i)).length) 16 = (pairs h).length := by unfold pairs; rw [flat_S]
        simp only [G.inquestlaw09_IndexPairs_b2]
        rw [show decide (((16 : Nat) : Int) < 16) = false from rfl]
        simp only [Bool.false_eq_true, if_false, hlen, G.inquestlaw09_IndexPairs_j1]
        congr 1
        refine count0 (pairs h).length true (fuel_gt (by omega)) (fun i hi => ?_) ?_
        · have hm := List.getElem_mem hi
          have h1 := pairs_one hr hm
          obtain ⟨a, b, ea, eb, ha, hb, hne, wa, wb⟩ := one_nat h1
          have hab := pairs_asc hm
          have c1 : ¬ ((pairs h)[i]).A < 0 := by omega
          have c2 : ¬ ((pairs h)[i]).B ≤ ((pairs h)[i]).A := by omega
          have c3 : ¬ (h.Txns.length : Int) ≤ ((pairs h)[i]).B := by omega
          simp only [G.inquestlaw09_IndexPairs_b1, dec_lt, hi, decide_true, if_true, idx_at hi, Option.bind_some, c1, c2, Sh.len, c3, decide_false, Bool.false_eq_true, if_false, G.inquestlaw09_IndexPairs_j4]
          rw [ea, eb, idx_nat ha, idx_nat hb]
          simp only [Option.bind_some, rWrites (hf.writes _ (tx_in ha)), rWrites (hf.writes _ (tx_in hb)), wa, wb, Bool.not_true, Bool.false_eq_true, if_false, G.inquestlaw09_IndexPairs_j5, G.inquestlaw09_IndexPairs_j3, w64_succ (show i < 9223372036854775807 by omega), Sh.next]
          have hj3 : G.inquestlaw09_IndexPairs_j3 (i : Int) = some (.inl ((i + 1 : Nat) : Int)) := by
            unfold G.inquestlaw09_IndexPairs_j3; rw [w64_succ (show i < 9223372036854775807 by omega)]; rfl
          by_cases h0 : i = 0
          · subst h0; simp
          · have hi1 : i - 1 < (pairs h).length := by omega
            have hp : (0 : Int) < (i : Int) := by omega
            simp only [hp, decide_true, if_true, w64_pred (show 0 < i by omega) (show i < 9223372036854775807 by omega), idx_at hi1, Option.bind_some, G.inquestlaw09_IndexPairs_j6]
            have hlx := List.pairwise_iff_getElem.1 (pairs_lex (h := h)) (i - 1) i hi1 hi (by omega)
            unfold lexLt at hlx
            rcases hlx with hl | ⟨hl, hl2⟩
            · have d1 : ¬ ((pairs h)[i]).Key < ((pairs h)[i - 1]).Key := by omega
              have d2 : ¬ ((pairs h)[i]).Key = ((pairs h)[i - 1]).Key := by omega
              simp only [d1, d2, decide_false, Bool.false_eq_true, if_false, hj3]
            · have d1 : ¬ ((pairs h)[i]).Key < ((pairs h)[i - 1]).Key := by omega
              have d2 : ((pairs h)[i]).Key = ((pairs h)[i - 1]).Key := by omega
              rcases hl2 with hl2 | ⟨hl2, hl3⟩
              · have d3 : ¬ ((pairs h)[i]).A < ((pairs h)[i - 1]).A := by omega
                have d4 : ¬ ((pairs h)[i]).A = ((pairs h)[i - 1]).A := by omega
                rw [decide_eq_false d1, decide_eq_true d2, decide_eq_false d3, decide_eq_false d4]
                simp only [Bool.false_eq_true, if_false, if_true, hj3]
              · have d3 : ¬ ((pairs h)[i]).A < ((pairs h)[i - 1]).A := by omega
                have d4 : ((pairs h)[i]).A = ((pairs h)[i - 1]).A := by omega
                have d5 : ¬ ((pairs h)[i]).B ≤ ((pairs h)[i - 1]).B := by omega
                rw [decide_eq_false d1, decide_eq_true d2, decide_eq_false d3, decide_eq_true d4, decide_eq_false d5]
                simp only [Bool.false_eq_true, if_false, if_true, hj3]
        · simp [G.inquestlaw09_IndexPairs_b1, G.inquestlaw09_IndexPairs_j2, Sh.exit]
end Pl
end
