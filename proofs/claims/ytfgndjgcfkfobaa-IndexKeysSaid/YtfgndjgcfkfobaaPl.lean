/- What the plain functions answer. -/
import Derived.Test.YtfgndjgcfkfobaaBase1
import Derived.Test.YtfgndjgcfkfobaaSh
import Derived.KernelRfl
set_option linter.unusedSimpArgs false
set_option linter.unusedVariables false
section
/- What is used to reason about the plain functions. -/
namespace Pl
open Go Go.Av

theorem w64_id {n : Int} (h1 : -9223372036854775808 ≤ n) (h2 : n < 9223372036854775808) : w64 n = n := i64_wrap h1 h2
theorem idx_at {α : Type} {l : List α} {k : Nat} (h : k < l.length) : Sh.idx l (k : Int) = some l[k] := by
  simp [Sh.idx, h]
theorem idx_of {α : Type} {l : List α} {i : Int} (h0 : 0 ≤ i) (h : i < l.length) : Sh.idx l i = some (l[i.toNat]'(by omega)) := by
  unfold Sh.idx
  rw [if_pos h0]
  exact List.getElem?_eq_getElem (by omega)
theorem app_ok {α : Type} {b : Nat} {l m : List α} (h : (l.length + m.length) * b ≤ 140737488355328) : Sh.app b l m = some (l ++ m) := by
  simp [Sh.app, h]
theorem count0 {α : Type} {b : Int → Option (Int ⊕ α)} (m : Nat) (r : α) (hm : m < Sh.FUEL) (h : ∀ k, k < m → b (k : Int) = some (.inl ((k + 1 : Nat) : Int))) (hr : b (m : Int) = some (.inr r)) : Sh.loop b 0 = some r :=
  Sh.loop_run (fun k => (k : Int)) m r hm h hr
theorem fuel_gt {n : Nat} (h : n < 9223372036854775808) : n < Sh.FUEL := h
theorem w64_succ {k : Nat} (h : k < 9223372036854775807) : w64 ((k : Int) + 1) = ((k + 1 : Nat) : Int) := by
  rw [w64_id (by omega) (by omega)]; omega
theorem len_eq {α : Type} (l : List α) : Sh.len l = (l.length : Int) := rfl
theorem dec_lt {k n : Nat} : decide ((k : Int) < (n : Int)) = decide (k < n) := by
  congr 1; exact propext (by omega)
end Pl
namespace Pl
open Go Go.Av
end Pl
namespace Pl
open Go Go.Av
theorem run_exit {σ α : Type} {b : σ → Option (σ ⊕ α)} (S : Nat → σ) (m : Nat) (X : Option α) (hm : m < Sh.FUEL) (h : ∀ k, k < m → b (S k) = some (.inl (S (k + 1)))) (hr : b (S m) = Sh.exit X) {s : σ} (hs : s = S 0) : Sh.loop b s = X := by
  subst hs
  unfold Sh.loop
  rw [show Sh.FUEL = m + ((Sh.FUEL - m - 1) + 1) by omega, Sh.iter_go S m h]
  simp only [Sh.iter, hr]
  cases X <;> rfl
theorem count_exit {σ α : Type} {b : σ × Int → Option ((σ × Int) ⊕ α)} (S : Nat → σ) (m : Nat) (X : Option α) (hm : m < Sh.FUEL) (h : ∀ k, k < m → b (S k, (k : Int)) = some (.inl (S (k + 1), ((k + 1 : Nat) : Int)))) (hr : b (S m, (m : Int)) = Sh.exit X) {s : σ} (hs : s = S 0) :
    Sh.loop b (s, 0) = X := run_exit (fun k => (S k, (k : Int))) m X hm h hr (by rw [hs]; rfl)
end Pl
end

section
/- Loops over lists. -/
namespace Pl
open Go Go.Av

def foldE {σ α β : Type} (step : Nat → σ → α → σ ⊕ β) (X : σ → Option β) : Nat → List α → σ → Option β
  | _, [], s => X s
  | k, x :: l, s => match step k s x with
    | .inl s' => foldE step X (k + 1) l s'
    | .inr r => some r

theorem loop_step {σ β : Type} {b : σ → Option (σ ⊕ β)} {n : Nat} {s s' : σ} (h : b s = some (.inl s')) : Sh.iter b (n + 1) s = Sh.iter b n s' := by simp [Sh.iter, h]
theorem loop_stop {σ β : Type} {b : σ → Option (σ ⊕ β)} {n : Nat} {s : σ} {r : β} (h : b s = some (.inr r)) : Sh.iter b (n + 1) s = some r := by simp [Sh.iter, h]
theorem loop_exit {σ β : Type} {b : σ → Option (σ ⊕ β)} {n : Nat} {s : σ} {X : Option β} (h : b s = Sh.exit X) : Sh.iter b (n + 1) s = X := by cases X <;> simp [Sh.iter, h, Sh.exit]

theorem iter_fold {σ τ α β : Type} {b : τ → Option (τ ⊕ β)} (S : σ → Nat → τ) (step : Nat → σ → α → σ ⊕ β) (X : σ → Option β) (l0 : List α)
    (h : ∀ (k : Nat) (s : σ) (hk : k < l0.length), b (S s k) = match step k s l0[k] with | .inl s' => some (.inl (S s' (k + 1))) | .inr r => some (.inr r))
    (he : ∀ s, b (S s l0.length) = Sh.exit (X s)) : ∀ (l : List α) (k n : Nat) (s : σ), l0.drop k = l → k ≤ l0.length → l.length < n → Sh.iter b n (S s k) = foldE step X k l s := by
  intro l
  induction l with
  | nil =>
    intro k n s hl hk hn
    have hk2 : k = l0.length := by
      have : (l0.drop k).length = 0 := by rw [hl]; rfl
      simp at this; omega
    subst hk2
    obtain ⟨n, rfl⟩ : ∃ m, n = m + 1 := ⟨n - 1, by simp at hn; omega⟩
    exact loop_exit (he s)
  | cons x l ih =>
    intro k n s hl hk hn
    have hlen : (l0.drop k).length = l.length + 1 := by rw [hl]; rfl
    have hk2 : k < l0.length := by simp at hlen; omega
    obtain ⟨n, rfl⟩ : ∃ m, n = m + 1 := ⟨n - 1, by simp at hn; omega⟩
    have hx : l0[k] = x ∧ l0.drop (k + 1) = l := by
      rw [List.drop_eq_getElem_cons hk2] at hl
      simp only [List.cons.injEq] at hl
      exact hl
    have hb := h k s hk2
    rw [hx.1] at hb
    simp only [foldE]
    cases hs : step k s x with
    | inl s' =>
      rw [hs] at hb
      rw [loop_step hb]
      exact ih (k + 1) n s' hx.2 hk2 (by simp at hn; omega)
    | inr r =>
      rw [hs] at hb
      exact loop_stop hb

theorem loop_fold {σ τ α β : Type} {b : τ → Option (τ ⊕ β)} (S : σ → Nat → τ) (step : Nat → σ → α → σ ⊕ β) (X : σ → Option β) (l : List α) (hm : l.length < Sh.FUEL)
    (h : ∀ (k : Nat) (s : σ) (hk : k < l.length), b (S s k) = match step k s l[k] with | .inl s' => some (.inl (S s' (k + 1))) | .inr r => some (.inr r))
    (he : ∀ s, b (S s l.length) = Sh.exit (X s)) (s : σ) {t : τ} (ht : t = S s 0) : Sh.loop b t = foldE step X 0 l s := by
  subst ht
  exact iter_fold S step X l h he l 0 Sh.FUEL s rfl (Nat.zero_le _) hm

theorem find_loop {α β : Type} {b : Int → Option (Int ⊕ β)} (l : List α) (p : α → Bool) (A : Nat → β) (X : Option β) (hm : l.length < Sh.FUEL)
    (h : ∀ (k : Nat) (hk : k < l.length), b (k : Int) = if p l[k] then some (.inr (A k)) else some (.inl ((k + 1 : Nat) : Int)))
    (he : b (l.length : Int) = Sh.exit X) : Sh.loop b 0 = (l.findIdx? p).elim X (fun k => some (A k)) := by
  rw [loop_fold (σ := Unit) (α := α) (fun _ k => (k : Int)) (fun k _ x => if p x then .inr (A k) else .inl ()) (fun _ => X) l hm (fun k s hk => ?_) (fun _ => he) () (t := (0 : Int)) rfl]
  · have key : ∀ (l : List α) (k : Nat), foldE (fun k (_ : Unit) x => if p x then Sum.inr (A k) else Sum.inl ()) (fun _ => X) k l () = (l.findIdx? p).elim X (fun i => some (A (k + i))) := by
      intro l
      induction l with
      | nil => intro k; simp [foldE]
      | cons x l ih =>
        intro k
        simp only [foldE, List.findIdx?_cons]
        cases hp : p x with
        | true => simp
        | false =>
          simp only [Bool.false_eq_true, if_false]
          rw [ih (k + 1)]
          cases l.findIdx? p with
          | none => rfl
          | some i => simp only [Option.map_some, Option.elim_some]; congr 2; omega
    rw [key l 0]
    simp
  · rw [h k hk]
    cases p l[k] <;> rfl

theorem any_loop {α β : Type} {b : Int → Option (Int ⊕ β)} (l : List α) (p : α → Bool) (A : β) (X : Option β) (hm : l.length < Sh.FUEL)
    (h : ∀ (k : Nat) (hk : k < l.length), b (k : Int) = if p l[k] then some (.inr A) else some (.inl ((k + 1 : Nat) : Int)))
    (he : b (l.length : Int) = Sh.exit X) : Sh.loop b 0 = if l.any p then some A else X := by
  rw [find_loop l p (fun _ => A) X hm h he]
  cases hf : l.findIdx? p with
  | none =>
    have : l.any p = false := by
      rw [List.findIdx?_eq_none_iff] at hf
      rw [List.any_eq_false]
      intro x hx
      simpa using hf x hx
    rw [this]; rfl
  | some i =>
    have : l.any p = true := by
      rw [List.any_eq_true]
      rw [List.findIdx?_eq_some_iff_getElem] at hf
      obtain ⟨hi, hp, _⟩ := hf
      exact ⟨l[i], List.getElem_mem hi, hp⟩
    rw [this]; rfl

def pos {α : Type} (l : List α) (p : α → Bool) : Int := (l.findIdx? p).elim (-1) (fun k => (k : Int))
theorem pos_some {α : Type} (l : List α) (p : α → Bool) : (l.findIdx? p).elim (some (-1 : Int)) (fun k => some (k : Int)) = some (pos l p) := by unfold pos; cases l.findIdx? p <;> rfl
theorem contains_of_find {α : Type} (l : List α) (p : α → Bool) : decide ((0 : Int) ≤ pos l p) = l.any p := by
  unfold pos
  cases hf : l.findIdx? p with
  | none =>
    have : l.any p = false := by
      rw [List.findIdx?_eq_none_iff] at hf
      rw [List.any_eq_false]
      intro x hx
      simpa using hf x hx
    rw [this]; rfl
  | some i =>
    have : l.any p = true := by
      rw [List.any_eq_true]
      rw [List.findIdx?_eq_some_iff_getElem] at hf
      obtain ⟨hi, hp, _⟩ := hf
      exact ⟨l[i], List.getElem_mem hi, hp⟩
    rw [this]; simp
end Pl
end

section
/- Whether a history may be. -/
namespace Pl
open Go Go.Av

theorem pIdx {l : List Int} (hl : l.length < 9223372036854775808) (v : Int) : G.slices_Index_int_int l v = some (pos l (fun x => decide (v = x))) := by
  unfold G.slices_Index_int_int
  rw [find_loop l (fun x => decide (v = x)) (fun k => (k : Int)) (some (-1)) (fuel_gt hl) (fun k hk => ?_) ?_, pos_some]
  · simp [G.slices_Index_int_int_b1, G.slices_Index_int_int_j1]
  · simp only [G.slices_Index_int_int_b1, dec_lt, hk, decide_true, if_true, idx_at hk, Option.bind_some, w64_succ (show k < 9223372036854775807 by omega)]
    rfl
theorem pHas {l : List Int} (hl : l.length < 9223372036854775808) (v : Int) : G.slices_Contains_int_int l v = some (l.any (fun x => decide (v = x))) := by
  unfold G.slices_Contains_int_int
  rw [pIdx hl, Option.bind_some, contains_of_find]

def rising : Int → List Int → Bool
  | _, [] => true
  | last, x :: l => decide (last < x) && decide (x < 16) && rising x l
def hasW (t : G.api_Txn) (k : Int) : Bool := t.Writes.any (fun x => decide (k = x))
def there (h : G.api_Hist) (n : Int) (x : G.api_Take) : Bool :=
  decide (x.From = -1) || (decide (0 ≤ x.From) && decide (x.From < (h.Txns.length : Int)) && decide (x.From ≠ n) && match h.Txns[x.From.toNat]? with | some t => hasW t x.Key | none => false)
def takes (h : G.api_Hist) (n : Int) : Int → List G.api_Take → Bool
  | _, [] => true
  | last, x :: l => decide (last < x.Key) && decide (x.Key < 16) && there h n x && takes h n x.Key l
def okT (h : G.api_Hist) (n : Int) (t : G.api_Txn) : Bool := rising (-1) t.Writes && takes h n (-1) t.Reads && decide (0 ≤ t.Session) && decide (t.Session < 8)
def okAll (h : G.api_Hist) : Nat → List G.api_Txn → Bool
  | _, [] => true
  | n, t :: l => okT h n t && okAll h (n + 1) l
def right (h : G.api_Hist) : Bool := decide (h.Txns.length ≤ 32) && okAll h 0 h.Txns

structure Fits (h : G.api_Hist) : Prop where
  txns : h.Txns.length < 9223372036854775807
  writes : ∀ t ∈ h.Txns, t.Writes.length < 9223372036854775807
  reads : ∀ t ∈ h.Txns, t.Reads.length < 9223372036854775807

theorem y1 (c y : Bool) : G.hist_Right__r c y = some (if y then (c, true) else (false, false)) := by cases y <;> rfl

theorem pThere {h : G.api_Hist} (hf : Fits h) (n : Int) (x : G.api_Take) {α : Type} (K : Bool → Option α) :
    (if decide (x.From = (-1)) then K true else if decide ((0 : Int) ≤ x.From) then if decide (x.From < (Sh.len h.Txns)) then if decide (x.From ≠ n) then (Sh.idx h.Txns x.From).bind fun x840 => (G.slices_Contains_int_int x840.Writes x.Key).bind fun r842 => K r842 else K false else K false else K false) = K (there h n x) := by
  unfold there
  by_cases h1 : x.From = -1
  · simp [h1]
  · by_cases h2 : 0 ≤ x.From
    · by_cases h3 : x.From < (h.Txns.length : Int)
      · by_cases h4 : x.From = n
        · subst h4; simp [h1, h2, h3]
        · have h5 : h.Txns[x.From.toNat]? = some (h.Txns[x.From.toNat]'(by omega)) := List.getElem?_eq_getElem (by omega)
          rw [idx_of h2 h3, h5]
          have := hf.writes _ (List.getElem_mem (show x.From.toNat < h.Txns.length by omega))
          have h6 := pHas (l := (h.Txns[x.From.toNat]'(by omega)).Writes) (by omega) x.Key
          simp [h1, h2, h3, h4, h6, hasW]
      · simp [h1, h2, h3]
    · simp [h1, h2]

theorem pReads {h : G.api_Hist} (hf : Fits h) (n : Int) (t : G.api_Txn) (ht : t ∈ h.Txns) (c : Bool) : G.hist_faults_1__hist_Right__r_j2 h n t c = if takes h n (-1) t.Reads then G.hist_faults_1__hist_Right__r_j3 n t c else some (.inr (false, false)) := by
  unfold G.hist_faults_1__hist_Right__r_j2
  have hl := hf.reads t ht
  rw [loop_fold (σ := Bool × Int) (fun s k => (s.1, s.2, (k : Int))) (fun _ s x => if decide (s.2 < x.Key) && decide (x.Key < 16) && there h n x then .inl (s.1, x.Key) else .inr (.inr (false, false))) (fun s => G.hist_faults_1__hist_Right__r_j3 n t s.1) t.Reads (fuel_gt (by omega)) (fun k s hk => ?_) (fun s => ?_) (c, -1) (t := (c, (-1 : Int), (0 : Int))) rfl]
  · have key : ∀ (l : List G.api_Take) (k : Nat) (last : Int), foldE (fun _ (s : Bool × Int) (x : G.api_Take) => if decide (s.2 < x.Key) && decide (x.Key < 16) && there h n x then Sum.inl (s.1, x.Key) else Sum.inr (.inr (false, false))) (fun s => G.hist_faults_1__hist_Right__r_j3 n t s.1) k l (c, last) = if takes h n last l then G.hist_faults_1__hist_Right__r_j3 n t c else some (.inr (false, false)) := by
      intro l
      induction l with
      | nil => intro k last; simp [foldE, takes]
      | cons x l ih =>
        intro k last
        simp only [foldE]
        rw [show takes h n last (x :: l) = (decide (last < x.Key) && decide (x.Key < 16) && there h n x && takes h n x.Key l) from rfl]
        by_cases hq : (decide (last < x.Key) && decide (x.Key < 16) && there h n x) = true
        · rw [if_pos hq, hq, Bool.true_and]; exact ih (k + 1) x.Key
        · rw [if_neg hq, Bool.eq_false_iff.2 hq]; simp
    exact key t.Reads 0 (-1)
  · obtain ⟨c, last⟩ := s
    simp only [G.hist_faults_1__hist_Right__r_b2, dec_lt, hk, decide_true, if_true, idx_at hk, Option.bind_some]
    rw [pThere hf n t.Reads[k] (fun b => G.hist_faults_1__hist_Right__r_j4 c last k t.Reads[k] b)]
    simp only [G.hist_faults_1__hist_Right__r_j4, y1, G.hist_faults_1__hist_Right__r_j5, w64_succ (show k < 9223372036854775807 by omega), Option.bind_some]
    by_cases h1 : last < t.Reads[k].Key
    · by_cases h2 : t.Reads[k].Key < 16
      · cases h3 : there h n t.Reads[k] <;> simp [h1, h2, Sh.exit, Sh.next]
      · simp [h1, h2, Sh.exit]
    · simp [h1, Sh.exit]
  · simp [G.hist_faults_1__hist_Right__r_b2]

theorem pWrites {h : G.api_Hist} (hf : Fits h) (n : Nat) (hn : n < 9223372036854775807) (t : G.api_Txn) (ht : t ∈ h.Txns) (c : Bool) :
    Sh.loop (fun (p : Bool × Int × Int) => G.hist_faults_1__hist_Right__r_b3 h n t p.1 p.2.1 p.2.2) (c, (-1), 0) = if okT h n t then some (.inl (c, ((n + 1 : Nat) : Int))) else some (.inr (false, false)) := by
  have hl := hf.writes t ht
  rw [loop_fold (σ := Bool × Int) (fun s k => (s.1, s.2, (k : Int))) (fun _ s x => if decide (s.2 < x) && decide (x < 16) then .inl (s.1, x) else .inr (.inr (false, false))) (fun s => G.hist_faults_1__hist_Right__r_j2 h n t s.1) t.Writes (fuel_gt (by omega)) (fun k s hk => ?_) (fun s => ?_) (c, -1) (t := (c, (-1 : Int), (0 : Int))) rfl]
  · have key : ∀ (l : List Int) (k : Nat) (last : Int), foldE (fun _ (s : Bool × Int) (x : Int) => if decide (s.2 < x) && decide (x < 16) then Sum.inl (s.1, x) else Sum.inr (.inr (false, false))) (fun s => G.hist_faults_1__hist_Right__r_j2 h n t s.1) k l (c, last) = if rising last l then G.hist_faults_1__hist_Right__r_j2 h n t c else some (.inr (false, false)) := by
      intro l
      induction l with
      | nil => intro k last; simp [foldE, rising]
      | cons x l ih =>
        intro k last
        simp only [foldE]
        rw [show rising last (x :: l) = (decide (last < x) && decide (x < 16) && rising x l) from rfl]
        by_cases hq : (decide (last < x) && decide (x < 16)) = true
        · rw [if_pos hq, hq, Bool.true_and]; exact ih (k + 1) x
        · rw [if_neg hq, Bool.eq_false_iff.2 hq]; simp
    rw [key t.Writes 0 (-1), pReads hf n t ht]
    unfold okT
    cases h1 : rising (-1) t.Writes
    · simp
    · cases h2 : takes h n (-1) t.Reads
      · simp
      · simp only [G.hist_faults_1__hist_Right__r_j3, y1, G.hist_faults_1__hist_Right__r_j1, w64_succ hn, Option.bind_some]
        by_cases h3 : 0 ≤ t.Session
        · by_cases h4 : t.Session < 8 <;> simp [h3, h4, Sh.exit, Sh.next]
        · simp [h3, Sh.exit]
  · obtain ⟨c, last⟩ := s
    simp only [G.hist_faults_1__hist_Right__r_b3, dec_lt, hk, decide_true, if_true, idx_at hk, Option.bind_some, y1, G.hist_faults_1__hist_Right__r_j6, w64_succ (show k < 9223372036854775807 by omega)]
    by_cases h1 : last < t.Writes[k]
    · by_cases h2 : t.Writes[k] < 16 <;> simp [h1, h2, Sh.exit, Sh.next]
    · simp [h1, Sh.exit]
  · simp [G.hist_faults_1__hist_Right__r_b3]

theorem pRight {h : G.api_Hist} (hf : Fits h) : G.hist_Right h = some (right h) := by
  have hl := hf.txns
  have hloop : ∀ c, Sh.loop (fun (p : Bool × Int) => G.hist_faults_1__hist_Right__r_b1 h p.1 p.2) (c, 0) = if okAll h 0 h.Txns then some (c, true) else some (false, false) := by
    intro c
    rw [loop_fold (σ := Bool) (fun s k => (s, (k : Int))) (fun k s x => if okT h k x then .inl s else .inr (false, false)) (fun s => some (s, true)) h.Txns (fuel_gt (by omega)) (fun k s hk => ?_) (fun s => ?_) c (t := (c, (0 : Int))) rfl]
    · have key : ∀ (l : List G.api_Txn) (k : Nat), foldE (fun k (s : Bool) (x : G.api_Txn) => if okT h (k : Nat) x then Sum.inl s else Sum.inr (false, false)) (fun s => some (s, true)) k l c = if okAll h k l then some (c, true) else some (false, false) := by
        intro l
        induction l with
        | nil => intro k; simp [foldE, okAll]
        | cons x l ih =>
          intro k
          simp only [foldE]
          rw [show okAll h k (x :: l) = (okT h (k : Nat) x && okAll h (k + 1) l) from rfl]
          by_cases hq : okT h (k : Nat) x = true
          · rw [if_pos hq, hq, Bool.true_and]; exact ih (k + 1)
          · rw [if_neg hq, Bool.eq_false_iff.2 hq]; simp
      exact key h.Txns 0
    · simp only [G.hist_faults_1__hist_Right__r_b1, dec_lt, hk, decide_true, if_true, idx_at hk, Option.bind_some]
      rw [pWrites hf k (by omega) _ (List.getElem_mem hk)]
      cases okT h k h.Txns[k] <;> rfl
    · simp [G.hist_faults_1__hist_Right__r_b1]
  unfold G.hist_Right G.hist_faults G.hist_faults_1__hist_Right__r right
  simp only [Option.bind_some, y1, len_eq]
  by_cases h1 : h.Txns.length ≤ 32
  · have h2 : ((h.Txns.length : Int) ≤ 32) := by omega
    simp only [h1, h2, decide_true, if_true, hloop, Bool.true_and]
    cases okAll h 0 h.Txns <;> simp
  · have h2 : ¬ ((h.Txns.length : Int) ≤ 32) := by omega
    simp [h1, h2]

end Pl
end

section
/- Edges, one by one: what the program and the reference answer. -/



namespace Pl
open Go Go.Av

def tx (h : G.api_Hist) (x : Int) : G.api_Txn := (h.Txns[x.toNat]?).getD default
def inr (h : G.api_Hist) (x : Int) : Bool := decide (0 ≤ x) && decide (x < (h.Txns.length : Int))
theorem inr_iff {h : G.api_Hist} {x : Int} : inr h x = true ↔ 0 ≤ x ∧ x < (h.Txns.length : Int) := by simp [inr]
theorem idx_tx {h : G.api_Hist} {x : Int} (hx : inr h x = true) : Sh.idx h.Txns x = some (tx h x) := by
  rw [inr_iff] at hx
  rw [idx_of hx.1 hx.2]
  simp [tx, List.getElem?_eq_getElem (show x.toNat < h.Txns.length by omega)]
theorem tx_mem {h : G.api_Hist} {x : Int} (hx : inr h x = true) : tx h x ∈ h.Txns := by
  rw [inr_iff] at hx
  simp only [tx, List.getElem?_eq_getElem (show x.toNat < h.Txns.length by omega), Option.getD_some]
  exact List.getElem_mem _

def isW (h : G.api_Hist) (x y : Int) (c : G.api_Choice) : Bool := decide (c.A = x) && decide (c.B = y) && decide (x ≠ y) && hasW (tx h x) c.Key && hasW (tx h y) c.Key
def dirS (h : G.api_Hist) (l : List G.api_Choice) (x y : Int) : Bool :=
  (decide (x < y) && decide ((tx h x).Session = (tx h y).Session)) || (tx h y).Reads.any (fun r => decide (r.From = x)) || l.any (isW h x y)
def isO (h : G.api_Hist) (l : List G.api_Choice) (y : Int) (r : G.api_Take) : Bool :=
  hasW (tx h y) r.Key && (decide (r.From < 0) || (decide (r.From ≠ y) && l.any (fun c => decide (G.api_Choice.mk r.Key r.From y = c))))
def antS (h : G.api_Hist) (l : List G.api_Choice) (x y : Int) : Bool := decide (x ≠ y) && (tx h x).Reads.any (isO h l y)
def two (h : G.api_Hist) (x y : Int) : Bool := right h && inr h x && inr h y
def direct (h : G.api_Hist) (l : List G.api_Choice) (x y : Int) : Bool := two h x y && dirS h l x y
def anti (h : G.api_Hist) (l : List G.api_Choice) (x y : Int) : Bool := two h x y && antS h l x y
def edge (h : G.api_Hist) (lev : Int) (l : List G.api_Choice) (x y : Int) : Bool :=
  if lev = 0 then direct h l x y || anti h l x y
  else if lev = 1 then (List.range h.Txns.length).any (fun m => direct h l x m && (decide ((m : Int) = y) || anti h l m y))
  else false
theorem right_reads {h : G.api_Hist} (hr : right h = true) {t : G.api_Txn} (ht : t ∈ h.Txns) : ∃ n : Int, takes h n (-1) t.Reads = true := by
  simp only [right, Bool.and_eq_true] at hr
  have key : ∀ (l : List G.api_Txn) (n : Nat), okAll h n l = true → ∀ t ∈ l, ∃ n : Int, okT h n t = true := by
    intro l
    induction l with
    | nil => intro n _ t ht; cases ht
    | cons x l ih =>
      intro n hn t ht
      rw [show okAll h n (x :: l) = (okT h (n : Nat) x && okAll h (n + 1) l) from rfl, Bool.and_eq_true] at hn
      rcases List.mem_cons.1 ht with rfl | ht
      · exact ⟨_, hn.1⟩
      · exact ih _ hn.2 t ht
  obtain ⟨n, hn⟩ := key _ 0 hr.2 t ht
  simp only [okT, Bool.and_eq_true] at hn
  exact ⟨n, hn.1.1.2⟩
theorem takes_there {h : G.api_Hist} {n : Int} : ∀ {l : List G.api_Take} {last : Int}, takes h n last l = true → ∀ r ∈ l, there h n r = true
  | [], _, _, r, hr => by cases hr
  | x :: l, last, ht, r, hr => by
    rw [show takes h n last (x :: l) = (decide (last < x.Key) && decide (x.Key < 16) && there h n x && takes h n x.Key l) from rfl] at ht
    simp only [Bool.and_eq_true] at ht
    rcases List.mem_cons.1 hr with rfl | hr
    · exact ht.1.2
    · exact takes_there ht.2 r hr
theorem from_neg {h : G.api_Hist} (hr : right h = true) {t : G.api_Txn} (ht : t ∈ h.Txns) {r : G.api_Take} (hm : r ∈ t.Reads) : r.From < 0 ↔ r.From = -1 := by
  obtain ⟨n, hn⟩ := right_reads hr ht
  have := takes_there hn r hm
  simp only [there, Bool.or_eq_true, Bool.and_eq_true, decide_eq_true_eq] at this
  rcases this with h1 | h1
  · omega
  · have := h1.1.1.1; omega

end Pl
end

section
/- Rings of edges, and what the reference answers of edges. -/
namespace Pl
open Go Go.Av

end Pl
end

section
/- The reference's word on histories: whether one may be, and whether it is small. -/
namespace Pl
open Go Go.Av

def step {α : Type} (key : α → Int) (ok : α → Bool) (l : List α) (k : Nat) : Bool :=
  match l[k]? with
  | none => true
  | some x => decide (0 ≤ key x) && decide (key x < 16) && ok x && (decide (k = 0) || match l[k - 1]? with | none => true | some y => decide (key y < key x))
theorem w64_pred {k : Nat} (h0 : 0 < k) (h : k < 9223372036854775807) : w64 ((k : Int) - 1) = ((k - 1 : Nat) : Int) := by
  rw [w64_id (by omega) (by omega)]; omega
theorem dec_len_gt {α : Type} (l : List α) : decide ((20 : Int) < Sh.len l) = !decide (l.length ≤ 20) := by
  by_cases h : l.length ≤ 20 <;> simp [h, Sh.len] <;> omega
def few (h : G.api_Hist) (m : Int) : Bool := decide ((h.Txns.length : Int) ≤ m) && h.Txns.all (fun t => decide (t.Writes.length ≤ 20) && decide (t.Reads.length ≤ 20))
theorem rFew {h : G.api_Hist} {m : Int} (hm : m < 9223372036854775807) : G.inquestref08_Few h m = some (few h m) := by
  unfold G.inquestref08_Few few
  by_cases h1 : (h.Txns.length : Int) ≤ m
  · have h2 : ¬ m < (h.Txns.length : Int) := by omega
    simp only [Sh.len, h2, decide_false, Bool.false_eq_true, if_false, h1, decide_true, Bool.true_and]
    rw [any_loop h.Txns (fun t => !(decide (t.Writes.length ≤ 20) && decide (t.Reads.length ≤ 20))) false (some true) (fuel_gt (by omega)) (fun k hk => ?_) ?_]
    · rw [List.any_eq_not_all_not]
      simp only [Bool.not_not]
      cases h.Txns.all (fun t => decide (t.Writes.length ≤ 20) && decide (t.Reads.length ≤ 20)) <;> rfl
    · simp [G.inquestref08_Few_b1, G.inquestref08_Few_j1]
    · simp only [G.inquestref08_Few_b1, dec_lt, hk, decide_true, if_true, idx_at hk, Option.bind_some, dec_len_gt, G.inquestref08_Few_j2, w64_succ (show k < 9223372036854775807 by omega), Sh.exit, Sh.next, Option.map_some]
      by_cases a : (h.Txns[k]).Writes.length ≤ 20 <;> by_cases b : (h.Txns[k]).Reads.length ≤ 20 <;> simp [a, b]
  · have h2 : m < (h.Txns.length : Int) := by omega
    simp [Sh.len, h2, h1]
theorem few_fits {h : G.api_Hist} {m : Int} (hm : m < 9223372036854775807) (hf : few h m = true) : Fits h := by
  simp only [few, Bool.and_eq_true, decide_eq_true_eq, List.all_eq_true] at hf
  exact ⟨by omega, fun t ht => by have := (hf.2 t ht).1; omega, fun t ht => by have := (hf.2 t ht).2; omega⟩
end Pl
end

section
/- Law 19, first half: edges as the reference sees them; what one more choice adds. -/

namespace Pl
open Go Go.Av

def one (h : G.api_Hist) (c : G.api_Choice) : Bool := decide (c.A ≠ c.B) && inr h c.A && inr h c.B && hasW (tx h c.A) c.Key && hasW (tx h c.B) c.Key
theorem from_ok {h : G.api_Hist} (hr : right h = true) {t : G.api_Txn} (ht : t ∈ h.Txns) {r : G.api_Take} (hm : r ∈ t.Reads) (h0 : ¬ r.From < 0) : inr h r.From = true ∧ hasW (tx h r.From) r.Key = true := by
  obtain ⟨n, hn⟩ := right_reads hr ht
  have := takes_there hn r hm
  simp only [there, Bool.or_eq_true, Bool.and_eq_true, decide_eq_true_eq] at this
  rcases this with h1 | h1
  · omega
  · obtain ⟨⟨⟨a, b⟩, _⟩, d⟩ := h1
    refine ⟨inr_iff.2 ⟨a, b⟩, ?_⟩
    unfold tx
    have hi : r.From.toNat < h.Txns.length := by omega
    rw [List.getElem?_eq_getElem hi] at d ⊢
    exact d
end Pl
end

section
/- Facts: what follows from what; the program's answer and the reference's. -/


namespace Pl
open Go Go.Av

def back (c : G.api_Choice) : G.api_Choice := ⟨c.Key, c.B, c.A⟩
def may (h : G.api_Hist) (lev : Int) : Bool := right h && (decide (lev = 0) || decide (lev = 1))
def fromR (h : G.api_Hist) (t key : Int) : Option Int :=
  if right h && inr h t then ((tx h t).Reads.findIdx? (fun r => decide (r.Key = key))).map (fun k => ((tx h t).Reads.getD k default).From) else none
theorem takes_gt {h : G.api_Hist} {n : Int} : ∀ {l : List G.api_Take} {last : Int}, takes h n last l = true → ∀ r ∈ l, last < r.Key
  | [], _, _, r, hr => by cases hr
  | x :: l, last, ht, r, hr => by
    rw [show takes h n last (x :: l) = (decide (last < x.Key) && decide (x.Key < 16) && there h n x && takes h n x.Key l) from rfl] at ht
    simp only [Bool.and_eq_true, decide_eq_true_eq] at ht
    rcases List.mem_cons.1 hr with rfl | hr
    · exact ht.1.1.1
    · have := takes_gt ht.2 r hr; have := ht.1.1.1; omega
theorem takes_one {h : G.api_Hist} {n : Int} : ∀ {l : List G.api_Take} {last : Int}, takes h n last l = true → ∀ r ∈ l, ∀ s ∈ l, r.Key = s.Key → r = s
  | [], _, _, r, hr, _, _, _ => by cases hr
  | x :: l, last, ht, r, hr, s, hs, he => by
    rw [show takes h n last (x :: l) = (decide (last < x.Key) && decide (x.Key < 16) && there h n x && takes h n x.Key l) from rfl] at ht
    simp only [Bool.and_eq_true, decide_eq_true_eq] at ht
    rcases List.mem_cons.1 hr with h1 | h1
    · rcases List.mem_cons.1 hs with h2 | h2
      · rw [h1, h2]
      · have := takes_gt ht.2 s h2; rw [h1] at he; omega
    · rcases List.mem_cons.1 hs with h2 | h2
      · have := takes_gt ht.2 r h1; rw [h2] at he; omega
      · exact takes_one ht.2 r h1 s h2 he
theorem fromR_iff {h : G.api_Hist} (hr : right h = true) {t key v : Int} (hx : inr h t = true) : fromR h t key = some v ↔ (tx h t).Reads.any (fun r => decide (G.api_Take.mk key v = r)) = true := by
  obtain ⟨n, hn⟩ := right_reads hr (tx_mem hx)
  unfold fromR
  rw [hr, hx]
  simp only [Bool.and_self, if_true, List.any_eq_true, decide_eq_true_eq]
  constructor
  · intro h1
    cases hfi : (tx h t).Reads.findIdx? (fun r => decide (r.Key = key)) with
    | none => rw [hfi] at h1; cases h1
    | some k =>
      rw [hfi] at h1
      rw [List.findIdx?_eq_some_iff_getElem] at hfi
      obtain ⟨hk, hp, _⟩ := hfi
      simp only [Option.map_some, Option.some.injEq, List.getD, List.getElem?_eq_getElem hk, Option.getD_some] at h1
      refine ⟨_, List.getElem_mem hk, ?_⟩
      simp only [decide_eq_true_eq] at hp
      cases hc : (tx h t).Reads[k] with
      | mk K F => rw [hc] at hp h1; simp at hp h1; rw [hp, h1]
  · rintro ⟨r, hm, rfl⟩
    cases hfi : (tx h t).Reads.findIdx? (fun r => decide (r.Key = key)) with
    | none =>
      rw [List.findIdx?_eq_none_iff] at hfi
      have := hfi _ hm
      simp at this
    | some k =>
      rw [List.findIdx?_eq_some_iff_getElem] at hfi
      obtain ⟨hk, hp, _⟩ := hfi
      simp only [decide_eq_true_eq] at hp
      have := takes_one hn _ (List.getElem_mem hk) _ hm hp
      simp [List.getD, List.getElem?_eq_getElem hk, this]
end Pl
end

section
/- Sets of numbers as bits: the program's functions, and the reference's, say the same. -/


namespace Pl
open Go Go.Av

end Pl
namespace Pl
open Go Go.Av
end Pl
end

section
/- Graphs as rows of bits: the program's functions and the reference's, over the edges. -/


namespace Pl
open Go Go.Av

def row : Nat → (Nat → Bool) → BitVec 64
  | 0, _ => 0#64
  | n + 1, p => if p n then row n p ||| (1#64 <<< n) else row n p
def rows (n : Nat) (f : Nat → Nat → Bool) : List (BitVec 64) := (List.range n).map fun x => row n (f x)
@[simp] theorem rows_len (n : Nat) (f : Nat → Nat → Bool) : (rows n f).length = n := by simp [rows]
end Pl
end

section
/- The reference's graphs. -/
namespace Pl
open Go Go.Av

end Pl
namespace Pl
open Go Go.Av
end Pl
end

section
/- Where ways lead. -/


namespace Pl
open Go Go.Av

inductive Way (n : Nat) (f : Nat → Nat → Bool) : Nat → Nat → Prop
  | edge {x y : Nat} : x < n → y < n → f x y = true → Way n f x y
  | cons {x y z : Nat} : x < n → y < n → f x y = true → Way n f y z → Way n f x z

theorem Way.trans {n : Nat} {f : Nat → Nat → Bool} {x y z : Nat} (h : Way n f x y) (k : Way n f y z) : Way n f x z := by
  induction h with
  | edge hx hy hf => exact .cons hx hy hf k
  | cons hx hy hf _ ih => exact .cons hx hy hf (ih k)
theorem Way.left {n : Nat} {f : Nat → Nat → Bool} {x y : Nat} (h : Way n f x y) : x < n := by cases h <;> assumption
theorem Way.right {n : Nat} {f : Nat → Nat → Bool} {x y : Nat} (h : Way n f x y) : y < n := by
  induction h with
  | edge _ hy _ => exact hy
  | cons _ _ _ _ ih => exact ih
theorem Way.mono {n : Nat} {f h : Nat → Nat → Bool} (hm : ∀ x y, x < n → y < n → f x y = true → Way n h x y) {x y : Nat} (w : Way n f x y) : Way n h x y := by
  induction w with
  | edge hx hy hf => exact hm _ _ hx hy hf
  | cons hx hy hf _ ih => exact (hm _ _ hx hy hf).trans ih
theorem Way.last {n : Nat} {f : Nat → Nat → Bool} {x z : Nat} (h : Way n f x z) : ∃ y, y < n ∧ f y z = true ∧ (y = x ∨ Way n f x y) := by
  induction h with
  | edge hx hy hf => exact ⟨_, hx, hf, .inl rfl⟩
  | cons hx hy hf _ ih =>
    obtain ⟨y, h1, h2, h3⟩ := ih
    refine ⟨y, h1, h2, .inr ?_⟩
    rcases h3 with rfl | h3
    · exact .edge hx hy hf
    · exact .cons hx hy hf h3

end Pl
end

section
/- The statements on graphs. -/

namespace Pl
open Go Go.Av

end Pl
end

section
/- The statements on where ways lead. -/

namespace Pl
open Go Go.Av

end Pl
end

section
/- The reference's graphs of a history: what must come ahead of what. -/


namespace Pl
open Go Go.Av

theorem inr_nat {h : G.api_Hist} {x : Nat} : inr h (x : Int) = true ↔ x < h.Txns.length := by rw [inr_iff]; omega
theorem idx_nat {h : G.api_Hist} {x : Nat} (hx : x < h.Txns.length) : Sh.idx h.Txns (x : Int) = some (tx h x) := idx_tx (inr_nat.2 hx)
theorem tx_in {h : G.api_Hist} {x : Nat} (hx : x < h.Txns.length) : tx h x ∈ h.Txns := tx_mem (inr_nat.2 hx)
theorem take_any {α : Type} {l : List α} {k : Nat} (h : k < l.length) (q : α → Bool) : (l.take (k + 1)).any q = ((l.take k).any q || q l[k]) := by
  rw [List.take_add_one, List.getElem?_eq_getElem h, Option.toList_some, List.any_append, List.any_cons, List.any_nil, Bool.or_false]
theorem from_in {h : G.api_Hist} (hr : right h = true) {t : Nat} (ht : t < h.Txns.length) {r : G.api_Take} (hm : r ∈ (tx h t).Reads) (h0 : ¬ r.From < 0) : ∃ x : Nat, r.From = (x : Int) ∧ x < h.Txns.length := by
  have := (from_ok hr (tx_in ht) hm h0).1
  obtain ⟨a, b⟩ := inr_iff.1 this
  exact ⟨r.From.toNat, by omega, by omega⟩
def readers (h : G.api_Hist) (key frm : Int) : List Nat := (List.range h.Txns.length).filter fun t : Nat => decide (fromR h t key = some frm)
end Pl
end

section
/- What follows must be so: whoever chooses all pairs, and lets nothing lead back, chooses it too. -/
namespace Pl
open Go Go.Av

end Pl
end

section
/- All pairs, and all ways to choose them. -/

namespace Pl
open Go Go.Av

def writers (h : G.api_Hist) (key : Int) : List Int := if right h then ((List.range h.Txns.length).filter fun t : Nat => hasW (tx h t) key).map fun t : Nat => (t : Int) else []
theorem writers_len {h : G.api_Hist} {key : Int} : (writers h key).length ≤ h.Txns.length := by
  unfold writers
  split
  · have := List.length_filter_le (fun t : Nat => hasW (tx h t) key) (List.range h.Txns.length); simpa using this
  · simp
theorem mem_writers {h : G.api_Hist} (hr : right h = true) {key x : Int} : x ∈ writers h key ↔ inr h x = true ∧ hasW (tx h x) key = true := by
  unfold writers
  rw [if_pos hr]
  simp only [List.mem_map, List.mem_filter, List.mem_range]
  constructor
  · rintro ⟨t, ⟨h1, h2⟩, rfl⟩; exact ⟨inr_nat.2 h1, h2⟩
  · rintro ⟨h1, h2⟩
    obtain ⟨a, b⟩ := inr_iff.1 h1
    refine ⟨x.toNat, ⟨by omega, ?_⟩, by omega⟩
    rw [show ((x.toNat : Nat) : Int) = x by omega]; exact h2
def pairsI (key : Int) (ws : List Int) (i : Nat) : List G.api_Choice := (ws.drop (i + 1)).map fun w => ⟨key, ws.getD i 0, w⟩
def pairsK (key : Int) (ws : List Int) : List G.api_Choice := (List.range ws.length).flatMap (pairsI key ws)
def pairs (h : G.api_Hist) : List G.api_Choice := (List.range 16).flatMap fun k : Nat => pairsK k (writers h k)
theorem hasW_lt {h : G.api_Hist} (hr : right h = true) {t : G.api_Txn} (ht : t ∈ h.Txns) {k : Int} (hw : hasW t k = true) : 0 ≤ k ∧ k < 16 := by
  have key : ∀ (l : List G.api_Txn) (n : Nat), okAll h n l = true → ∀ t ∈ l, rising (-1) t.Writes = true := by
    intro l
    induction l with
    | nil => intro n _ t ht; cases ht
    | cons x l ih =>
      intro n hn t ht
      rw [show okAll h n (x :: l) = (okT h (n : Nat) x && okAll h (n + 1) l) from rfl, Bool.and_eq_true] at hn
      rcases List.mem_cons.1 ht with rfl | ht
      · have := hn.1
        simp only [okT, Bool.and_eq_true] at this
        exact this.1.1.1
      · exact ih _ hn.2 t ht
  have hri : rising (-1) t.Writes = true := by
    simp only [right, Bool.and_eq_true] at hr
    exact key _ 0 hr.2 t ht
  have bd : ∀ (l : List Int) (last : Int), rising last l = true → ∀ x ∈ l, last < x ∧ x < 16 := by
    intro l
    induction l with
    | nil => intro _ _ x hx; cases hx
    | cons y l ih =>
      intro last hl x hx
      rw [show rising last (y :: l) = (decide (last < y) && decide (y < 16) && rising y l) from rfl] at hl
      simp only [Bool.and_eq_true, decide_eq_true_eq] at hl
      rcases List.mem_cons.1 hx with rfl | hx
      · exact ⟨hl.1.1, hl.1.2⟩
      · have := ih _ hl.2 x hx; omega
  unfold hasW at hw
  simp only [List.any_eq_true, decide_eq_true_eq] at hw
  obtain ⟨x, hx, rfl⟩ := hw
  have := bd _ _ hri _ hx
  omega
inductive Sel : List G.api_Choice → List G.api_Choice → Prop
  | nil : Sel [] []
  | so {x : G.api_Choice} {r s : List G.api_Choice} : Sel r s → Sel (x :: r) (x :: s)
  | not {x : G.api_Choice} {r s : List G.api_Choice} : Sel r s → Sel (x :: r) (back x :: s)
theorem Sel.len {r s : List G.api_Choice} (h : Sel r s) : s.length = r.length := by induction h <;> simp_all
theorem Sel.mem {r s : List G.api_Choice} (h : Sel r s) : ∀ c ∈ r, c ∈ s ∨ back c ∈ s := by
  induction h with
  | nil => intro c hc; cases hc
  | so _ ih =>
    intro c hc
    rcases List.mem_cons.1 hc with rfl | hc
    · exact .inl (List.mem_cons_self ..)
    · exact (ih c hc).imp (List.mem_cons_of_mem _) (List.mem_cons_of_mem _)
  | not _ ih =>
    intro c hc
    rcases List.mem_cons.1 hc with rfl | hc
    · exact .inr (List.mem_cons_self ..)
    · exact (ih c hc).imp (List.mem_cons_of_mem _) (List.mem_cons_of_mem _)
theorem Sel.all {r s : List G.api_Choice} (h : Sel r s) {p : G.api_Choice → Prop} (h1 : ∀ c ∈ r, p c) (h2 : ∀ c, p c → p (back c)) : ∀ c ∈ s, p c := by
  induction h with
  | nil => intro c hc; cases hc
  | so _ ih =>
    intro c hc
    rcases List.mem_cons.1 hc with rfl | hc
    · exact h1 _ (List.mem_cons_self ..)
    · exact ih (fun c hc => h1 c (List.mem_cons_of_mem _ hc)) c hc
  | not _ ih =>
    intro c hc
    rcases List.mem_cons.1 hc with rfl | hc
    · exact h2 _ (h1 _ (List.mem_cons_self ..))
    · exact ih (fun c hc => h1 c (List.mem_cons_of_mem _ hc)) c hc
end Pl
end

section
/- What is left of sorted numbers when what comes twice is left out. -/
namespace Pl
open Go Go.Av

theorem asc_ext : ∀ {a b : List Int}, a.Pairwise (· < ·) → b.Pairwise (· < ·) → (∀ x, x ∈ a ↔ x ∈ b) → a = b
  | [], [], _, _, _ => rfl
  | [], y :: b, _, _, h => absurd ((h y).2 (List.mem_cons_self ..)) (by simp)
  | x :: a, [], _, _, h => absurd ((h x).1 (List.mem_cons_self ..)) (by simp)
  | x :: a, y :: b, ha, hb, h => by
    rw [List.pairwise_cons] at ha hb
    have hxy : x = y := by
      rcases List.mem_cons.1 ((h x).1 (List.mem_cons_self ..)) with e | e
      · exact e
      · rcases List.mem_cons.1 ((h y).2 (List.mem_cons_self ..)) with e2 | e2
        · exact e2.symm
        · have h1 := hb.1 x e
          have h2 := ha.1 y e2
          omega
    subst hxy
    have : a = b := asc_ext ha.2 hb.2 fun z => ⟨fun hz => by
      rcases List.mem_cons.1 ((h z).1 (List.mem_cons_of_mem _ hz)) with e | e
      · subst e; have := ha.1 z hz; omega
      · exact e, fun hz => by
      rcases List.mem_cons.1 ((h z).2 (List.mem_cons_of_mem _ hz)) with e | e
      · subst e; have := hb.1 z hz; omega
      · exact e⟩
    rw [this]

theorem compact_mem (l : List Int) (x : Int) : x ∈ Lib.compact l ↔ x ∈ l := by
  unfold Lib.compact Lib.compactUpTo
  simp only [List.mem_map, List.mem_filter, List.mem_range]
  constructor
  · rintro ⟨j, ⟨hj, _⟩, rfl⟩
    simp [hj]
  · intro hx
    obtain ⟨i, hi, hix⟩ := List.getElem_of_mem hx
    have hex : ∃ i, i < l.length ∧ l.toArray[i]! = x := ⟨i, hi, by simp [hi, hix]⟩
    obtain ⟨k, ⟨hk, hkx⟩, hmin⟩ := exists_least _ hex
    refine ⟨k, ⟨hk, ?_⟩, hkx⟩
    unfold Lib.keeps
    rw [decide_eq_true_eq]
    by_cases h0 : k = 0
    · exact .inl h0
    · refine .inr fun he => ?_
      have := hmin (k - 1) ⟨by omega, by rw [← he]; exact hkx⟩
      omega
theorem compact_sorted (l : List Int) (hs : l.Pairwise (· ≤ ·)) : (Lib.compact l).Pairwise (· < ·) := by
  unfold Lib.compact Lib.compactUpTo
  rw [List.pairwise_map]
  refine List.Pairwise.imp_of_mem (R := fun a b : Nat => a < b) (fun {a b} ha hb hab => ?_) (List.Pairwise.filter _ List.pairwise_lt_range)
  simp only [List.mem_filter, List.mem_range] at ha hb
  have hk := hb.2
  unfold Lib.keeps at hk
  rw [decide_eq_true_eq] at hk
  have hk2 := hk.resolve_left (by omega)
  have e1 : l.toArray[a]! = l[a] := by simp [ha.1]
  have e2 : l.toArray[b]! = l[b] := by simp [hb.1]
  have e3 : l.toArray[b - 1]! = l[b - 1]'(by omega) := by simp [show b - 1 < l.length by omega]
  rw [e2, e3] at hk2
  rw [e1, e2]
  have le : ∀ i j (hi : i < l.length) (hj : j < l.length), i ≤ j → l[i] ≤ l[j] := fun i j hi hj hij => by
    rcases Nat.lt_or_ge i j with h | h
    · exact List.pairwise_iff_getElem.1 hs i j hi hj h
    · have : i = j := by omega
      subst this; exact Int.le_refl _
  have h1 := le a (b - 1) (by omega) (by omega) (by omega)
  have h2 := le (b - 1) b (by omega) hb.1 (by omega)
  omega
theorem sort_compact (l r : List Int) (hr : r.Pairwise (· < ·)) (hm : ∀ x, x ∈ r ↔ x ∈ l) : Lib.compact (l.mergeSort fun x y => decide (x ≤ y)) = r := by
  refine asc_ext (compact_sorted _ ?_) hr fun x => ?_
  · have h := List.pairwise_mergeSort (le := fun x y : Int => decide (x ≤ y)) (fun a b c h1 h2 => by simp at h1 h2 ⊢; omega) (fun a b => by simp; omega) l
    exact h.imp fun {a b} hab => by simpa using hab
  · rw [compact_mem, List.mem_mergeSort, hm]
theorem sort_ok {l : List Int} (h : l.length < 4611686018427387904) : Sh.sort l = some (l.mergeSort fun x y => decide (x ≤ y)) := by rw [← Sh.isort_eq]; exact if_pos h
theorem compact_ok {l : List Int} (h : l.length < 4611686018427387904) : Sh.compact l = some (Lib.compact l) := if_pos h
end Pl
end

section
/- Who writes, and who reads, each key: what the program answers. -/
namespace Pl
open Go Go.Av

theorem right_le {h : G.api_Hist} (hr : right h = true) : h.Txns.length ≤ 32 := by
  simp only [right, Bool.and_eq_true, decide_eq_true_eq] at hr; exact hr.1
theorem right_txn {h : G.api_Hist} (hr : right h = true) {t : G.api_Txn} (ht : t ∈ h.Txns) : ∃ n : Int, okT h n t = true := by
  simp only [right, Bool.and_eq_true] at hr
  have key : ∀ (l : List G.api_Txn) (n : Nat), okAll h n l = true → ∀ t ∈ l, ∃ n : Int, okT h n t = true := by
    intro l
    induction l with
    | nil => intro n _ t ht; cases ht
    | cons x l ih =>
      intro n hn t ht
      rw [show okAll h n (x :: l) = (okT h (n : Nat) x && okAll h (n + 1) l) from rfl, Bool.and_eq_true] at hn
      rcases List.mem_cons.1 ht with rfl | ht
      · exact ⟨_, hn.1⟩
      · exact ih _ hn.2 t ht
  exact key _ 0 hr.2 t ht
theorem rising_len : ∀ {l : List Int} {last : Int}, rising last l = true → last ≤ 15 → (l.length : Int) ≤ 15 - last
  | [], last, _, h => by simp; omega
  | x :: l, last, hr, h => by
    rw [show rising last (x :: l) = (decide (last < x) && decide (x < 16) && rising x l) from rfl] at hr
    simp only [Bool.and_eq_true, decide_eq_true_eq] at hr
    have := rising_len hr.2 (by omega)
    simp only [List.length_cons]; omega
theorem rising_mem : ∀ {l : List Int} {last : Int}, rising last l = true → ∀ x ∈ l, last < x ∧ x < 16
  | [], _, _, x, hx => by cases hx
  | y :: l, last, hr, x, hx => by
    rw [show rising last (y :: l) = (decide (last < y) && decide (y < 16) && rising y l) from rfl] at hr
    simp only [Bool.and_eq_true, decide_eq_true_eq] at hr
    rcases List.mem_cons.1 hx with rfl | hx
    · exact hr.1
    · have := rising_mem hr.2 x hx; omega
theorem takes_len {h : G.api_Hist} {n : Int} : ∀ {l : List G.api_Take} {last : Int}, takes h n last l = true → last ≤ 15 → (l.length : Int) ≤ 15 - last
  | [], last, _, h => by simp; omega
  | x :: l, last, hr, h2 => by
    rw [show takes h n last (x :: l) = (decide (last < x.Key) && decide (x.Key < 16) && there h n x && takes h n x.Key l) from rfl] at hr
    simp only [Bool.and_eq_true, decide_eq_true_eq] at hr
    have := takes_len hr.2 (by omega)
    simp only [List.length_cons]; omega
theorem right_writes {h : G.api_Hist} (hr : right h = true) {t : G.api_Txn} (ht : t ∈ h.Txns) : rising (-1) t.Writes = true ∧ t.Writes.length ≤ 16 := by
  obtain ⟨n, hn⟩ := right_txn hr ht
  simp only [okT, Bool.and_eq_true] at hn
  have := rising_len hn.1.1.1 (by omega)
  exact ⟨hn.1.1.1, by omega⟩
theorem right_takes {h : G.api_Hist} (hr : right h = true) {t : G.api_Txn} (ht : t ∈ h.Txns) : ∃ n : Int, takes h n (-1) t.Reads = true ∧ t.Reads.length ≤ 16 := by
  obtain ⟨n, hn⟩ := right_txn hr ht
  simp only [okT, Bool.and_eq_true] at hn
  have := takes_len hn.1.1.2 (by omega)
  exact ⟨n, hn.1.1.2, by omega⟩

theorem pWriters {h : G.api_Hist} (hf : Fits h) (key : Int) : G.index_Writers h key = some (writers h key) := by
  unfold G.index_Writers writers
  rw [pRight hf]
  simp only [Option.bind_some]
  cases hr : right h with
  | false => rfl
  | true =>
    have hn := right_le hr
    simp only [Bool.not_true, Bool.false_eq_true, if_false, if_true]
    refine count_exit (fun k => ((List.range k).filter fun t : Nat => hasW (tx h t) key).map fun t : Nat => (t : Int)) h.Txns.length _ (fuel_gt (by omega)) (fun k hk => ?_) ?_ rfl
    · have hle : ((List.range k).filter fun t : Nat => hasW (tx h t) key).length ≤ k := by
        have := List.length_filter_le (fun t : Nat => hasW (tx h t) key) (List.range k); simpa using this
      have hw := hf.writes _ (tx_in hk)
      simp only [G.index_Writers_b1, dec_lt, hk, decide_true, if_true, idx_nat hk, Option.bind_some]
      rw [pHas (by omega), List.range_succ, List.filter_append, List.map_append]
      simp only [Option.bind_some]
      have e : (tx h (k : Int)).Writes.any (fun x => decide (key = x)) = hasW (tx h (k : Int)) key := rfl
      rw [e]
      cases hw : hasW (tx h k) key with
      | false => simp [G.index_Writers_j2, w64_succ (show k < 9223372036854775807 by omega), Sh.next, hw]
      | true =>
        simp only [if_true]
        rw [app_ok (by simp; omega)]
        simp [G.index_Writers_j2, w64_succ (show k < 9223372036854775807 by omega), Sh.next, hw]
    · simp [G.index_Writers_b1, G.index_Writers_j1, Sh.len]

def keysN (h : G.api_Hist) : List Nat := (List.range 16).filter fun k : Nat => h.Txns.any fun t => hasW t k
def keys (h : G.api_Hist) : List Int := if right h then (keysN h).map fun k : Nat => (k : Int) else []
theorem flatMap_take_len {α β : Type} (f : α → List β) (b : Nat) : ∀ (l : List α), (∀ x ∈ l, (f x).length ≤ b) → (l.flatMap f).length ≤ l.length * b
  | [], _ => by simp
  | x :: l, h => by
    have h1 := h x (List.mem_cons_self ..)
    have h2 := flatMap_take_len f b l fun y hy => h y (List.mem_cons_of_mem _ hy)
    simp only [List.flatMap_cons, List.length_append, List.length_cons, Nat.add_mul, Nat.one_mul]
    omega
theorem pKeys {h : G.api_Hist} (hf : Fits h) : G.index_Keys h = some (keys h) := by
  unfold G.index_Keys keys
  rw [pRight hf]
  simp only [Option.bind_some]
  cases hr : right h with
  | false => rfl
  | true =>
    have hn := right_le hr
    simp only [Bool.not_true, Bool.false_eq_true, if_false, if_true]
    have hwl : ∀ t ∈ h.Txns, t.Writes.length ≤ 16 := fun t ht => (right_writes hr ht).2
    refine count_exit (fun k => (h.Txns.take k).flatMap (·.Writes)) h.Txns.length _ (fuel_gt (by omega)) (fun k hk => ?_) ?_ rfl
    · have hle := flatMap_take_len (fun t : G.api_Txn => t.Writes) 16 (h.Txns.take k) fun t ht => hwl t (List.mem_of_mem_take ht)
      have hle2 := hwl _ (List.getElem_mem hk)
      have hl3 : (h.Txns.take k).length ≤ 32 := by simp; omega
      have hle3 : (h.Txns.take k).length * 16 ≤ 32 * 16 := Nat.mul_le_mul_right _ hl3
      simp only [G.index_Keys_b1, dec_lt, hk, decide_true, if_true, idx_at hk, Option.bind_some]
      rw [app_ok (by omega)]
      simp only [Option.bind_some, w64_succ (show k < 9223372036854775807 by omega), Sh.next]
      rw [List.take_add_one, List.getElem?_eq_getElem hk, Option.toList_some, List.flatMap_append]
      simp
    · simp only [G.index_Keys_b1, dec_lt, Nat.lt_irrefl, decide_false, Bool.false_eq_true, if_false, G.index_Keys_j1, List.take_length]
      have hle := flatMap_take_len (fun t : G.api_Txn => t.Writes) 16 h.Txns hwl
      have hle3 : h.Txns.length * 16 ≤ 32 * 16 := Nat.mul_le_mul_right _ hn
      rw [sort_ok (by omega)]
      simp only [Option.bind_some]
      rw [compact_ok (by simp only [List.length_mergeSort]; omega)]
      simp only [Option.bind_some]
      rw [sort_compact _ ((keysN h).map fun k : Nat => (k : Int)) ?_ ?_]
      · rw [List.pairwise_map]
        exact List.Pairwise.imp (R := fun a b : Nat => a < b) (fun {a b} hab => by omega) (List.Pairwise.filter _ List.pairwise_lt_range)
      · intro x
        simp only [List.mem_map, keysN, List.mem_filter, List.mem_range, List.any_eq_true, List.mem_flatMap]
        constructor
        · rintro ⟨k, ⟨h1, t, ht, hw⟩, rfl⟩
          refine ⟨t, ht, ?_⟩
          simp only [hasW, List.any_eq_true, decide_eq_true_eq] at hw
          obtain ⟨y, hy, rfl⟩ := hw; exact hy
        · rintro ⟨t, ht, hx⟩
          have := rising_mem (right_writes hr ht).1 x hx
          refine ⟨x.toNat, ⟨by omega, t, ht, ?_⟩, by omega⟩
          simp only [hasW, List.any_eq_true, decide_eq_true_eq]
          exact ⟨x, hx, by omega⟩

end Pl
end

section
/- From whom anybody reads a key: what the program answers. -/
namespace Pl
open Go Go.Av

theorem from_pass {h : G.api_Hist} {t0 key : Int} {k : Nat} (hk : k < h.Txns.length) (hn : h.Txns.length ≤ 32) (hl : (tx h k).Reads.length ≤ 16) (c : Int) (d : Bool) (hno : ∀ r ∈ (tx h k).Reads, ¬ ((k : Int) = t0 ∧ r.Key = key)) :
    G.index_reads_1__index_From__r_b1 t0 key h c d k = some (.inl (c, d, ((k + 1 : Nat) : Int))) := by
  simp only [G.index_reads_1__index_From__r_b1, dec_lt, hk, decide_true, if_true, idx_nat hk, Option.bind_some]
  refine run_exit (fun i => (c, d, (i : Int))) (tx h k).Reads.length _ (fuel_gt (by omega)) (fun i hi => ?_) ?_ rfl
  · have := hno _ (List.getElem_mem hi)
    simp only [G.index_reads_1__index_From__r_b2, dec_lt, hi, decide_true, if_true, idx_at hi, Option.bind_some, G.index_From__r, G.index_From__r_j1, w64_succ (show i < 9223372036854775807 by omega), Sh.next]
    by_cases h1 : (k : Int) = t0
    · have h2 : ¬ ((tx h k).Reads[i]).Key = key := fun h2 => this ⟨h1, h2⟩
      rw [decide_eq_true h1, decide_eq_false h2]; rfl
    · rw [decide_eq_false h1]; rfl
  · simp [G.index_reads_1__index_From__r_b2, G.index_reads_1__index_From__r_j1, w64_succ (show k < 9223372036854775807 by omega), Sh.next]
theorem pFrom {h : G.api_Hist} (hf : Fits h) (t key : Int) : G.index_From h t key = some (match fromR h t key with | some v => (v, true) | none => (0, false)) := by
  unfold G.index_From G.index_reads G.index_reads_1__index_From__r
  simp only [Option.bind_some]
  rw [pRight hf]
  simp only [Option.bind_some]
  cases hr : right h with
  | false => simp [fromR, hr]
  | true =>
    have hn := right_le hr
    simp only [Bool.not_true, Bool.false_eq_true, if_false]
    by_cases hx : ∃ v, fromR h t key = some v
    · obtain ⟨v, hv⟩ := hx
      rw [hv]
      unfold fromR at hv
      rw [hr] at hv
      by_cases hi : inr h t = true
      · rw [if_pos (by simp [hi])] at hv
        obtain ⟨a, b⟩ := inr_iff.1 hi
        obtain ⟨k, rfl⟩ : ∃ k : Nat, t = (k : Int) := ⟨t.toNat, by omega⟩
        have hk : k < h.Txns.length := by omega
        obtain ⟨i, hfi, hv⟩ := Option.map_eq_some_iff.1 hv
        rw [List.findIdx?_eq_some_iff_getElem] at hfi
        obtain ⟨hil, hki, hmin⟩ := hfi
        obtain ⟨_, _, hlen⟩ := right_takes hr (tx_in hk)
        have hv2 : ((tx h k).Reads[i]).From = v := by rw [← hv]; simp [List.getD, List.getElem?_eq_getElem hil]
        have e : Sh.loop (fun (p : Int × Bool × Int) => G.index_reads_1__index_From__r_b1 k key h p.1 p.2.1 p.2.2) (0, false, 0) = some (v, true, false) := by
          refine run_exit (fun j => ((0 : Int), false, (j : Int))) k _ (fuel_gt (by omega)) (fun j hj => ?_) ?_ rfl
          · obtain ⟨_, _, hlen2⟩ := right_takes hr (tx_in (show j < h.Txns.length by omega))
            exact from_pass (by omega) hn hlen2 0 false fun r _ hc => by omega
          · simp only [G.index_reads_1__index_From__r_b1, dec_lt, hk, decide_true, if_true, idx_nat hk, Option.bind_some]
            refine run_exit (fun q => ((0 : Int), false, (q : Int))) i _ (fuel_gt (by omega)) (fun q hq => ?_) ?_ rfl
            · have hql : q < (tx h k).Reads.length := by omega
              have h2 : ¬ ((tx h k).Reads[q]).Key = key := by simpa using hmin q hq
              simp only [G.index_reads_1__index_From__r_b2, dec_lt, hql, decide_true, if_true, idx_at hql, Option.bind_some, G.index_From__r, G.index_From__r_j1, h2, decide_false, Bool.false_eq_true, if_false, w64_succ (show q < 9223372036854775807 by omega), Sh.next]
            · have h2 : ((tx h k).Reads[i]).Key = key := by simpa using hki
              simp only [G.index_reads_1__index_From__r_b2, dec_lt, hil, decide_true, if_true, idx_at hil, Option.bind_some, G.index_From__r, G.index_From__r_j1, h2, Bool.false_eq_true, if_false, hv2]
        rw [e]; simp
      · have hi2 : inr h t = false := by simpa using hi
        rw [if_neg (by simp [hi2])] at hv
        cases hv
    · have hnone : fromR h t key = none := by
        cases hq : fromR h t key with
        | none => rfl
        | some v => exact absurd ⟨v, hq⟩ hx
      rw [hnone]
      have e : Sh.loop (fun (p : Int × Bool × Int) => G.index_reads_1__index_From__r_b1 t key h p.1 p.2.1 p.2.2) (0, false, 0) = some (0, false, true) := by
        refine run_exit (fun j => ((0 : Int), false, (j : Int))) h.Txns.length _ (fuel_gt (by omega)) (fun j hj => ?_) ?_ rfl
        · obtain ⟨_, _, hlen⟩ := right_takes hr (tx_in hj)
          refine from_pass hj hn hlen 0 false fun r hm hc => ?_
          apply hx
          refine ⟨r.From, ?_⟩
          rw [← hc.1, fromR_iff hr (inr_nat.2 hj)]
          simp only [List.any_eq_true, decide_eq_true_eq]
          exact ⟨r, hm, by rw [← hc.2]⟩
        · simp only [G.index_reads_1__index_From__r_b1, dec_lt, Nat.lt_irrefl, decide_false, Bool.false_eq_true, if_false]
      rw [e]; simp
end Pl
end

section
/- What is known of a history's order, and what follows from choices: the graphs that the program makes. -/


namespace Pl
open Go Go.Av

end Pl
end

section
/- Cycles: which lists are, and what is told of them. -/


namespace Pl
open Go Go.Av

end Pl
end

section
/- Law 9: who writes, and who reads, each key; all pairs. -/
namespace Pl
open Go Go.Av

theorem awake09 : G.inquestlaw09_awake = some true := by kernel_rfl
theorem keys_le (h : G.api_Hist) : (keys h).length ≤ 16 := by
  unfold keys
  split
  · have := List.length_filter_le (fun k : Nat => h.Txns.any fun t => hasW t k) (List.range 16); simpa [keysN] using this
  · simp
theorem few_len {h : G.api_Hist} (hF : few h 40 = true) : h.Txns.length ≤ 40 := by
  simp only [few, Bool.and_eq_true, decide_eq_true_eq] at hF; omega
def S (f : Nat → Nat) : Nat → Nat
  | 0 => 0
  | n + 1 => S f n + f n
theorem S_ext {f g : Nat → Nat} : ∀ {n : Nat}, (∀ i, i < n → f i = g i) → S f n = S g n
  | 0, _ => rfl
  | n + 1, h => by
    unfold S
    rw [S_ext fun i hi => h i (by omega), h n (by omega)]
theorem S_zero : ∀ n, S (fun _ => 0) n = 0
  | 0 => rfl
  | n + 1 => by unfold S; rw [S_zero n]
theorem S_add (f g : Nat → Nat) : ∀ n, S (fun i => f i + g i) n = S f n + S g n
  | 0 => rfl
  | n + 1 => by simp only [S, S_add f g n]; omega
theorem S_swap (f : Nat → Nat → Nat) (m : Nat) : ∀ n, S (fun i => S (fun j => f i j) m) n = S (fun j => S (fun i => f i j) n) m
  | 0 => (S_zero m).symm
  | n + 1 => by simp only [S, S_swap f m n, S_add]
theorem filter_S (p : Nat → Bool) : ∀ n, ((List.range n).filter p).length = S (fun i => if p i then 1 else 0) n
  | 0 => rfl
  | n + 1 => by
    rw [List.range_succ, List.filter_append, List.length_append, filter_S p n]
    show _ = S (fun i => if p i then 1 else 0) n + (if p n then 1 else 0)
    cases hp : p n <;> simp [hp]
end Pl
end

section
/- Law 9: each read is told once; a key is told just if it has a writer. -/
namespace Pl
open Go Go.Av

theorem keys_sorted {h : G.api_Hist} : (keys h).Pairwise (· < ·) := by
  unfold keys
  split
  · rw [List.pairwise_map]
    exact List.Pairwise.imp (R := fun a b : Nat => a < b) (fun {a b} hab => by omega) (List.Pairwise.filter _ List.pairwise_lt_range)
  · exact .nil
theorem mem_keys {h : G.api_Hist} {key : Int} : key ∈ keys h ↔ 0 < (writers h key).length := by
  rw [List.length_pos_iff_exists_mem]
  cases hr : right h with
  | false =>
    have h1 : keys h = [] := by unfold keys; rw [if_neg (by rw [hr]; simp)]
    have h2 : writers h key = [] := by unfold writers; rw [if_neg (by rw [hr]; simp)]
    rw [h1, h2]; simp
  | true =>
    unfold keys
    rw [if_pos hr]
    simp only [List.mem_map, keysN, List.mem_filter, List.mem_range, List.any_eq_true]
    constructor
    · rintro ⟨k, ⟨_, t, ht, hw⟩, rfl⟩
      obtain ⟨i, hi, rfl⟩ := List.getElem_of_mem ht
      refine ⟨(i : Int), (mem_writers hr).2 ⟨inr_nat.2 hi, ?_⟩⟩
      have : tx h (i : Int) = h.Txns[i] := by simp [tx, hi]
      rw [this]; exact hw
    · rintro ⟨x, hx⟩
      obtain ⟨h1, h2⟩ := (mem_writers hr).1 hx
      obtain ⟨h3, h4⟩ := hasW_lt hr (tx_mem h1) h2
      exact ⟨key.toNat, ⟨by omega, _, tx_mem h1, by rw [show ((key.toNat : Nat) : Int) = key by omega]; exact h2⟩, by omega⟩
theorem from_writes {h : G.api_Hist} (hr : right h = true) {t : Nat} (ht : t < h.Txns.length) {key v : Int} (hv : fromR h t key = some v) (h0 : ¬ v < 0) : v ∈ writers h key := by
  rw [fromR_iff hr (inr_nat.2 ht)] at hv
  simp only [List.any_eq_true, decide_eq_true_eq] at hv
  obtain ⟨r, hm, rfl⟩ := hv
  have := from_ok hr (tx_in ht) hm h0
  exact (mem_writers hr).2 ⟨this.1, this.2⟩
theorem IndexKeys (h : G.api_Hist) (key : Int) : G.inquestlaw09_IndexKeys h key = some true := by
  unfold G.inquestlaw09_IndexKeys
  rw [awake09, rFew (by omega)]
  simp only [Option.bind_some, Bool.not_true, Bool.false_eq_true, if_false]
  cases hF : few h 40 with
  | false => rfl
  | true =>
    have hf := few_fits (by omega) hF
    have hn := few_len hF
    have hkl := keys_le h
    simp only [Bool.not_true, Bool.false_eq_true, if_false, pKeys hf, Option.bind_some]
    refine run_exit (fun i => (((keys h).take i).any (fun x => decide (x = key)), (i : Int))) (keys h).length _ (fuel_gt (by omega)) (fun i hi => ?_) ?_ rfl
    · have h7 : G.inquestlaw09_IndexKeys_j7 (keys h) i (((keys h).take (i + 1)).any (fun x => decide (x = key))) = some (.inl (((keys h).take (i + 1)).any (fun x => decide (x = key)), ((i + 1 : Nat) : Int))) := by
        unfold G.inquestlaw09_IndexKeys_j7
        by_cases h0 : i = 0
        · subst h0
          simp [G.inquestlaw09_IndexKeys_j8, Sh.next]
          exact w64_succ (k := 0) (by omega)
        · have hp : (0 : Int) < (i : Int) := by omega
          have hi1 : i - 1 < (keys h).length := by omega
          simp only [hp, decide_true, if_true, idx_at hi, w64_pred (show 0 < i by omega) (show i < 9223372036854775807 by omega), idx_at hi1, Option.bind_some, G.inquestlaw09_IndexKeys_j8]
          have := List.pairwise_iff_getElem.1 (keys_sorted (h := h)) (i - 1) i hi1 hi (by omega)
          have hle : ¬ (keys h)[i] ≤ (keys h)[i - 1] := by omega
          simp only [hle, decide_false, Bool.false_eq_true, if_false, w64_succ (show i < 9223372036854775807 by omega), Sh.next]
      have ht := take_any hi (fun x => decide (x = key))
      simp only [G.inquestlaw09_IndexKeys_b3, dec_lt, hi, decide_true, if_true, idx_at hi, Option.bind_some]
      cases hc : ((keys h).take i).any (fun x => decide (x = key)) with
      | true =>
        rw [hc, Bool.true_or] at ht
        rw [if_pos rfl, ← h7, ht]
      | false =>
        rw [hc, Bool.false_or] at ht
        rw [if_neg (by simp), ← h7, ht]
    · have hin : (keys h).any (fun x => decide (x = key)) = decide (0 < (writers h key).length) := by
        rw [Bool.eq_iff_iff, decide_eq_true_eq, ← mem_keys]
        simp only [List.any_eq_true, decide_eq_true_eq]
        exact ⟨fun ⟨x, h1, h2⟩ => h2 ▸ h1, fun h1 => ⟨key, h1, rfl⟩⟩
      simp only [G.inquestlaw09_IndexKeys_b3, dec_lt, Nat.lt_irrefl, decide_false, Bool.false_eq_true, if_false, List.take_length, hin, G.inquestlaw09_IndexKeys_j1, pWriters hf, Option.bind_some]
      have e : decide ((0 : Int) < Sh.len (writers h key)) = decide (0 < (writers h key).length) := by
        rw [Sh.len]; congr 1; exact propext (by omega)
      rw [e]
      simp only [beq_self_eq_true, Bool.not_true, Bool.false_eq_true, if_false]
      congr 1
      have hwl := writers_len (h := h) (key := key)
      refine count0 h.Txns.length true (fuel_gt (by omega)) (fun t ht => ?_) ?_
      · have h3 : G.inquestlaw09_IndexKeys_j3 (t : Int) = some (.inl ((t + 1 : Nat) : Int)) := by
          unfold G.inquestlaw09_IndexKeys_j3; rw [w64_succ (show t < 9223372036854775807 by omega)]; rfl
        simp only [G.inquestlaw09_IndexKeys_b1, dec_lt, ht, decide_true, if_true, pFrom hf, Option.bind_some]
        cases hv : fromR h t key with
        | none => simp only [Bool.not_false, if_true, G.inquestlaw09_IndexKeys_j4, h3]
        | some v =>
          simp only [Bool.not_true, Bool.false_eq_true, if_false, G.inquestlaw09_IndexKeys_j4]
          by_cases h0 : v < 0
          · rw [decide_eq_true h0, if_pos rfl, h3]
          · rw [decide_eq_false h0, if_neg (by simp)]
            have hr : right h = true := by
              cases hr : right h with
              | true => rfl
              | false => unfold fromR at hv; simp [hr] at hv
            have hm := from_writes hr ht hv h0
            have hall : (writers h key).any (fun x => decide (x = v)) = true := by
              simp only [List.any_eq_true, decide_eq_true_eq]; exact ⟨v, hm, rfl⟩
            refine run_exit (fun i => (((writers h key).take i).any (fun x => decide (x = v)), (i : Int))) (writers h key).length _ (fuel_gt (by omega)) (fun i hi => ?_) ?_ rfl
            · have ht2 := take_any hi (fun x => decide (x = v))
              simp only [G.inquestlaw09_IndexKeys_b2, dec_lt, hi, decide_true, if_true, idx_at hi, Option.bind_some, G.inquestlaw09_IndexKeys_j6, w64_succ (show i < 9223372036854775807 by omega), Sh.next]
              rw [ht2]
              cases ((writers h key).take i).any (fun x => decide (x = v)) <;> simp
            · simp only [G.inquestlaw09_IndexKeys_b2, dec_lt, Nat.lt_irrefl, decide_false, Bool.false_eq_true, if_false, List.take_length, hall, G.inquestlaw09_IndexKeys_j5, Bool.not_true, h3]
      · simp [G.inquestlaw09_IndexKeys_b1, G.inquestlaw09_IndexKeys_j2, Sh.exit]

theorem S_one {p : Nat → Bool} {k n : Nat} (hk : k < n) (hp : ∀ i, i < n → p i = decide (i = k)) : S (fun i => if p i then 1 else 0) n = 1 := by
  induction n with
  | zero => omega
  | succ n ih =>
    show S _ n + (if p n then 1 else 0) = 1
    by_cases hkn : k = n
    · subst hkn
      have h0 : S (fun i => if p i then 1 else 0) k = S (fun _ => 0) k := S_ext fun i hi => by
        rw [hp i (by omega), decide_eq_false (by omega)]; rfl
      rw [h0, S_zero, hp k (by omega)]; simp
    · rw [ih (by omega) (fun i hi => hp i (by omega)), hp n (by omega), decide_eq_false (by omega)]; rfl
theorem asc_count : ∀ {l : List Int}, l.Pairwise (· < ·) → (∀ x ∈ l, 0 ≤ x ∧ x < 16) → S (fun k => if l.any (fun x => decide (x = (k : Int))) then 1 else 0) 16 = l.length
  | [], _, _ => by
    have : S (fun k => if ([] : List Int).any (fun x => decide (x = (k : Int))) then 1 else 0) 16 = S (fun _ => 0) 16 := S_ext fun i _ => by simp
    rw [this, S_zero]; rfl
  | x :: l, hs, hb => by
    rw [List.pairwise_cons] at hs
    have ih := asc_count hs.2 fun y hy => hb y (List.mem_cons_of_mem _ hy)
    have hx := hb x (List.mem_cons_self ..)
    have e : S (fun k => if (x :: l).any (fun y => decide (y = (k : Int))) then 1 else 0) 16 = S (fun k => (if decide (k = x.toNat) then 1 else 0) + (if l.any (fun y => decide (y = (k : Int))) then 1 else 0)) 16 := S_ext fun k _ => by
      rw [List.any_cons]
      by_cases hk : k = x.toNat
      · have h1 : x = (k : Int) := by omega
        have h2 : l.any (fun y => decide (y = (k : Int))) = false := by
          rw [List.any_eq_false]
          intro y hy
          have := hs.1 y hy
          simp only [decide_eq_true_eq]; omega
        rw [h2, decide_eq_true hk, decide_eq_true h1]; rfl
      · have h1 : ¬ x = (k : Int) := by omega
        rw [decide_eq_false hk, decide_eq_false h1]; simp
    rw [e, S_add, ih, S_one (p := fun k => decide (k = x.toNat)) (k := x.toNat) (by omega) (fun i _ => rfl)]
    simp; omega
theorem takes_asc {h : G.api_Hist} {n : Int} : ∀ {l : List G.api_Take} {last : Int}, takes h n last l = true → (l.map (·.Key)).Pairwise (· < ·)
  | [], _, _ => .nil
  | x :: l, last, hr => by
    rw [show takes h n last (x :: l) = (decide (last < x.Key) && decide (x.Key < 16) && there h n x && takes h n x.Key l) from rfl] at hr
    simp only [Bool.and_eq_true, decide_eq_true_eq] at hr
    rw [List.map_cons, List.pairwise_cons]
    refine ⟨fun y hy => ?_, takes_asc hr.2⟩
    obtain ⟨r, hm, rfl⟩ := List.mem_map.1 hy
    exact takes_gt hr.2 r hm
theorem takes_lt16 {h : G.api_Hist} {n : Int} : ∀ {l : List G.api_Take} {last : Int}, takes h n last l = true → ∀ r ∈ l, r.Key < 16
  | [], _, _, r, hr => by cases hr
  | x :: l, last, ht, r, hr => by
    rw [show takes h n last (x :: l) = (decide (last < x.Key) && decide (x.Key < 16) && there h n x && takes h n x.Key l) from rfl] at ht
    simp only [Bool.and_eq_true, decide_eq_true_eq] at ht
    rcases List.mem_cons.1 hr with rfl | hr
    · exact ht.1.1.2
    · exact takes_lt16 ht.2 r hr
theorem told {h : G.api_Hist} (hr : right h = true) : S (fun k => S (fun f => (readers h (k : Int) ((f : Int) - 1)).length) (h.Txns.length + 1)) 16 = S (fun t => (tx h (t : Int)).Reads.length) h.Txns.length := by
  have e1 : ∀ k f : Nat, (readers h (k : Int) ((f : Int) - 1)).length = S (fun t => if decide (fromR h (t : Int) (k : Int) = some ((f : Int) - 1)) then 1 else 0) h.Txns.length := fun k f => filter_S _ _
  have e2 : ∀ k : Nat, S (fun f => (readers h (k : Int) ((f : Int) - 1)).length) (h.Txns.length + 1) = S (fun t => S (fun f => if decide (fromR h (t : Int) (k : Int) = some ((f : Int) - 1)) then 1 else 0) (h.Txns.length + 1)) h.Txns.length := fun k => by
    rw [S_ext fun f _ => e1 k f, S_swap]
  rw [S_ext fun k _ => e2 k, S_swap]
  refine S_ext fun t ht => ?_
  obtain ⟨n, htk, _⟩ := right_takes hr (tx_in ht)
  have e3 : ∀ k : Nat, k < 16 → S (fun f => if decide (fromR h (t : Int) (k : Int) = some ((f : Int) - 1)) then 1 else 0) (h.Txns.length + 1) = if ((tx h (t : Int)).Reads.map (·.Key)).any (fun x => decide (x = (k : Int))) then 1 else 0 := fun k _ => by
    cases hv : fromR h (t : Int) (k : Int) with
    | none =>
      have hz : S (fun f => if decide ((none : Option Int) = some ((f : Int) - 1)) then 1 else 0) (h.Txns.length + 1) = S (fun _ => 0) (h.Txns.length + 1) := S_ext fun f _ => by simp
      rw [hz, S_zero]
      have : ((tx h (t : Int)).Reads.map (·.Key)).any (fun x => decide (x = (k : Int))) = false := by
        rw [List.any_eq_false]
        intro x hx
        obtain ⟨r, hm, rfl⟩ := List.mem_map.1 hx
        simp only [decide_eq_true_eq]
        intro he
        have hv2 : fromR h (t : Int) (k : Int) = some r.From := by
          rw [fromR_iff hr (inr_nat.2 ht)]
          simp only [List.any_eq_true, decide_eq_true_eq]
          exact ⟨r, hm, by rw [← he]⟩
        rw [hv] at hv2; cases hv2
      rw [this]; rfl
    | some v =>
      have hv2 := hv
      rw [fromR_iff hr (inr_nat.2 ht)] at hv2
      simp only [List.any_eq_true, decide_eq_true_eq] at hv2
      obtain ⟨r, hm, rfl⟩ := hv2
      have hb : -1 ≤ v ∧ v < h.Txns.length := by
        by_cases h0 : v < 0
        · have := (from_neg hr (tx_in ht) hm).1 h0
          simp only at this; omega
        · obtain ⟨x, hx, hxn⟩ := from_in hr ht hm h0
          simp only at hx; omega
      rw [S_one (p := fun f => decide (some v = some ((f : Int) - 1))) (k := (v + 1).toNat) (by omega) (fun i _ => by
        rw [Bool.eq_iff_iff, decide_eq_true_eq, decide_eq_true_eq, Option.some.injEq]; omega)]
      have : ((tx h (t : Int)).Reads.map (·.Key)).any (fun x => decide (x = (k : Int))) = true := by
        simp only [List.any_eq_true, decide_eq_true_eq]
        exact ⟨_, List.mem_map.2 ⟨_, hm, rfl⟩, rfl⟩
      rw [this]; rfl
  rw [S_ext e3, asc_count (takes_asc htk) (fun x hx => by
    obtain ⟨r, hm, rfl⟩ := List.mem_map.1 hx
    have := takes_gt htk r hm
    have := takes_lt16 htk r hm
    omega)]
  simp
end Pl
end
