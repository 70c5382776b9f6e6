/- What the plain functions answer. -/
import Derived.Test.YtleihjegenjacaaGreatBase1
import Derived.Test.YtleihjegenjacaaGreatSh
import Derived.KernelRfl
set_option linter.unusedSimpArgs false
set_option linter.unusedVariables false
section
/- What is used to reason about the plain functions. -/
namespace Pl
open Go Go.Av

theorem w64_id {n : Int} (h1 : -9223372036854775808 ≤ n) (h2 : n < 9223372036854775808) : w64 n = n := i64_wrap h1 h2
theorem idx_at {α : Type} {l : List α} {k : Nat} (h : k < l.length) : Sh.idx l (k : Int) = some l[k] := by
  simp [Sh.idx, h]
theorem app_ok {α : Type} {b : Nat} {l m : List α} (h : (l.length + m.length) * b ≤ 140737488355328) : Sh.app b l m = some (l ++ m) := by
  simp [Sh.app, h]
theorem sub_ok {α : Type} {l : List α} {m k : Nat} (h1 : m ≤ k) (h2 : k ≤ l.length) : Sh.sub l (m : Int) (k : Int) = some ((l.drop m).take (k - m)) := by
  unfold Sh.sub
  rw [if_pos ⟨by omega, by omega, by omega⟩]
  simp
theorem count {σ α : Type} {b : σ × Int → Option ((σ × Int) ⊕ α)} (S : Nat → σ) (m : Nat) (r : α) (hm : m < Sh.FUEL) (h : ∀ k, k < m → b (S k, (k : Int)) = some (.inl (S (k + 1), ((k + 1 : Nat) : Int)))) (hr : b (S m, (m : Int)) = some (.inr r)) {s : σ} (hs : s = S 0) :
    Sh.loop b (s, 0) = some r := by
  subst hs
  exact Sh.loop_run (fun k => (S k, (k : Int))) m r hm h hr
theorem count0 {α : Type} {b : Int → Option (Int ⊕ α)} (m : Nat) (r : α) (hm : m < Sh.FUEL) (h : ∀ k, k < m → b (k : Int) = some (.inl ((k + 1 : Nat) : Int))) (hr : b (m : Int) = some (.inr r)) : Sh.loop b 0 = some r :=
  Sh.loop_run (fun k => (k : Int)) m r hm h hr
theorem fuel_gt {n : Nat} (h : n < 9223372036854775808) : n < Sh.FUEL := h
theorem w64_succ {k : Nat} (h : k < 9223372036854775807) : w64 ((k : Int) + 1) = ((k + 1 : Nat) : Int) := by
  rw [w64_id (by omega) (by omega)]; omega
theorem len_eq {α : Type} (l : List α) : Sh.len l = (l.length : Int) := rfl
theorem dec_lt {k n : Nat} : decide ((k : Int) < (n : Int)) = decide (k < n) := by
  congr 1; exact propext (by omega)
end Pl
namespace Pl
open Go Go.Av
end Pl
namespace Pl
open Go Go.Av
theorem run_exit {σ α : Type} {b : σ → Option (σ ⊕ α)} (S : Nat → σ) (m : Nat) (X : Option α) (hm : m < Sh.FUEL) (h : ∀ k, k < m → b (S k) = some (.inl (S (k + 1)))) (hr : b (S m) = Sh.exit X) {s : σ} (hs : s = S 0) : Sh.loop b s = X := by
  subst hs
  unfold Sh.loop
  rw [show Sh.FUEL = m + ((Sh.FUEL - m - 1) + 1) by omega, Sh.iter_go S m h]
  simp only [Sh.iter, hr]
  cases X <;> rfl
theorem count_exit {σ α : Type} {b : σ × Int → Option ((σ × Int) ⊕ α)} (S : Nat → σ) (m : Nat) (X : Option α) (hm : m < Sh.FUEL) (h : ∀ k, k < m → b (S k, (k : Int)) = some (.inl (S (k + 1), ((k + 1 : Nat) : Int)))) (hr : b (S m, (m : Int)) = Sh.exit X) {s : σ} (hs : s = S 0) :
    Sh.loop b (s, 0) = X := run_exit (fun k => (S k, (k : Int))) m X hm h hr (by rw [hs]; rfl)
end Pl
end

section
/- Loops over lists. -/
namespace Pl
open Go Go.Av

def foldE {σ α β : Type} (step : Nat → σ → α → σ ⊕ β) (X : σ → Option β) : Nat → List α → σ → Option β
  | _, [], s => X s
  | k, x :: l, s => match step k s x with
    | .inl s' => foldE step X (k + 1) l s'
    | .inr r => some r

theorem loop_step {σ β : Type} {b : σ → Option (σ ⊕ β)} {n : Nat} {s s' : σ} (h : b s = some (.inl s')) : Sh.iter b (n + 1) s = Sh.iter b n s' := by simp [Sh.iter, h]
theorem loop_stop {σ β : Type} {b : σ → Option (σ ⊕ β)} {n : Nat} {s : σ} {r : β} (h : b s = some (.inr r)) : Sh.iter b (n + 1) s = some r := by simp [Sh.iter, h]
theorem loop_exit {σ β : Type} {b : σ → Option (σ ⊕ β)} {n : Nat} {s : σ} {X : Option β} (h : b s = Sh.exit X) : Sh.iter b (n + 1) s = X := by cases X <;> simp [Sh.iter, h, Sh.exit]

theorem iter_fold {σ τ α β : Type} {b : τ → Option (τ ⊕ β)} (S : σ → Nat → τ) (step : Nat → σ → α → σ ⊕ β) (X : σ → Option β) (l0 : List α)
    (h : ∀ (k : Nat) (s : σ) (hk : k < l0.length), b (S s k) = match step k s l0[k] with | .inl s' => some (.inl (S s' (k + 1))) | .inr r => some (.inr r))
    (he : ∀ s, b (S s l0.length) = Sh.exit (X s)) : ∀ (l : List α) (k n : Nat) (s : σ), l0.drop k = l → k ≤ l0.length → l.length < n → Sh.iter b n (S s k) = foldE step X k l s := by
  intro l
  induction l with
  | nil =>
    intro k n s hl hk hn
    have hk2 : k = l0.length := by
      have : (l0.drop k).length = 0 := by rw [hl]; rfl
      simp at this; omega
    subst hk2
    obtain ⟨n, rfl⟩ : ∃ m, n = m + 1 := ⟨n - 1, by simp at hn; omega⟩
    exact loop_exit (he s)
  | cons x l ih =>
    intro k n s hl hk hn
    have hlen : (l0.drop k).length = l.length + 1 := by rw [hl]; rfl
    have hk2 : k < l0.length := by simp at hlen; omega
    obtain ⟨n, rfl⟩ : ∃ m, n = m + 1 := ⟨n - 1, by simp at hn; omega⟩
    have hx : l0[k] = x ∧ l0.drop (k + 1) = l := by
      rw [List.drop_eq_getElem_cons hk2] at hl
      simp only [List.cons.injEq] at hl
      exact hl
    have hb := h k s hk2
    rw [hx.1] at hb
    simp only [foldE]
    cases hs : step k s x with
    | inl s' =>
      rw [hs] at hb
      rw [loop_step hb]
      exact ih (k + 1) n s' hx.2 hk2 (by simp at hn; omega)
    | inr r =>
      rw [hs] at hb
      exact loop_stop hb

theorem loop_fold {σ τ α β : Type} {b : τ → Option (τ ⊕ β)} (S : σ → Nat → τ) (step : Nat → σ → α → σ ⊕ β) (X : σ → Option β) (l : List α) (hm : l.length < Sh.FUEL)
    (h : ∀ (k : Nat) (s : σ) (hk : k < l.length), b (S s k) = match step k s l[k] with | .inl s' => some (.inl (S s' (k + 1))) | .inr r => some (.inr r))
    (he : ∀ s, b (S s l.length) = Sh.exit (X s)) (s : σ) {t : τ} (ht : t = S s 0) : Sh.loop b t = foldE step X 0 l s := by
  subst ht
  exact iter_fold S step X l h he l 0 Sh.FUEL s rfl (Nat.zero_le _) hm

theorem find_loop {α β : Type} {b : Int → Option (Int ⊕ β)} (l : List α) (p : α → Bool) (A : Nat → β) (X : Option β) (hm : l.length < Sh.FUEL)
    (h : ∀ (k : Nat) (hk : k < l.length), b (k : Int) = if p l[k] then some (.inr (A k)) else some (.inl ((k + 1 : Nat) : Int)))
    (he : b (l.length : Int) = Sh.exit X) : Sh.loop b 0 = (l.findIdx? p).elim X (fun k => some (A k)) := by
  rw [loop_fold (σ := Unit) (α := α) (fun _ k => (k : Int)) (fun k _ x => if p x then .inr (A k) else .inl ()) (fun _ => X) l hm (fun k s hk => ?_) (fun _ => he) () (t := (0 : Int)) rfl]
  · have key : ∀ (l : List α) (k : Nat), foldE (fun k (_ : Unit) x => if p x then Sum.inr (A k) else Sum.inl ()) (fun _ => X) k l () = (l.findIdx? p).elim X (fun i => some (A (k + i))) := by
      intro l
      induction l with
      | nil => intro k; simp [foldE]
      | cons x l ih =>
        intro k
        simp only [foldE, List.findIdx?_cons]
        cases hp : p x with
        | true => simp
        | false =>
          simp only [Bool.false_eq_true, if_false]
          rw [ih (k + 1)]
          cases l.findIdx? p with
          | none => rfl
          | some i => simp only [Option.map_some, Option.elim_some]; congr 2; omega
    rw [key l 0]
    simp
  · rw [h k hk]
    cases p l[k] <;> rfl

theorem any_loop {α β : Type} {b : Int → Option (Int ⊕ β)} (l : List α) (p : α → Bool) (A : β) (X : Option β) (hm : l.length < Sh.FUEL)
    (h : ∀ (k : Nat) (hk : k < l.length), b (k : Int) = if p l[k] then some (.inr A) else some (.inl ((k + 1 : Nat) : Int)))
    (he : b (l.length : Int) = Sh.exit X) : Sh.loop b 0 = if l.any p then some A else X := by
  rw [find_loop l p (fun _ => A) X hm h he]
  cases hf : l.findIdx? p with
  | none =>
    have : l.any p = false := by
      rw [List.findIdx?_eq_none_iff] at hf
      rw [List.any_eq_false]
      intro x hx
      simpa using hf x hx
    rw [this]; rfl
  | some i =>
    have : l.any p = true := by
      rw [List.any_eq_true]
      rw [List.findIdx?_eq_some_iff_getElem] at hf
      obtain ⟨hi, hp, _⟩ := hf
      exact ⟨l[i], List.getElem_mem hi, hp⟩
    rw [this]; rfl

def pos {α : Type} (l : List α) (p : α → Bool) : Int := (l.findIdx? p).elim (-1) (fun k => (k : Int))
end Pl
end

section
/- Numbers as bytes, and back. -/
namespace Pl
open Go Go.Av

def grp (n : Nat) : List Int := if h : n < 128 then [(n : Int)] else ((n % 128 + 128 : Nat) : Int) :: grp (n / 128)
 termination_by n
 decreasing_by omega
theorem grp_small {n : Nat} (h : n < 128) : grp n = [(n : Int)] := by rw [grp]; simp [h]
theorem grp_big {n : Nat} (h : ¬ n < 128) : grp n = ((n % 128 + 128 : Nat) : Int) :: grp (n / 128) := by rw [grp]; simp [h]
theorem grp_len : ∀ (k n : Nat), n < 128 ^ k → 0 < k → (grp n).length ≤ k := by
  intro k
  induction k with
  | zero => intro n _ h; omega
  | succ k ih =>
    intro n hn _
    by_cases h : n < 128
    · rw [grp_small h]; simp
    · rw [grp_big h]
      have hk : 0 < k := by
        rcases Nat.eq_zero_or_pos k with h0 | h0
        · subst h0; simp at hn; omega
        · exact h0
      have : n / 128 < 128 ^ k := by rw [Nat.pow_succ] at hn; omega
      have := ih _ this hk
      simp; omega

theorem bor_top {q : Int} (h0 : 0 ≤ q) (h1 : q < 128) : Sh.bor .u8 (IntKind.u8.wrap q) 128 = q + 128 := by
  obtain ⟨n, rfl⟩ : ∃ n : Nat, q = n := ⟨q.toNat, by omega⟩
  have hn : n < 128 := by omega
  have : ∀ n : Fin 128, Sh.bor .u8 (IntKind.u8.wrap (n.val : Int)) 128 = (n.val : Int) + 128 := by decide +kernel
  exact this ⟨n, hn⟩
theorem wrap_u8 {q : Int} (h0 : 0 ≤ q) (h1 : q < 256) : IntKind.u8.wrap q = q := by
  simp only [IntKind.wrap, IntKind.signed, IntKind.bits]
  simp
  omega
theorem band_low (x : UInt8) : Sh.band .u8 (x.toNat : Int) 127 = ((x.toNat % 128 : Nat) : Int) := by
  have : ∀ n : Fin 256, Sh.band .u8 (n.val : Int) 127 = ((n.val % 128 : Nat) : Int) := by decide +kernel
  exact this ⟨x.toNat, x.toNat_lt⟩
theorem ishr7 {n : Nat} : Sh.ishr .i64 (n : Int) ((7#64).toNat : Int) = some ((n / 128 : Nat) : Int) := by
  have e : ((7#64).toNat : Int) = 7 := rfl
  rw [e]
  unfold Sh.ishr
  rw [if_neg (by omega)]
  congr 1
  show Int.fdiv (n : Int) (2 ^ 7) = _
  rw [Int.fdiv_eq_ediv_of_nonneg _ (by decide)]
  omega
theorem rem128 {n : Nat} : Sh.rem (n : Int) 128 = some ((n % 128 : Nat) : Int) := by
  unfold Sh.rem
  rw [if_pos (by decide)]
  congr 1
theorem ishl_grp {m i : Nat} (hm : m < 128) (hi : i < 5) : Sh.ishl .i64 (w64 (m : Int)) (w64 (7 * (i : Int))) = some ((m * 128 ^ i : Nat) : Int) := by
  have e1 : w64 (m : Int) = m := w64_id (by omega) (by omega)
  have e2 : w64 (7 * (i : Int)) = ((7 * i : Nat) : Int) := by rw [w64_id (by omega) (by omega)]; omega
  rw [e1, e2]
  unfold Sh.ishl
  rw [if_neg (by omega)]
  have e3 : Min.min (((7 * i : Nat) : Int).toNat) IntKind.i64.bits = 7 * i := by
    simp only [IntKind.bits]; omega
  rw [e3]
  have e4 : (m : Int) * 2 ^ (7 * i) = ((m * 128 ^ i : Nat) : Int) := by
    have : (128 : Nat) ^ i = 2 ^ (7 * i) := by rw [Nat.pow_mul]
    rw [this]
    simp
  rw [e4]
  have hp : 128 ^ i ≤ 128 ^ 4 := Nat.pow_le_pow_right (by omega) (by omega)
  have hlt : m * 128 ^ i ≤ 127 * 128 ^ 4 := Nat.mul_le_mul (by omega) hp
  exact congrArg some (w64_id (by omega) (by omega))
theorem bor_grp {n m i : Nat} (hn : n < 128 ^ i) (hm : m < 128) (hi : i < 5) : Sh.bor .i64 (n : Int) ((m * 128 ^ i : Nat) : Int) = ((n + m * 128 ^ i : Nat) : Int) := by
  have hp : 128 ^ i ≤ 128 ^ 4 := Nat.pow_le_pow_right (by omega) (by omega)
  have hlt : m * 128 ^ i ≤ 127 * 128 ^ 4 := Nat.mul_le_mul (by omega) hp
  unfold Sh.bor
  have e1 : (BitVec.ofInt IntKind.i64.bits (n : Int) ||| BitVec.ofInt IntKind.i64.bits ((m * 128 ^ i : Nat) : Int)).toNat = n + m * 128 ^ i := by
    have a1 : (BitVec.ofInt 64 (n : Int)).toNat = n := by rw [BitVec.toNat_ofInt]; omega
    have a2 : (BitVec.ofInt 64 ((m * 128 ^ i : Nat) : Int)).toNat = m * 128 ^ i := by rw [BitVec.toNat_ofInt]; omega
    show (BitVec.ofInt 64 (n : Int) ||| BitVec.ofInt 64 ((m * 128 ^ i : Nat) : Int)).toNat = _
    rw [BitVec.toNat_or, a1, a2]
    have e : 128 ^ i = 2 ^ (7 * i) := by rw [Nat.pow_mul]
    rw [e] at hn ⊢
    rw [Nat.mul_comm m, Nat.or_comm, ← Nat.two_pow_add_eq_or_of_lt hn, Nat.add_comm]
  rw [e1]
  exact w64_id (by omega) (by omega)

theorem app1_ok {l : List Int} {x : Int} (h : l.length < 1000000000) : Sh.app 1 l [x] = some (l ++ [x]) := app_ok (by simp; omega)
theorem pGroups {f : Nat} : ∀ {n : Nat} {out : List Int}, n < f → out.length + n < 1000000000 + 2147483648 → out.length + (grp n).length < 1000000000 → Sh.iter (fun (p : (List Int) × Int) => G.pack_groups_1__pack_Put__r_b1 p.1 p.2) f (out, (n : Int)) = some (out ++ grp n) := by
  induction f with
  | zero => intro n out h; omega
  | succ f ih =>
    intro n out hn hb hl
    by_cases h : n < 128
    · rw [grp_small h] at hl ⊢
      simp only [List.length_singleton] at hl
      refine loop_exit (X := G.pack_groups_1__pack_Put__r_j1 out (n : Int)) ?_ |>.trans ?_
      · simp only [G.pack_groups_1__pack_Put__r_b1]
        rw [if_neg (by simp; omega)]
      · unfold G.pack_groups_1__pack_Put__r_j1 G.pack_Put__r
        rw [wrap_u8 (by omega) (by omega), app1_ok (by omega)]
        rfl
    · rw [grp_big h] at hl ⊢
      simp only [List.length_cons] at hl
      refine (loop_step (s' := (out ++ [((n % 128 + 128 : Nat) : Int)], ((n / 128 : Nat) : Int))) ?_).trans ?_
      · simp only [G.pack_groups_1__pack_Put__r_b1]
        rw [if_pos (by simp; omega), rem128, Option.bind_some, bor_top (by omega) (by omega)]
        unfold G.pack_Put__r
        rw [app1_ok (by omega)]
        simp only [Option.bind_some, ishr7, Sh.next]
        rfl
      · rw [ih (by omega) (by simp; omega) (by simp; omega)]
        simp
theorem pGroups1 {n : Nat} {out : List Int} (hn : n ≤ 2147483648) (hl : out.length < 900000000) : G.pack_groups_1__pack_Put__r out (n : Int) = some (out ++ grp n) := by
  have := grp_len 5 n (by omega) (by omega)
  exact pGroups (f := Sh.FUEL) (fuel_gt (by omega)) (by omega) (by omega)
theorem pGroups2 {n : Nat} {out : List Int} (hn : n ≤ 2147483648) (hl : out.length < 900000000) : G.pack_groups_1__pack_Put__r_2 out (n : Int) = some (out ++ grp n) := pGroups1 hn hl

def inNum (n : Int) : Bool := decide (-1 ≤ n) && decide (n ≤ 2147483647)
def byt (l : List Int) : List Int := l.flatMap fun n => grp (n + 1).toNat
def putS (l : List Int) : List UInt8 × Int :=
  if 100000 < l.length then ([], 4) else if l.all inNum then (Sh.str (grp l.length ++ byt l), 0) else ([], 1)
theorem byt_len {l : List Int} (h : l.all inNum = true) : (byt l).length ≤ 5 * l.length := by
  induction l with
  | nil => simp [byt]
  | cons n l ih =>
    simp only [List.all_cons, Bool.and_eq_true] at h
    obtain ⟨h1, h2⟩ := h
    simp only [inNum, Bool.and_eq_true, decide_eq_true_eq] at h1
    have := ih h2
    have := grp_len 5 (n + 1).toNat (by omega) (by omega)
    simp only [byt, List.flatMap_cons, List.length_append, List.length_cons] at *
    omega
theorem pPut (l : List Int) (hl : l.length < 9223372036854775807) : G.pack_Put l = some (putS l) := by
  unfold G.pack_Put putS
  by_cases h1 : 100000 < l.length
  · rw [if_pos (by simp [Sh.len]; omega), if_pos h1]
  · rw [if_neg (by simp [Sh.len]; omega), if_neg h1]
    have hg := grp_len 5 l.length (by omega) (by omega)
    simp only [G.pack_groups, Option.bind_some, len_eq, pGroups1 (n := l.length) (out := []) (by omega) (by simp), List.nil_append]
    have round : ∀ k, k < l.length → (∀ j, j < k → inNum (l.getD j 0) = true) → G.pack_Put_b1 l (grp l.length ++ byt (l.take k)) (k : Int) =
        if inNum (l.getD k 0) then some (.inl (grp l.length ++ byt (l.take (k + 1)), ((k + 1 : Nat) : Int))) else some (.inr ([], 1)) := by
      intro k hk hj
      have hd : l.getD k 0 = l[k] := by simp [List.getD, List.getElem?_eq_getElem hk]
      have hall : (l.take k).all inNum = true := by
        rw [List.all_eq_true]
        intro x hx
        obtain ⟨j, hj1, rfl⟩ := List.getElem_of_mem hx
        have hj2 : j < k := by simp at hj1; omega
        have := hj j hj2
        rw [List.getElem_take]
        simpa [List.getD, List.getElem?_eq_getElem (show j < l.length by omega)] using this
      have hbl := byt_len hall
      have htk : (l.take k).length ≤ k := by simp; omega
      rw [hd]
      simp only [G.pack_Put_b1, len_eq, dec_lt, hk, decide_true, if_true, idx_at hk, Option.bind_some, G.pack_Put_j2]
      unfold inNum
      by_cases a : l[k] < -1
      · have : ¬ (-1 : Int) ≤ l[k] := by omega
        simp [a, this, Sh.exit]
      · by_cases b : (2147483647 : Int) < l[k]
        · have : ¬ l[k] ≤ 2147483647 := by omega
          simp [a, b, this, Sh.exit]
        · have h2 : (-1 : Int) ≤ l[k] := by omega
          have h3 : l[k] ≤ 2147483647 := by omega
          have h4 : w64 (l[k] + 1) = (((l[k] + 1).toNat : Nat) : Int) := by rw [w64_id (by omega) (by omega)]; omega
          simp only [a, b, h2, h3, decide_true, decide_false, Bool.and_self, Bool.false_eq_true, if_false, if_true, G.pack_groups, Option.bind_some, h4, pGroups2 (n := (l[k] + 1).toNat) (out := grp l.length ++ byt (l.take k)) (by omega) (by simp only [List.length_append]; omega), w64_succ (show k < 9223372036854775807 by omega), Sh.next]
          rw [show byt (l.take (k + 1)) = byt (l.take k) ++ grp (l[k] + 1).toNat from by
            unfold byt
            rw [List.take_add_one, List.getElem?_eq_getElem hk, Option.toList_some, List.flatMap_append, List.flatMap_singleton], List.append_assoc]
    by_cases hall : l.all inNum = true
    · rw [if_pos hall]
      have hat : ∀ j, j < l.length → inNum (l.getD j 0) = true := fun j hj => by
        have : l.getD j 0 = l[j] := by simp [List.getD, List.getElem?_eq_getElem hj]
        rw [this]; exact List.all_eq_true.1 hall _ (List.getElem_mem hj)
      refine run_exit (fun k => (grp l.length ++ byt (l.take k), (k : Int))) l.length (G.pack_Put_j1 (grp l.length ++ byt l)) (fuel_gt (by omega)) (fun k hk => ?_) ?_ (by simp [byt]) |>.trans ?_
      · show G.pack_Put_b1 l _ _ = _
        rw [round k hk (fun j hj => hat j (by omega)), if_pos (hat k hk)]
      · simp [G.pack_Put_b1, len_eq]
      · rfl
    · rw [if_neg hall]
      have hex : ∃ k, k < l.length ∧ inNum (l.getD k 0) = false := by
        have : l.all inNum = false := by simpa using hall
        rw [List.all_eq_false] at this
        obtain ⟨x, hx, hn⟩ := this
        obtain ⟨k, hk, rfl⟩ := List.getElem_of_mem hx
        exact ⟨k, hk, by simpa [List.getD, List.getElem?_eq_getElem hk] using hn⟩
      obtain ⟨k, ⟨hk, hn⟩, hmin⟩ := exists_least _ hex
      have hat : ∀ j, j < k → inNum (l.getD j 0) = true := fun j hj => by
        cases hq : inNum (l.getD j 0) with
        | true => rfl
        | false => have := hmin j ⟨by omega, hq⟩; omega
      refine run_exit (fun k => (grp l.length ++ byt (l.take k), (k : Int))) k (some ([], 1)) (fuel_gt (by omega)) (fun q hq => ?_) ?_ (by simp [byt])
      · show G.pack_Put_b1 l _ _ = _
        rw [round q (by omega) (fun j hj => hat j (by omega)), if_pos (hat q hq)]
      · show G.pack_Put_b1 l _ _ = _
        rw [round k hk hat, hn]
        rfl
end Pl
namespace Pl
open Go Go.Av
def rd (most : Nat) : Nat → Nat → Nat → List UInt8 → Nat × List UInt8 × Int
  | 0, _, _, _ => (0, [], 2)
  | _ + 1, _, _, [] => (0, [], 16)
  | g + 1, i, n, x :: r =>
    if 128 ≤ x.toNat then rd most g (i + 1) (n + (x.toNat % 128) * 128 ^ i) r
    else if (0 < i ∧ x.toNat = 0) ∨ most < n + (x.toNat % 128) * 128 ^ i then (0, [], 2)
    else (n + (x.toNat % 128) * 128 ^ i, r, 0)
def rdI (r : Nat × List UInt8 × Int) : Int × List UInt8 × Int := ((r.1 : Int), r.2.1, r.2.2)
theorem rd_lt {n m i : Nat} (hn : n < 128 ^ i) (hm : m < 128) : n + m * 128 ^ i < 128 ^ (i + 1) := by
  rw [Nat.pow_succ]
  have : m * 128 ^ i ≤ 127 * 128 ^ i := Nat.mul_le_mul (by omega) (Nat.le_refl _)
  omega
theorem pNextAt {s : List UInt8} {most : Nat} (hs : s.length < 9223372036854775807) : ∀ (g i n f : Nat), g + i = 5 → i ≤ s.length → n < 128 ^ i → g < f →
    Sh.iter (fun (p : Int × Int) => G.pack_next_b1 s (most : Int) p.1 p.2) f ((n : Int), (i : Int)) = some (rdI (rd most g i n (s.drop i))) := by
  intro g
  induction g with
  | zero =>
    intro i n f h5 hi hn hf
    obtain ⟨f, rfl⟩ : ∃ m, f = m + 1 := ⟨f - 1, by omega⟩
    refine loop_exit (X := G.pack_next_j1) ?_
    simp only [G.pack_next_b1]
    rw [if_neg (by simp; omega)]
  | succ g ih =>
    intro i n f h5 hi hn hf
    obtain ⟨f, rfl⟩ : ∃ m, f = m + 1 := ⟨f - 1, by omega⟩
    have hlt : decide ((i : Int) < 5) = true := by simp; omega
    by_cases he : i = s.length
    · subst he
      refine loop_stop ?_
      simp only [G.pack_next_b1, hlt, if_true, len_eq, decide_true]
      simp [rd, rdI, Sh.exit]
    · have hi2 : i < s.length := by omega
      have hne : decide ((i : Int) = Sh.len s) = false := by simp [Sh.len]; omega
      have hd : s.drop i = s[i] :: s.drop (i + 1) := List.drop_eq_getElem_cons hi2
      have hx := (s[i]).toNat_lt
      have hmod : (s[i]).toNat % 128 < 128 := Nat.mod_lt _ (by omega)
      have hv := rd_lt hn hmod
      rw [hd]
      simp only [rd]
      have hj2 : ∀ b, G.pack_next_j2 s (n : Int) (i : Int) (((s[i]).toNat % 128 * 128 ^ i : Nat) : Int) b = some (.inr (if b then (0, [], 2) else (((n + (s[i]).toNat % 128 * 128 ^ i : Nat) : Int), s.drop (i + 1), 0))) := fun b => by
        unfold G.pack_next_j2
        cases b with
        | true => rfl
        | false =>
          have e1 : w64 ((i : Int) + 1) = ((i + 1 : Nat) : Int) := w64_succ (by omega)
          have e2 : Sh.sub s ((i + 1 : Nat) : Int) (Sh.len s) = some (s.drop (i + 1)) := by
            rw [len_eq, sub_ok (by omega) (by omega)]
            rw [List.take_of_length_le (by simp)]
          simp only [Bool.false_eq_true, if_false, e1, e2, Option.bind_some, bor_grp hn hmod (show i < 5 by omega), Sh.exit, Option.map_some]
      by_cases hb : 128 ≤ (s[i]).toNat
      · rw [if_pos hb]
        refine (loop_step (s' := (((n + (s[i]).toNat % 128 * 128 ^ i : Nat) : Int), ((i + 1 : Nat) : Int))) ?_).trans (ih (i + 1) _ f (by omega) (by omega) hv (by omega))
        have hd2 : decide ((128 : Int) ≤ ((s[i]).toNat : Int)) = true := by simp; omega
        simp only [G.pack_next_b1, hlt, if_true, hne, Bool.false_eq_true, if_false, idx_at hi2, Option.bind_some, band_low, ishl_grp hmod (show i < 5 by omega), hd2, bor_grp hn hmod (show i < 5 by omega), w64_succ (show i < 9223372036854775807 by omega), Sh.next]
      · rw [if_neg hb]
        refine loop_stop ?_
        have hd2 : decide ((128 : Int) ≤ ((s[i]).toNat : Int)) = false := by simp; omega
        simp only [G.pack_next_b1, hlt, if_true, hne, Bool.false_eq_true, if_false, idx_at hi2, Option.bind_some, band_low, ishl_grp hmod (show i < 5 by omega), hd2, bor_grp hn hmod (show i < 5 by omega), hj2]
        have e3 : decide ((most : Int) < ((n + (s[i]).toNat % 128 * 128 ^ i : Nat) : Int)) = decide (most < n + (s[i]).toNat % 128 * 128 ^ i) := dec_lt
        rw [e3]
        by_cases h0 : 0 < i
        · by_cases hz : (s[i]).toNat = 0
          · simp [h0, hz, rdI]
          · by_cases hm : most < n + (s[i]).toNat % 128 * 128 ^ i <;> simp [h0, hz, hm, rdI]
        · by_cases hm : most < n + (s[i]).toNat % 128 * 128 ^ i <;> simp [h0, hm, rdI]
theorem pNext {s : List UInt8} {most : Nat} (hs : s.length < 9223372036854775807) : G.pack_next s (most : Int) = some (rdI (rd most 5 0 0 s)) := by
  have := pNextAt (most := most) hs 5 0 0 Sh.FUEL rfl (by omega) (by simp) (by decide)
  simpa [G.pack_next, Sh.loop] using this

theorem str_grp_small {n : Nat} (h : n < 128) : Sh.str (grp n) = [UInt8.ofNat n] := by rw [grp_small h]; rfl
theorem str_grp_big {n : Nat} (h : ¬ n < 128) : Sh.str (grp n) = UInt8.ofNat (n % 128 + 128) :: Sh.str (grp (n / 128)) := by
  rw [grp_big h]; rfl
theorem rd_grp {most : Nat} : ∀ (g i n m : Nat) (rest : List UInt8), m < 128 ^ g → (0 < i → m ≠ 0) → n + m * 128 ^ i ≤ most → 0 < g → rd most g i n (Sh.str (grp m) ++ rest) = (n + m * 128 ^ i, rest, 0) := by
  intro g
  induction g with
  | zero => intro i n m rest _ _ _ h; omega
  | succ g ih =>
    intro i n m rest hm hi hle _
    by_cases h : m < 128
    · rw [str_grp_small h]
      have hx : (UInt8.ofNat m).toNat = m := by rw [UInt8.toNat_ofNat']; omega
      simp only [List.singleton_append, rd, hx]
      rw [if_neg (by omega), Nat.mod_eq_of_lt h, if_neg (by omega)]
    · rw [str_grp_big h]
      have hx : (UInt8.ofNat (m % 128 + 128)).toNat = m % 128 + 128 := by rw [UInt8.toNat_ofNat']; omega
      simp only [List.cons_append, rd, hx]
      have hg : 0 < g := by
        rcases Nat.eq_zero_or_pos g with h0 | h0
        · subst h0; simp at hm; omega
        · exact h0
      have hq : m / 128 < 128 ^ g := by rw [Nat.pow_succ] at hm; omega
      have e1 : (m % 128 + 128) % 128 = m % 128 := by omega
      have e2 : n + m % 128 * 128 ^ i + m / 128 * 128 ^ (i + 1) = n + m * 128 ^ i := by
        have : m = m % 128 + 128 * (m / 128) := (Nat.mod_add_div m 128).symm
        conv => rhs; rw [this]
        rw [Nat.pow_succ, Nat.add_mul]
        have : m / 128 * (128 ^ i * 128) = 128 * (m / 128) * 128 ^ i := by
          rw [Nat.mul_comm (128 ^ i) 128, ← Nat.mul_assoc, Nat.mul_comm (m / 128) 128]
        omega
      rw [if_pos (by omega), e1, ih (i + 1) _ (m / 128) rest hq (by omega) (by omega) hg, e2]
theorem rd_spec {most : Nat} : ∀ (g i n : Nat) (s : List UInt8), (∃ e, e ≠ 0 ∧ rd most g i n s = (0, [], e)) ∨
    ∃ m rest, rd most g i n s = (n + m * 128 ^ i, rest, 0) ∧ s = Sh.str (grp m) ++ rest ∧ n + m * 128 ^ i ≤ most ∧ (0 < i → m ≠ 0) := by
  intro g
  induction g with
  | zero => intro i n s; exact .inl ⟨2, by decide, rfl⟩
  | succ g ih =>
    intro i n s
    cases s with
    | nil => exact .inl ⟨16, by decide, rfl⟩
    | cons x r =>
      have hx := x.toNat_lt
      simp only [rd]
      by_cases hb : 128 ≤ x.toNat
      · rw [if_pos hb]
        rcases ih (i + 1) (n + x.toNat % 128 * 128 ^ i) r with ⟨e, h1, h2⟩ | ⟨m, rest, h1, h2, h3, h4⟩
        · exact .inl ⟨e, h1, h2⟩
        · refine .inr ⟨m * 128 + x.toNat % 128, rest, ?_, ?_, ?_, ?_⟩
          · rw [h1]
            have : n + x.toNat % 128 * 128 ^ i + m * 128 ^ (i + 1) = n + (m * 128 + x.toNat % 128) * 128 ^ i := by
              rw [Nat.pow_succ, Nat.add_mul, Nat.mul_assoc m, Nat.mul_comm 128 (128 ^ i)]; omega
            rw [this]
          · have hm := h4 (by omega)
            rw [str_grp_big (by omega), h2]
            have e1 : (m * 128 + x.toNat % 128) % 128 + 128 = x.toNat := by omega
            have e2 : (m * 128 + x.toNat % 128) / 128 = m := by omega
            rw [e1, e2, UInt8.ofNat_toNat]; rfl
          · have : n + x.toNat % 128 * 128 ^ i + m * 128 ^ (i + 1) = n + (m * 128 + x.toNat % 128) * 128 ^ i := by
              rw [Nat.pow_succ, Nat.add_mul, Nat.mul_assoc m, Nat.mul_comm 128 (128 ^ i)]; omega
            omega
          · intro _; have := h4 (by omega); omega
      · rw [if_neg hb]
        by_cases hc : (0 < i ∧ x.toNat = 0) ∨ most < n + x.toNat % 128 * 128 ^ i
        · rw [if_pos hc]; exact .inl ⟨2, by decide, rfl⟩
        · rw [if_neg hc]
          have e1 : x.toNat % 128 = x.toNat := Nat.mod_eq_of_lt (by omega)
          rw [e1] at hc
          refine .inr ⟨x.toNat, r, by rw [e1], ?_, by omega, by omega⟩
          rw [str_grp_small (by omega), UInt8.ofNat_toNat]; rfl

def allS : Nat → List UInt8 → List Int → List Int × Int
  | 0, s, out => if s = [] then (out, 0) else ([], 2)
  | k + 1, s, out => if (rd 2147483648 5 0 0 s).2.2 ≠ 0 then ([], (rd 2147483648 5 0 0 s).2.2) else allS k (rd 2147483648 5 0 0 s).2.1 (out ++ [((rd 2147483648 5 0 0 s).1 : Int) - 1])
def getS (s : List UInt8) : List Int × Int :=
  if (rd 100000 5 0 0 s).2.2 ≠ 0 then ([], (rd 100000 5 0 0 s).2.2) else allS (rd 100000 5 0 0 s).1 (rd 100000 5 0 0 s).2.1 []

theorem rd_rest {most : Nat} (s : List UInt8) : (rd most 5 0 0 s).2.1.length ≤ s.length ∧ (rd most 5 0 0 s).1 ≤ most := by
  rcases rd_spec (most := most) 5 0 0 s with ⟨e, _, h⟩ | ⟨m, rest, h, h2, h3, _⟩
  · rw [h]; simp
  · rw [h]; refine ⟨?_, h3⟩; rw [h2]; simp
theorem pAllS (r : Int × List UInt8 × Int) (N : Nat) (hN : r.1 = N) (hN2 : N ≤ 100000) : ∀ (k i f : Nat) (s : List UInt8) (out : List Int), i + k = N → out.length = i → k < f → s.length < 9223372036854775807 →
    Sh.iter (fun (p : (List UInt8) × (List Int) × Int) => G.pack_Get_b1 r p.1 p.2.1 p.2.2) f (s, out, (i : Int)) = some (allS k s out) := by
  intro k
  induction k with
  | zero =>
    intro i f s out hik ho hf hs
    obtain ⟨f, rfl⟩ : ∃ m, f = m + 1 := ⟨f - 1, by omega⟩
    refine (loop_exit (X := G.pack_Get_j1 s out) ?_).trans ?_
    · simp only [G.pack_Get_b1]
      rw [if_neg (by simp; omega)]
    · unfold G.pack_Get_j1 allS
      by_cases h : s = [] <;> simp [h]
  | succ k ih =>
    intro i f s out hik ho hf hs
    obtain ⟨f, rfl⟩ : ∃ m, f = m + 1 := ⟨f - 1, by omega⟩
    have hlt : decide ((i : Int) < r.1) = true := by simp; omega
    have hr := rd_rest (most := 2147483648) s
    have hn := pNext (most := 2147483648) hs
    have hn' : G.pack_next s 2147483648 = some (rdI (rd 2147483648 5 0 0 s)) := hn
    simp only [allS]
    by_cases he : (rd 2147483648 5 0 0 s).2.2 = 0
    · rw [if_neg (by simpa using he)]
      refine (loop_step (s' := ((rd 2147483648 5 0 0 s).2.1, out ++ [((rd 2147483648 5 0 0 s).1 : Int) - 1], ((i + 1 : Nat) : Int))) ?_).trans (ih (i + 1) f _ _ (by omega) (by simp; omega) (by omega) (by omega))
      have hd : decide ((rdI (rd 2147483648 5 0 0 s)).2.2 ≠ 0) = false := by simp [rdI, he]
      simp only [G.pack_Get_b1, hlt, if_true, hn', Option.bind_some, hd, Bool.false_eq_true, if_false]
      have e1 : w64 ((rdI (rd 2147483648 5 0 0 s)).1 - 1) = ((rd 2147483648 5 0 0 s).1 : Int) - 1 := by
        show w64 (((rd 2147483648 5 0 0 s).1 : Int) - 1) = _
        exact w64_id (by omega) (by omega)
      rw [e1, app_ok (by simp; omega), Option.bind_some, w64_succ (by omega)]
      rfl
    · rw [if_pos (by simpa using he)]
      refine loop_stop ?_
      have hd : decide ((rdI (rd 2147483648 5 0 0 s)).2.2 ≠ 0) = true := by simp [rdI, he]
      simp only [G.pack_Get_b1, hlt, if_true, hn', Option.bind_some, hd]
      rfl
theorem pGet {s : List UInt8} (hs : s.length < 9223372036854775807) : G.pack_Get s = some (getS s) := by
  have hn := pNext (most := 100000) hs
  have hn' : G.pack_next s 100000 = some (rdI (rd 100000 5 0 0 s)) := hn
  have hr := rd_rest (most := 100000) s
  unfold G.pack_Get getS
  rw [hn', Option.bind_some]
  by_cases he : (rd 100000 5 0 0 s).2.2 = 0
  · rw [if_neg (by simp [rdI, he]), if_neg (by simpa using he)]
    exact pAllS _ _ rfl hr.2 _ 0 Sh.FUEL _ [] (by omega) rfl (fuel_gt (by omega)) (by show (rd 100000 5 0 0 s).2.1.length < _; omega)
  · rw [if_pos (by simp [rdI, he]), if_pos (by simpa using he)]
    rfl

theorem str_append (a b : List Int) : Sh.str (a ++ b) = Sh.str a ++ Sh.str b := by simp [Sh.str]
theorem byt_cons (n : Int) (l : List Int) : byt (n :: l) = grp (n + 1).toNat ++ byt l := by simp [byt]
theorem all_byt : ∀ (l : List Int) (out : List Int), l.all inNum = true → allS l.length (Sh.str (byt l)) out = (out ++ l, 0) := by
  intro l
  induction l with
  | nil => intro out _; simp [allS, byt, Sh.str]
  | cons n l ih =>
    intro out h
    simp only [List.all_cons, Bool.and_eq_true] at h
    obtain ⟨h1, h2⟩ := h
    simp only [inNum, Bool.and_eq_true, decide_eq_true_eq] at h1
    have hr : rd 2147483648 5 0 0 (Sh.str (grp (n + 1).toNat) ++ Sh.str (byt l)) = (0 + (n + 1).toNat * 128 ^ 0, Sh.str (byt l), 0) :=
      rd_grp 5 0 0 (n + 1).toNat _ (by omega) (by omega) (by simp; omega) (by omega)
    rw [byt_cons, str_append, List.length_cons]
    simp only [allS, hr]
    rw [if_neg (by simp), ih _ h2]
    have : ((0 + (n + 1).toNat * 128 ^ 0 : Nat) : Int) - 1 = n := by simp; omega
    rw [this]; simp
theorem get_put {l : List Int} {t : List UInt8} (h : putS l = (t, 0)) : getS t = (l, 0) := by
  unfold putS at h
  split at h
  · simp at h
  · rename_i hl
    split at h
    · rename_i ha
      simp only [Prod.mk.injEq, and_true] at h
      subst h
      have hr : rd 100000 5 0 0 (Sh.str (grp l.length) ++ Sh.str (byt l)) = (0 + l.length * 128 ^ 0, Sh.str (byt l), 0) :=
        rd_grp 5 0 0 l.length _ (by omega) (by omega) (by simp; omega) (by omega)
      unfold getS
      rw [str_append, hr]
      rw [if_neg (by simp)]
      simp only [Nat.pow_zero, Nat.mul_one, Nat.zero_add]
      exact all_byt l [] ha
    · simp at h
theorem put_err {l : List Int} (h : (putS l).2 ≠ 0) : (putS l).1 = [] := by
  unfold putS at *
  split
  · rfl
  · rename_i hl
    rw [if_neg hl] at h
    split
    · rename_i ha; rw [if_pos ha] at h; exact absurd rfl h
    · rfl
theorem all_spec : ∀ (k : Nat) (s : List UInt8) (out : List Int), ((allS k s out).2 ≠ 0 ∧ (allS k s out).1 = []) ∨ ∃ l, allS k s out = (out ++ l, 0) ∧ l.length = k ∧ l.all inNum = true ∧ s = Sh.str (byt l) := by
  intro k
  induction k with
  | zero =>
    intro s out
    unfold allS
    by_cases h : s = []
    · rw [if_pos h]; exact .inr ⟨[], by simp, rfl, rfl, by simp [h, byt, Sh.str]⟩
    · rw [if_neg h]; exact .inl ⟨by simp, rfl⟩
  | succ k ih =>
    intro s out
    simp only [allS]
    rcases rd_spec (most := 2147483648) 5 0 0 s with ⟨e, h1, h2⟩ | ⟨m, rest, h1, h2, h3, _⟩
    · rw [h2]; simp only; rw [if_pos h1]; exact .inl ⟨h1, rfl⟩
    · rw [h1]
      simp only [ne_eq, not_true, if_false, Nat.pow_zero, Nat.mul_one, Nat.zero_add] at h3 ⊢
      rcases ih rest (out ++ [(m : Int) - 1]) with h | ⟨l, q1, q2, q3, q4⟩
      · exact .inl h
      · refine .inr ⟨((m : Int) - 1) :: l, by rw [q1]; simp, by simp [q2], ?_, ?_⟩
        · simp only [List.all_cons, q3, Bool.and_true, inNum, Bool.and_eq_true, decide_eq_true_eq]; omega
        · rw [byt_cons, str_append, ← q4, h2]
          have : ((m : Int) - 1 + 1).toNat = m := by omega
          rw [this]
theorem get_spec (s : List UInt8) : ((getS s).2 ≠ 0 ∧ (getS s).1 = []) ∨ ∃ l, getS s = (l, 0) ∧ l.length ≤ 100000 ∧ l.length ≤ s.length ∧ l.all inNum = true ∧ putS l = (s, 0) := by
  unfold getS
  rcases rd_spec (most := 100000) 5 0 0 s with ⟨e, h1, h2⟩ | ⟨m, rest, h1, h2, h3, _⟩
  · rw [h2]; simp only; rw [if_pos h1]; exact .inl ⟨h1, rfl⟩
  · rw [h1]
    simp only [ne_eq, not_true, if_false, Nat.pow_zero, Nat.mul_one, Nat.zero_add] at h3 ⊢
    rcases all_spec m rest [] with h | ⟨l, q1, q2, q3, q4⟩
    · exact .inl h
    · refine .inr ⟨l, by rw [q1]; simp, by omega, ?_, q3, ?_⟩
      · have key : ∀ l : List Int, l.length ≤ (Sh.str (byt l)).length := by
          intro l
          induction l with
          | nil => simp
          | cons n l ih =>
            rw [byt_cons, str_append]
            have : 0 < (Sh.str (grp (n + 1).toNat)).length := by
              by_cases h : (n + 1).toNat < 128
              · rw [str_grp_small h]; simp
              · rw [str_grp_big h]; simp
            simp only [List.length_append, List.length_cons]; omega
        rw [h2, List.length_append, q4]
        have := key l
        omega
      · unfold putS
        rw [if_neg (by omega), if_pos q3, str_append, ← q4, q2, h2]
end Pl
end

section
/- Certificates as numbers, and back. -/
namespace Pl
open Go Go.Av

def tkP (l : List Int) (g : Bool) : List Int × Bool × Int := match l with | [] => ([], false, 0) | n :: r => (r, g, n)
theorem pTake (l : List Int) (g : Bool) : G.cert_Get_1__1 l g = some (tkP l g) := by
  unfold G.cert_Get_1__1 tkP
  cases l with
  | nil => rfl
  | cons n r =>
    rw [if_neg (by simp [Sh.len]; omega)]
    have e1 : Sh.idx (n :: r) 0 = some n := rfl
    have e2 : Sh.sub (n :: r) 1 (Sh.len (n :: r)) = some r := by
      have := sub_ok (l := n :: r) (m := 1) (k := r.length + 1) (by omega) (by simp)
      rw [len_eq]
      simpa using this
    rw [e1, Option.bind_some, e2]
    rfl
def cnP (g : Bool) (l : List Int) : Int × Bool × List Int := ((tkP l g).2.2, (tkP l g).2.1 && decide (0 ≤ (tkP l g).2.2), (tkP l g).1)
theorem pCount (g : Bool) (l : List Int) : G.cert_Get_2__1 g l = some (cnP g l) := by
  unfold G.cert_Get_2__1 cnP G.cert_Get_2__1_j1
  rw [pTake, Option.bind_some]
  cases (tkP l g).2.1 <;> rfl
theorem cn_false (l : List Int) : (cnP false l).2.1 = false := by cases l <;> rfl
theorem rowStop {f : Nat} {left acc : List Int} {n : Int} : Sh.iter (fun (p : Bool × (List Int) × (List Int) × Int) => G.cert_Get_3__1_b1 p.1 p.2.1 p.2.2.1 p.2.2.2) (f + 1) (false, left, acc, n) = some (acc, false, left) :=
  loop_stop rfl
theorem rowLoop : ∀ (f : Nat) (left acc : List Int) (n : Nat), left.length + 1 < f → acc.length + left.length ≤ 200000 → n < 9223372036854775808 →
    Sh.iter (fun (p : Bool × (List Int) × (List Int) × Int) => G.cert_Get_3__1_b1 p.1 p.2.1 p.2.2.1 p.2.2.2) f (true, left, acc, (n : Int)) =
      some (if n ≤ left.length then (acc ++ left.take n, true, left.drop n) else (acc ++ left ++ [0], false, [])) := by
  intro f
  induction f with
  | zero => intro left acc n h; omega
  | succ f ih =>
    intro left acc n hf hb hn
    by_cases h0 : n = 0
    · subst h0
      refine loop_stop ?_
      simp [G.cert_Get_3__1_b1, G.cert_Get_3__1_j2, G.cert_Get_3__1_j1, Sh.exit]
    · have hd : decide ((0 : Int) < (n : Int)) = true := decide_eq_true (by omega)
      have hw : w64 ((n : Int) - 1) = ((n - 1 : Nat) : Int) := by rw [w64_id (by omega) (by omega)]; omega
      cases left with
      | nil =>
        obtain ⟨f, rfl⟩ : ∃ m, f = m + 1 := ⟨f - 1, by simp at hf; omega⟩
        refine (loop_step (s' := (false, [], acc ++ [0], ((n - 1 : Nat) : Int))) ?_).trans ?_
        · simp only [G.cert_Get_3__1_b1, G.cert_Get_3__1_j2, hd, if_true, pTake, tkP, Option.bind_some]
          rw [app_ok (by simp at hb ⊢; omega), hw]
          rfl
        · rw [rowStop, if_neg (by simp; omega)]
          simp
      | cons x r =>
        simp only [List.length_cons] at hf hb
        refine (loop_step (s' := (true, r, acc ++ [x], ((n - 1 : Nat) : Int))) ?_).trans ?_
        · simp only [G.cert_Get_3__1_b1, G.cert_Get_3__1_j2, hd, if_true, pTake, tkP, Option.bind_some]
          rw [app_ok (by simp; omega), hw]
          rfl
        · rw [ih r (acc ++ [x]) (n - 1) (by omega) (by simp; omega) (by omega)]
          by_cases hle : n ≤ r.length + 1
          · rw [if_pos (by omega), if_pos (by simpa using hle)]
            obtain ⟨m, rfl⟩ : ∃ m, n = m + 1 := ⟨n - 1, by omega⟩
            simp
          · rw [if_neg (by omega), if_neg (by simpa using hle)]
            simp
def rowP (g : Bool) (l : List Int) : List Int × Bool × List Int :=
  if (cnP g l).2.1 then (if (cnP g l).1.toNat ≤ (cnP g l).2.2.length then ((cnP g l).2.2.take (cnP g l).1.toNat, true, (cnP g l).2.2.drop (cnP g l).1.toNat) else ((cnP g l).2.2 ++ [0], false, [])) else ([], false, (cnP g l).2.2)
def Num (l : List Int) : Prop := l.length ≤ 100000 ∧ ∀ n ∈ l, n < 9223372036854775807
theorem Num.tail {n : Int} {l : List Int} (h : Num (n :: l)) : Num l := ⟨by have := h.1; simp at this; omega, fun x hx => h.2 x (List.mem_cons_of_mem _ hx)⟩
theorem Num.drop {l : List Int} (h : Num l) (k : Nat) : Num (l.drop k) := ⟨by have := h.1; simp; omega, fun x hx => h.2 x (List.mem_of_mem_drop hx)⟩
theorem cn_num {g : Bool} {l : List Int} (h : Num l) : Num (cnP g l).2.2 ∧ (cnP g l).1 < 9223372036854775807 := by
  cases l with
  | nil => exact ⟨h, by simp [cnP, tkP]⟩
  | cons n r => exact ⟨h.tail, h.2 n (List.mem_cons_self ..)⟩
theorem pRow {g : Bool} {l : List Int} (h : Num l) : G.cert_Get_3__1 g l = some (rowP g l) := by
  unfold G.cert_Get_3__1 rowP
  rw [pCount, Option.bind_some]
  obtain ⟨h1, h2⟩ := cn_num (g := g) h
  cases hg : (cnP g l).2.1 with
  | false => exact rowStop (f := Sh.FUEL - 1)
  | true =>
    have h0 : 0 ≤ (cnP g l).1 := by
      unfold cnP at hg ⊢
      simp only [Bool.and_eq_true, decide_eq_true_eq] at hg
      exact hg.2
    have hn : (cnP g l).1 = (((cnP g l).1.toNat : Nat) : Int) := by omega
    have := h1.1
    have key := rowLoop Sh.FUEL (cnP g l).2.2 [] (cnP g l).1.toNat (fuel_gt (by omega)) (by simp; omega) (by omega)
    rw [← hn] at key
    simp only [List.nil_append] at key
    simp only [if_true]
    exact key
theorem row_num {g : Bool} {l : List Int} (h : Num l) : Num (rowP g l).2.2 := by
  have h1 := (cn_num (g := g) h).1
  unfold rowP
  split
  · split
    · exact h1.drop _
    · exact ⟨by simp, fun x hx => by simp at hx⟩
  · exact h1
theorem row_false (l : List Int) : (rowP false l).2.1 = false := by
  unfold rowP
  rw [cn_false]
  rfl
def rwO : List Int → Option (List Int × List Int)
  | [] => none
  | n :: r => if 0 ≤ n ∧ n.toNat ≤ r.length then some (r.take n.toNat, r.drop n.toNat) else none
theorem rwO_cons (n : Int) (r : List Int) : rwO (n :: r) = if 0 ≤ n ∧ n.toNat ≤ r.length then some (r.take n.toNat, r.drop n.toNat) else none := rfl
theorem row_true (l : List Int) : (∃ a b, rwO l = some (a, b) ∧ rowP true l = (a, true, b)) ∨ (rwO l = none ∧ (rowP true l).2.1 = false) := by
  cases l with
  | nil => exact .inr ⟨rfl, rfl⟩
  | cons n r =>
    rw [rwO_cons]
    unfold rowP cnP tkP
    by_cases h0 : 0 ≤ n
    · by_cases h1 : n.toNat ≤ r.length
      · exact .inl ⟨_, _, by rw [if_pos ⟨h0, h1⟩], by simp [h0, h1]⟩
      · refine .inr ⟨by rw [if_neg (fun h => h1 h.2)], ?_⟩
        simp [h0, h1]
    · refine .inr ⟨by rw [if_neg (fun h => h0 h.1)], ?_⟩
      simp [h0]
theorem rwO_len {l a b : List Int} (h : rwO l = some (a, b)) : l = (a.length : Int) :: (a ++ b) := by
  cases l with
  | nil => cases h
  | cons n r =>
    rw [rwO_cons] at h
    split at h
    · rename_i hc
      simp only [Option.some.injEq, Prod.mk.injEq] at h
      obtain ⟨rfl, rfl⟩ := h
      have : ((r.take n.toNat).length : Int) = n := by simp; omega
      rw [this, List.take_append_drop]
    · cases h
theorem rwO_put (a b : List Int) : rwO ((a.length : Int) :: (a ++ b)) = some (a, b) := by
  rw [rwO_cons, if_pos ⟨by omega, by simp⟩]
  simp

def rowsO : Nat → List Int → List G.si_Row → Option (List G.si_Row × List Int)
  | 0, l, acc => some (acc, l)
  | _ + 1, [], _ => none
  | k + 1, key :: l, acc => match rwO l with
    | none => none
    | some (L, r) => rowsO k r (acc ++ [⟨key, L⟩])
def treeO : Nat → List Int → List G.refute_Node → Option (List G.refute_Node × List Int)
  | 0, l, acc => some (acc, l)
  | k + 1, a :: b :: c :: l, acc => match rwO l with
    | none => none
    | some (L, r) => treeO k r (acc ++ [⟨⟨a, b, c⟩, L⟩])
  | _ + 1, _, _ => none
def ZC : G.cert_Cert × Int := (⟨0, false, [], [], []⟩, 2)

section
variable (p : (List Int) × Bool × Int) (q : Int × Bool × (List Int)) (r : (List Int) × Bool × (List Int))
theorem j3_true (v : List G.si_Row) (left : List Int) (t : List G.refute_Node) : G.cert_Get_j3 p q r v left true t = some (if left = [] then (⟨p.2.2, decide (q.1 = 1), r.1, v, t⟩, 0) else ZC) := by
  unfold G.cert_Get_j3 G.cert_Get_j4
  cases left with
  | nil => simp [Sh.len]
  | cons x l =>
    have : decide ((0 : Int) < Sh.len (x :: l)) = true := decide_eq_true (by simp only [Sh.len, List.length_cons]; omega)
    rw [this]; rfl
theorem treeStop {f : Nat} {v : List G.si_Row} {left : List Int} {acc : List G.refute_Node} {n : Int} : Sh.iter (fun (x : (List Int) × Bool × (List G.refute_Node) × Int) => G.cert_Get_b1 p q r v x.1 x.2.1 x.2.2.1 x.2.2.2) (f + 1) (left, false, acc, n) = some ZC :=
  loop_stop rfl
theorem tk_num {l : List Int} (h : Num l) (g : Bool) : Num (tkP l g).1 := by
  cases l with
  | nil => exact h
  | cons n r => exact h.tail
theorem treeLoop (v : List G.si_Row) : ∀ (f : Nat) (left : List Int) (acc : List G.refute_Node) (n : Nat), left.length + 1 < f → acc.length + left.length ≤ 200000 → Num left → n < 9223372036854775808 →
    Sh.iter (fun (x : (List Int) × Bool × (List G.refute_Node) × Int) => G.cert_Get_b1 p q r v x.1 x.2.1 x.2.2.1 x.2.2.2) f (left, true, acc, (n : Int)) =
      match treeO n left acc with
      | some (t, l) => G.cert_Get_j3 p q r v l true t
      | none => some ZC := by
  intro f
  induction f with
  | zero => intro left acc n h; omega
  | succ f ih =>
    intro left acc n hf hb hN hn
    by_cases h0 : n = 0
    · subst h0
      refine (loop_exit (X := G.cert_Get_j3 p q r v left true acc) ?_).trans ?_
      · simp [G.cert_Get_b1, G.cert_Get_j5]
      · rfl
    · obtain ⟨n, rfl⟩ : ∃ m, n = m + 1 := ⟨n - 1, by omega⟩
      have hd : decide ((0 : Int) < ((n + 1 : Nat) : Int)) = true := decide_eq_true (by omega)
      have hw : w64 (((n + 1 : Nat) : Int) - 1) = (n : Int) := by rw [w64_id (by omega) (by omega)]; omega
      have n1 := tk_num hN true
      have n2 := tk_num n1 (tkP left true).2.1
      have n3 := tk_num n2 (tkP (tkP left true).1 (tkP left true).2.1).2.1
      have body : G.cert_Get_b1 p q r v left true acc ((n + 1 : Nat) : Int) =
          (Sh.app 48 acc ([(G.refute_Node.mk (G.api_Choice.mk (tkP left true).2.2 (tkP (tkP left true).1 (tkP left true).2.1).2.2 (tkP (tkP (tkP left true).1 (tkP left true).2.1).1 (tkP (tkP left true).1 (tkP left true).2.1).2.1).2.2) (rowP (tkP (tkP (tkP left true).1 (tkP left true).2.1).1 (tkP (tkP left true).1 (tkP left true).2.1).2.1).2.1 (tkP (tkP (tkP left true).1 (tkP left true).2.1).1 (tkP (tkP left true).1 (tkP left true).2.1).2.1).1).1)] : List G.refute_Node)).bind fun l =>
            Sh.next ((rowP (tkP (tkP (tkP left true).1 (tkP left true).2.1).1 (tkP (tkP left true).1 (tkP left true).2.1).2.1).2.1 (tkP (tkP (tkP left true).1 (tkP left true).2.1).1 (tkP (tkP left true).1 (tkP left true).2.1).2.1).1).2.2, (rowP (tkP (tkP (tkP left true).1 (tkP left true).2.1).1 (tkP (tkP left true).1 (tkP left true).2.1).2.1).2.1 (tkP (tkP (tkP left true).1 (tkP left true).2.1).1 (tkP (tkP left true).1 (tkP left true).2.1).2.1).1).2.1, l, (n : Int)) := by
        simp only [G.cert_Get_b1, G.cert_Get_j5, hd, if_true, pTake, Option.bind_some, pRow n3, hw]
      rw [app_ok (by simp; omega), Option.bind_some] at body
      have fin : ∀ a b d, G.cert_Get_b1 p q r v left true acc ((n + 1 : Nat) : Int) = Sh.next (a, false, b, d) → Sh.iter (fun (x : (List Int) × Bool × (List G.refute_Node) × Int) => G.cert_Get_b1 p q r v x.1 x.2.1 x.2.2.1 x.2.2.2) (f + 1) (left, true, acc, ((n + 1 : Nat) : Int)) = some ZC := by
        intro a b d hbb
        obtain ⟨f, rfl⟩ : ∃ m, f = m + 1 := ⟨f - 1, by omega⟩
        exact (loop_step (s' := (a, false, b, d)) hbb).trans (treeStop p q r)
      match left, hf, hb, hN, body, fin with
      | [], _, _, _, body, fin =>
        have hz : (rowP false []).2.1 = false := row_false []
        simp only [tkP, hz] at body
        exact fin _ _ _ body
      | [x], _, _, _, body, fin =>
        have hz : (rowP false []).2.1 = false := row_false []
        simp only [tkP, hz] at body
        exact fin _ _ _ body
      | [x, y], _, _, _, body, fin =>
        have hz : (rowP false []).2.1 = false := row_false []
        simp only [tkP, hz] at body
        exact fin _ _ _ body
      | x :: y :: z :: l, hf, hb, hN, body, fin =>
        simp only [tkP] at body
        rcases row_true l with ⟨a, b, h1, h2⟩ | ⟨h1, h2⟩
        · rw [h2] at body
          simp only [treeO, h1]
          have hl := rwO_len h1
          have hlen : l.length = a.length + b.length + 1 := by rw [hl, List.length_cons, List.length_append]
          simp only [List.length_cons] at hf hb
          refine (loop_step (s' := (b, true, acc ++ [⟨⟨x, y, z⟩, a⟩], (n : Int))) body).trans (ih b _ n (by omega) (by simp; omega) ?_ (by omega))
          have : b = l.drop (a.length + 1) := by rw [hl]; simp
          rw [this]; exact (hN.tail.tail.tail).drop _
        · rw [h2] at body
          simp only [treeO, h1]
          exact fin _ _ _ body
theorem j2_false (left : List Int) (v : List G.si_Row) : G.cert_Get_j2 p q r left false v = some ZC := by
  unfold G.cert_Get_j2
  rw [pCount, Option.bind_some, cn_false]
  exact treeStop p q r (f := Sh.FUEL - 1)
theorem j2_true {left : List Int} (hN : Num left) (v : List G.si_Row) : G.cert_Get_j2 p q r left true v = match left with
    | [] => some ZC
    | n :: l => if 0 ≤ n then (match treeO n.toNat l [] with
      | some (t, l) => G.cert_Get_j3 p q r v l true t
      | none => some ZC) else some ZC := by
  unfold G.cert_Get_j2
  rw [pCount, Option.bind_some]
  cases left with
  | nil => exact treeStop p q r (f := Sh.FUEL - 1)
  | cons n l =>
    have h2 := hN.2 n (List.mem_cons_self ..)
    have h1 := hN.tail
    have h3 := h1.1
    by_cases h0 : 0 ≤ n
    · have : cnP true (n :: l) = (n, true, l) := by simp [cnP, tkP, h0]
      rw [this]
      simp only [h0, if_true]
      have hn : n = ((n.toNat : Nat) : Int) := by omega
      have := treeLoop p q r v Sh.FUEL l [] n.toNat (fuel_gt (by omega)) (by simp; omega) h1 (by omega)
      rw [← hn] at this
      exact this
    · have : cnP true (n :: l) = (n, false, l) := by simp [cnP, tkP, h0]
      rw [this]
      simp only [h0, if_false]
      exact treeStop p q r (f := Sh.FUEL - 1)
theorem rowsStop {f : Nat} {left : List Int} {acc : List G.si_Row} {n : Int} : Sh.iter (fun (x : (List Int) × Bool × (List G.si_Row) × Int) => G.cert_Get_b2 p q r x.1 x.2.1 x.2.2.1 x.2.2.2) (f + 1) (left, false, acc, n) = some ZC :=
  (loop_exit (b := fun (x : (List Int) × Bool × (List G.si_Row) × Int) => G.cert_Get_b2 p q r x.1 x.2.1 x.2.2.1 x.2.2.2) (X := G.cert_Get_j2 p q r left false acc) rfl).trans (j2_false p q r left acc)
theorem rowsLoop : ∀ (f : Nat) (left : List Int) (acc : List G.si_Row) (n : Nat), left.length + 1 < f → acc.length + left.length ≤ 200000 → Num left → n < 9223372036854775808 →
    Sh.iter (fun (x : (List Int) × Bool × (List G.si_Row) × Int) => G.cert_Get_b2 p q r x.1 x.2.1 x.2.2.1 x.2.2.2) f (left, true, acc, (n : Int)) =
      match rowsO n left acc with
      | some (t, l) => G.cert_Get_j2 p q r l true t
      | none => some ZC := by
  intro f
  induction f with
  | zero => intro left acc n h; omega
  | succ f ih =>
    intro left acc n hf hb hN hn
    by_cases h0 : n = 0
    · subst h0
      refine (loop_exit (X := G.cert_Get_j2 p q r left true acc) ?_).trans ?_
      · simp [G.cert_Get_b2, G.cert_Get_j6]
      · rfl
    · obtain ⟨n, rfl⟩ : ∃ m, n = m + 1 := ⟨n - 1, by omega⟩
      have hd : decide ((0 : Int) < ((n + 1 : Nat) : Int)) = true := decide_eq_true (by omega)
      have hw : w64 (((n + 1 : Nat) : Int) - 1) = (n : Int) := by rw [w64_id (by omega) (by omega)]; omega
      have n1 := tk_num hN true
      have body : G.cert_Get_b2 p q r left true acc ((n + 1 : Nat) : Int) =
          (Sh.app 32 acc ([(G.si_Row.mk (tkP left true).2.2 (rowP (tkP left true).2.1 (tkP left true).1).1)] : List G.si_Row)).bind fun l =>
            Sh.next ((rowP (tkP left true).2.1 (tkP left true).1).2.2, (rowP (tkP left true).2.1 (tkP left true).1).2.1, l, (n : Int)) := by
        simp only [G.cert_Get_b2, G.cert_Get_j6, hd, if_true, pTake, Option.bind_some, pRow n1, hw]
      rw [app_ok (by simp; omega), Option.bind_some] at body
      have fin : ∀ a b d, G.cert_Get_b2 p q r left true acc ((n + 1 : Nat) : Int) = Sh.next (a, false, b, d) → Sh.iter (fun (x : (List Int) × Bool × (List G.si_Row) × Int) => G.cert_Get_b2 p q r x.1 x.2.1 x.2.2.1 x.2.2.2) (f + 1) (left, true, acc, ((n + 1 : Nat) : Int)) = some ZC := by
        intro a b d hbb
        obtain ⟨f, rfl⟩ : ∃ m, f = m + 1 := ⟨f - 1, by omega⟩
        exact (loop_step (s' := (a, false, b, d)) hbb).trans (rowsStop p q r)
      match left, hf, hb, hN, body, fin with
      | [], _, _, _, body, fin =>
        have hz : (rowP false []).2.1 = false := row_false []
        simp only [tkP, hz] at body
        exact fin _ _ _ body
      | x :: l, hf, hb, hN, body, fin =>
        simp only [tkP] at body
        rcases row_true l with ⟨a, b, h1, h2⟩ | ⟨h1, h2⟩
        · rw [h2] at body
          simp only [rowsO, h1]
          have hl := rwO_len h1
          have hlen : l.length = a.length + b.length + 1 := by rw [hl, List.length_cons, List.length_append]
          simp only [List.length_cons] at hf hb
          refine (loop_step (s' := (b, true, acc ++ [⟨x, a⟩], (n : Int))) body).trans (ih b _ n (by omega) (by simp; omega) ?_ (by omega))
          have : b = l.drop (a.length + 1) := by rw [hl]; simp
          rw [this]; exact hN.tail.drop _
        · rw [h2] at body
          simp only [rowsO, h1]
          exact fin _ _ _ body
end
def parse : List Int → Option G.cert_Cert
  | lev :: yes :: r => if 0 ≤ yes ∧ yes ≤ 1 then (match rwO r with
    | some (ord, nr :: r3) => if 0 ≤ nr then (match rowsO nr.toNat r3 [] with
      | some (rows, nt :: r5) => if 0 ≤ nt then (match treeO nt.toNat r5 [] with
        | some (tree, []) => some ⟨lev, decide (yes = 1), ord, rows, tree⟩
        | _ => none) else none
      | _ => none) else none
    | _ => none) else none
  | _ => none
theorem rowsO_num : ∀ (k : Nat) (l : List Int) (acc rows : List G.si_Row) (r : List Int), Num l → rowsO k l acc = some (rows, r) → Num r := by
  intro k
  induction k with
  | zero => intro l acc rows r hN h; simp only [rowsO, Option.some.injEq, Prod.mk.injEq] at h; rw [← h.2]; exact hN
  | succ k ih =>
    intro l acc rows r hN h
    cases l with
    | nil => cases h
    | cons x l =>
      simp only [rowsO] at h
      cases h1 : rwO l with
      | none => rw [h1] at h; cases h
      | some ab =>
        obtain ⟨a, b⟩ := ab
        rw [h1] at h
        have hl := rwO_len h1
        have : b = l.drop (a.length + 1) := by rw [hl]; simp
        exact ih b _ _ _ (by rw [this]; exact hN.tail.drop _) h
theorem j1_false (p : (List Int) × Bool × Int) (q : Int × Bool × (List Int)) (hN : Num q.2.2) : G.cert_Get_j1 p q false = some ZC := by
  unfold G.cert_Get_j1
  rw [pRow hN, Option.bind_some, row_false, pCount, Option.bind_some, cn_false]
  exact rowsStop _ _ _ (f := Sh.FUEL - 1)
theorem pGetC {s : List UInt8} (hs : s.length < 9223372036854775807) : G.cert_Get s = some (if (getS s).2 ≠ 0 then (⟨0, false, [], [], []⟩, (getS s).2) else match parse (getS s).1 with | some c => (c, 0) | none => ZC) := by
  unfold G.cert_Get
  rw [pGet hs, Option.bind_some]
  by_cases he : (getS s).2 = 0
  · have hN : Num (getS s).1 := by
      rcases get_spec s with ⟨h, _⟩ | ⟨l, h1, h2, _, h4, _⟩
      · exact absurd he h
      · rw [h1]
        refine ⟨h2, fun n hn => ?_⟩
        have := List.all_eq_true.1 h4 n hn
        simp only [inNum, Bool.and_eq_true, decide_eq_true_eq] at this
        omega
    rw [if_neg (by simp [he]), if_neg (by simp [he])]
    generalize (getS s).1 = l at hN
    have n1 := tk_num hN true
    rw [pTake, Option.bind_some, pCount, Option.bind_some]
    have n2 := (cn_num (g := (tkP l true).2.1) n1).1
    have bad : (cnP (tkP l true).2.1 (tkP l true).1).2.1 = false ∨ ((cnP (tkP l true).2.1 (tkP l true).1).2.1 = true ∧ ¬ (cnP (tkP l true).2.1 (tkP l true).1).1 ≤ 1) → (if (cnP (tkP l true).2.1 (tkP l true).1).2.1 = true then G.cert_Get_j1 (tkP l true) (cnP (tkP l true).2.1 (tkP l true).1) (decide ((cnP (tkP l true).2.1 (tkP l true).1).1 ≤ 1)) else G.cert_Get_j1 (tkP l true) (cnP (tkP l true).2.1 (tkP l true).1) false) = some ZC := by
      rintro (h | ⟨h, h2⟩)
      · rw [h]; exact j1_false _ _ n2
      · rw [h, if_pos rfl, decide_eq_false h2]; exact j1_false _ _ n2
    match l, hN, n1, n2, bad with
    | [], _, _, _, bad => exact bad (.inl rfl)
    | [x], _, _, _, bad => exact bad (.inl rfl)
    | lev :: yes :: r, hN, n1, n2, bad =>
      have hNr : Num r := hN.tail.tail
      by_cases h0 : 0 ≤ yes
      · by_cases h1 : yes ≤ 1
        · have e1 : cnP true (yes :: r) = (yes, true, r) := by simp [cnP, tkP, h0]
          simp only [tkP, e1, parse, h0, h1, and_self, if_true, decide_true]
          unfold G.cert_Get_j1
          simp only
          rw [pRow hNr, Option.bind_some]
          have hNb := row_num (g := true) hNr
          rcases row_true r with ⟨a, b, g1, g2⟩ | ⟨g1, g2⟩
          · rw [g2] at hNb ⊢
            simp only at hNb
            simp only [g1]
            rw [pCount, Option.bind_some]
            cases b with
            | nil => exact rowsStop _ _ _ (f := Sh.FUEL - 1)
            | cons nr r3 =>
              have k1 := hNb.2 nr (List.mem_cons_self ..)
              have k2 := hNb.tail
              have k3 := k2.1
              by_cases hnr : 0 ≤ nr
              · have e2 : cnP true (nr :: r3) = (nr, true, r3) := by simp [cnP, tkP, hnr]
                rw [e2]
                simp only [hnr, if_true]
                have hn : nr = ((nr.toNat : Nat) : Int) := by omega
                have key := rowsLoop (yes :: r, true, lev) (yes, true, r) (a, true, nr :: r3) Sh.FUEL r3 [] nr.toNat (fuel_gt (by omega)) (by simp; omega) k2 (by omega)
                rw [← hn] at key
                refine key.trans ?_
                cases hro : rowsO nr.toNat r3 [] with
                | none => rfl
                | some x =>
                  obtain ⟨rows, r4⟩ := x
                  have hN4 := rowsO_num _ _ _ _ _ k2 hro
                  simp only
                  rw [j2_true _ _ _ hN4]
                  cases r4 with
                  | nil => rfl
                  | cons nt r5 =>
                    simp only
                    by_cases hnt : 0 ≤ nt
                    · simp only [hnt, if_true]
                      cases htr : treeO nt.toNat r5 [] with
                      | none => rfl
                      | some y =>
                        obtain ⟨tree, r6⟩ := y
                        simp only
                        rw [j3_true]
                        cases r6 with
                        | nil => rfl
                        | cons _ _ => rfl
                    · simp only [hnt, if_false]
              · have e2 : cnP true (nr :: r3) = (nr, false, r3) := by simp [cnP, tkP, hnr]
                rw [e2]
                simp only [hnr, if_false]
                exact rowsStop _ _ _ (f := Sh.FUEL - 1)
          · rw [g2]
            simp only [g1]
            rw [pCount, Option.bind_some, cn_false]
            exact rowsStop _ _ _ (f := Sh.FUEL - 1)
        · have e1 : cnP true (yes :: r) = (yes, true, r) := by simp [cnP, tkP, h0]
          have hp : parse (lev :: yes :: r) = none := by simp [parse, h1]
          rw [hp]
          exact bad (.inr ⟨by simp [tkP, e1], by simp [tkP, e1, h1]⟩)
      · have e1 : cnP true (yes :: r) = (yes, false, r) := by simp [cnP, tkP, h0]
        have hp : parse (lev :: yes :: r) = none := by simp [parse, h0]
        rw [hp]
        exact bad (.inl (by simp [tkP, e1]))
  · rw [if_pos (by simp [he]), if_pos (by simp [he])]
end Pl
namespace Pl
open Go Go.Av
def rowsI (l : List G.si_Row) : List Int := l.flatMap fun r => r.Key :: (r.L.length : Int) :: r.L
def treeI (l : List G.refute_Node) : List Int := l.flatMap fun n => n.C.Key :: n.C.A :: n.C.B :: (n.Cycle.length : Int) :: n.Cycle
def ints (c : G.cert_Cert) : List Int :=
  c.Level :: (if c.Yes then 1 else 0) :: (c.Order.length : Int) :: (c.Order ++ (c.Rows.length : Int) :: (rowsI c.Rows ++ (c.Tree.length : Int) :: treeI c.Tree))
theorem rows_put : ∀ (l : List G.si_Row) (acc : List G.si_Row) (rest : List Int), rowsO l.length (rowsI l ++ rest) acc = some (acc ++ l, rest) := by
  intro l
  induction l with
  | nil => intro acc rest; simp [rowsO, rowsI]
  | cons x l ih =>
    intro acc rest
    have e : rowsI (x :: l) ++ rest = x.Key :: ((x.L.length : Int) :: (x.L ++ (rowsI l ++ rest))) := by simp [rowsI]
    rw [e, List.length_cons]
    simp only [rowsO, rwO_put]
    rw [ih]
    simp
theorem tree_put : ∀ (l : List G.refute_Node) (acc : List G.refute_Node) (rest : List Int), treeO l.length (treeI l ++ rest) acc = some (acc ++ l, rest) := by
  intro l
  induction l with
  | nil => intro acc rest; simp [treeO, treeI]
  | cons x l ih =>
    intro acc rest
    have e : treeI (x :: l) ++ rest = x.C.Key :: x.C.A :: x.C.B :: ((x.Cycle.length : Int) :: (x.Cycle ++ (treeI l ++ rest))) := by simp [treeI]
    rw [e, List.length_cons]
    simp only [treeO, rwO_put]
    rw [ih]
    simp
theorem parse_put (c : G.cert_Cert) : parse (ints c) = some c := by
  unfold ints
  have hy : (0 : Int) ≤ (if c.Yes then 1 else 0) ∧ (if c.Yes then (1 : Int) else 0) ≤ 1 := by cases c.Yes <;> decide
  have hd : decide ((if c.Yes then (1 : Int) else 0) = 1) = c.Yes := by cases c.Yes <;> rfl
  have ht := tree_put c.Tree [] []
  simp only [List.append_nil, List.nil_append] at ht
  simp only [parse, hy, and_self, if_true, rwO_put, Int.natCast_nonneg, Int.toNat_natCast, rows_put, List.nil_append, ht, hd]
theorem rows_got : ∀ (k : Nat) (l : List Int) (acc rows : List G.si_Row) (r : List Int), rowsO k l acc = some (rows, r) → ∃ m, rows = acc ++ m ∧ m.length = k ∧ l = rowsI m ++ r := by
  intro k
  induction k with
  | zero =>
    intro l acc rows r h
    simp only [rowsO, Option.some.injEq, Prod.mk.injEq] at h
    exact ⟨[], by simp [h.1], rfl, by simp [rowsI, h.2]⟩
  | succ k ih =>
    intro l acc rows r h
    cases l with
    | nil => cases h
    | cons x l =>
      simp only [rowsO] at h
      cases h1 : rwO l with
      | none => rw [h1] at h; cases h
      | some ab =>
        obtain ⟨a, b⟩ := ab
        rw [h1] at h
        obtain ⟨m, e1, e2, e3⟩ := ih b _ _ _ h
        refine ⟨⟨x, a⟩ :: m, by rw [e1]; simp, by simp [e2], ?_⟩
        rw [rwO_len h1, e3]
        simp [rowsI]
theorem tree_got : ∀ (k : Nat) (l : List Int) (acc rows : List G.refute_Node) (r : List Int), treeO k l acc = some (rows, r) → ∃ m, rows = acc ++ m ∧ m.length = k ∧ l = treeI m ++ r := by
  intro k
  induction k with
  | zero =>
    intro l acc rows r h
    simp only [treeO, Option.some.injEq, Prod.mk.injEq] at h
    exact ⟨[], by simp [h.1], rfl, by simp [treeI, h.2]⟩
  | succ k ih =>
    intro l acc rows r h
    match l, h with
    | x :: y :: z :: l, h =>
      simp only [treeO] at h
      cases h1 : rwO l with
      | none => rw [h1] at h; cases h
      | some ab =>
        obtain ⟨a, b⟩ := ab
        rw [h1] at h
        obtain ⟨m, e1, e2, e3⟩ := ih b _ _ _ h
        refine ⟨⟨⟨x, y, z⟩, a⟩ :: m, by rw [e1]; simp, by simp [e2], ?_⟩
        rw [rwO_len h1, e3]
        simp [treeI]
theorem parse_got {l : List Int} {c : G.cert_Cert} (h : parse l = some c) : ints c = l := by
  match l, h with
  | lev :: yes :: r, h =>
    simp only [parse] at h
    split at h
    · rename_i hy
      split at h
      · rename_i ord nr r3 h1
        split at h
        · rename_i hnr
          split at h
          · rename_i rows nt r5 h2
            split at h
            · rename_i hnt
              split at h
              · rename_i tree h3
                simp only [Option.some.injEq] at h
                subst h
                obtain ⟨m, e1, e2, e3⟩ := rows_got _ _ _ _ _ h2
                obtain ⟨t, f1, f2, f3⟩ := tree_got _ _ _ _ _ h3
                simp only [List.nil_append] at e1 f1
                subst e1; subst f1
                have g1 : (if decide (yes = 1) then (1 : Int) else 0) = yes := by
                  by_cases h : yes = 1
                  · simp [h]
                  · have : yes = 0 := by omega
                    simp [this]
                have g2 : ((rows.length : Nat) : Int) = nr := by omega
                have g3 : ((tree.length : Nat) : Int) = nt := by omega
                unfold ints
                simp only [g1, g2, g3]
                rw [rwO_len h1, e3, f3]
                simp
              · cases h
            · cases h
          · cases h
        · cases h
      · cases h
    · cases h

theorem pRowPut {a b : List Int} (h : a.length + b.length ≤ 2000000) : G.cert_Put_1__1 a b = some (b ++ (a.length : Int) :: a) := by
  unfold G.cert_Put_1__1
  rw [app_ok (by simp; omega), Option.bind_some, app_ok (by simp; omega)]
  simp [Sh.len]
theorem flat_take {α : Type} (f : α → List Int) {l : List α} {k : Nat} (hk : k < l.length) : (l.take (k + 1)).flatMap f = (l.take k).flatMap f ++ f l[k] := by
  rw [List.take_add_one, List.getElem?_eq_getElem hk, Option.toList_some, List.flatMap_append, List.flatMap_singleton]
theorem flat_le {α : Type} (f : α → List Int) (l : List α) (k : Nat) : ((l.take k).flatMap f).length ≤ (l.flatMap f).length := by
  conv => rhs; rw [← List.take_append_drop k l]
  rw [List.flatMap_append, List.length_append]; omega
theorem pPutC {c : G.cert_Cert} (h : (ints c).length ≤ 1000000) : G.cert_Put c = some (putS (ints c)) := by
  have hy : G.cert_Put c = G.cert_Put_j1 c (if c.Yes then 1 else 0) := by unfold G.cert_Put; cases c.Yes <;> rfl
  have hlen : (ints c).length = 3 + c.Order.length + 1 + (rowsI c.Rows).length + 1 + (treeI c.Tree).length := by simp [ints]; omega
  have hlr : c.Rows.length ≤ (rowsI c.Rows).length := by
    have : ∀ l : List G.si_Row, l.length ≤ (rowsI l).length := by
      intro l; induction l with
      | nil => simp
      | cons x l ih => simp only [rowsI, List.flatMap_cons, List.length_append, List.length_cons] at *; omega
    exact this _
  have hlt : c.Tree.length ≤ (treeI c.Tree).length := by
    have : ∀ l : List G.refute_Node, l.length ≤ (treeI l).length := by
      intro l; induction l with
      | nil => simp
      | cons x l ih => simp only [treeI, List.flatMap_cons, List.length_append, List.length_cons] at *; omega
    exact this _
  rw [hy]
  unfold G.cert_Put_j1
  rw [app_ok (by simp), Option.bind_some, pRowPut (by simp; omega), Option.bind_some]
  rw [app_ok (by simp; omega), Option.bind_some]
  generalize hB : ([] ++ [c.Level, if c.Yes then 1 else 0] ++ (c.Order.length : Int) :: c.Order ++ [Sh.len c.Rows]) = B
  have hBl : B.length = 4 + c.Order.length := by rw [← hB]; simp; omega
  refine count_exit (fun k => B ++ rowsI (c.Rows.take k)) c.Rows.length (G.cert_Put_j2 c (B ++ rowsI c.Rows)) (fuel_gt (by omega)) (fun k hk => ?_) ?_ (by simp [rowsI]) |>.trans ?_
  · have hk1 := flat_take (fun (r : G.si_Row) => r.Key :: (r.L.length : Int) :: r.L) hk
    have hk2 := flat_le (fun (r : G.si_Row) => r.Key :: (r.L.length : Int) :: r.L) c.Rows (k + 1)
    have hk3 : ((c.Rows.take (k + 1)).flatMap fun (r : G.si_Row) => r.Key :: (r.L.length : Int) :: r.L).length = (rowsI (c.Rows.take k)).length + 2 + (c.Rows[k]).L.length := by
      rw [hk1]; simp [rowsI]; omega
    have hk4 : (rowsI (c.Rows.take k)).length + 2 + (c.Rows[k]).L.length ≤ (rowsI c.Rows).length := by rw [← hk3]; exact hk2
    simp only [G.cert_Put_b2, len_eq, dec_lt, hk, decide_true, if_true, idx_at hk, Option.bind_some]
    rw [app_ok (by simp; omega), Option.bind_some, pRowPut (by simp; omega)]
    simp only [Option.bind_some, w64_succ (show k < 9223372036854775807 by omega), Sh.next]
    rw [show rowsI (c.Rows.take (k + 1)) = rowsI (c.Rows.take k) ++ ((c.Rows[k]).Key :: ((c.Rows[k]).L.length : Int) :: (c.Rows[k]).L) from hk1]
    simp
  · simp [G.cert_Put_b2, len_eq]
  · unfold G.cert_Put_j2
    rw [app_ok (by simp; omega), Option.bind_some]
    generalize hD : B ++ rowsI c.Rows ++ [Sh.len c.Tree] = D
    have hDl : D.length = 5 + c.Order.length + (rowsI c.Rows).length := by rw [← hD]; simp; omega
    refine count_exit (fun k => D ++ treeI (c.Tree.take k)) c.Tree.length (G.cert_Put_j3 (D ++ treeI c.Tree)) (fuel_gt (by omega)) (fun k hk => ?_) ?_ (by simp [treeI]) |>.trans ?_
    · have hk1 := flat_take (fun (n : G.refute_Node) => n.C.Key :: n.C.A :: n.C.B :: (n.Cycle.length : Int) :: n.Cycle) hk
      have hk2 := flat_le (fun (n : G.refute_Node) => n.C.Key :: n.C.A :: n.C.B :: (n.Cycle.length : Int) :: n.Cycle) c.Tree (k + 1)
      have hk3 : ((c.Tree.take (k + 1)).flatMap fun (n : G.refute_Node) => n.C.Key :: n.C.A :: n.C.B :: (n.Cycle.length : Int) :: n.Cycle).length = (treeI (c.Tree.take k)).length + 4 + (c.Tree[k]).Cycle.length := by
        rw [hk1]; simp [treeI]; omega
      have hk4 : (treeI (c.Tree.take k)).length + 4 + (c.Tree[k]).Cycle.length ≤ (treeI c.Tree).length := by rw [← hk3]; exact hk2
      simp only [G.cert_Put_b1, len_eq, dec_lt, hk, decide_true, if_true, idx_at hk, Option.bind_some]
      rw [app_ok (by simp; omega), Option.bind_some, pRowPut (by simp; omega)]
      simp only [Option.bind_some, w64_succ (show k < 9223372036854775807 by omega), Sh.next]
      rw [show treeI (c.Tree.take (k + 1)) = treeI (c.Tree.take k) ++ ((c.Tree[k]).C.Key :: (c.Tree[k]).C.A :: (c.Tree[k]).C.B :: ((c.Tree[k]).Cycle.length : Int) :: (c.Tree[k]).Cycle) from hk1]
      simp
    · simp [G.cert_Put_b1, len_eq]
    · have e : D ++ treeI c.Tree = ints c := by rw [← hD, ← hB]; simp [ints, Sh.len]
      unfold G.cert_Put_j3
      rw [e, pPut _ (by omega)]
      rfl
end Pl
end

section
/- Law 27, CertBack: what was put is got, and what was got is put as it was. -/
namespace Pl
open Go Go.Av

theorem awake27 : G.inquestlaw27_awake = some true := by kernel_rfl
theorem dec_gt27 {α : Type} (l : List α) (n : Nat) : decide ((n : Int) < Sh.len l) = !decide (l.length ≤ n) := by
  by_cases h : l.length ≤ n <;> simp [h, Sh.len] <;> omega
def few27 (c : G.cert_Cert) : Bool :=
  decide (c.Order.length ≤ 40) && decide (c.Rows.length ≤ 20) && decide (c.Tree.length ≤ 80) && c.Rows.all (fun r => decide (r.L.length ≤ 40)) && c.Tree.all (fun n => decide (n.Cycle.length ≤ 40))
theorem rFew27 (c : G.cert_Cert) : G.inquestlaw27_few c = some (few27 c) := by
  unfold G.inquestlaw27_few few27
  have d1 : decide ((40 : Int) < Sh.len c.Order) = !decide (c.Order.length ≤ 40) := dec_gt27 _ 40
  have d2 : decide ((20 : Int) < Sh.len c.Rows) = !decide (c.Rows.length ≤ 20) := dec_gt27 _ 20
  have d3 : decide ((80 : Int) < Sh.len c.Tree) = !decide (c.Tree.length ≤ 80) := dec_gt27 _ 80
  have hj2 : c.Tree.length ≤ 80 → G.inquestlaw27_few_j2 c = some (c.Tree.all (fun n => decide (n.Cycle.length ≤ 40))) := fun ht => by
    unfold G.inquestlaw27_few_j2
    rw [any_loop c.Tree (fun f => !decide (f.Cycle.length ≤ 40)) false (some true) (fuel_gt (by omega)) (fun k hk => ?_) ?_]
    · rw [List.any_eq_not_all_not]
      simp only [Bool.not_not]
      cases c.Tree.all (fun f => decide (f.Cycle.length ≤ 40)) <;> rfl
    · simp [G.inquestlaw27_few_b1, G.inquestlaw27_few_j3, len_eq, Sh.exit]
    · have := dec_gt27 (c.Tree[k]).Cycle 40
      simp only [G.inquestlaw27_few_b1, len_eq, dec_lt, hk, decide_true, if_true, idx_at hk, Option.bind_some, w64_succ (show k < 9223372036854775807 by omega), Sh.exit, Sh.next, Option.map_some]
      simp only [len_eq] at this
      rw [show ((40 : Int)) = ((40 : Nat) : Int) from rfl, this]
  have hj1 : c.Rows.length ≤ 20 → c.Tree.length ≤ 80 → G.inquestlaw27_few_j1 c false = some (c.Rows.all (fun r => decide (r.L.length ≤ 40)) && c.Tree.all (fun n => decide (n.Cycle.length ≤ 40))) := fun hr ht => by
    unfold G.inquestlaw27_few_j1
    simp only [Bool.false_eq_true, if_false]
    rw [any_loop c.Rows (fun f => !decide (f.L.length ≤ 40)) false (some (c.Tree.all (fun n => decide (n.Cycle.length ≤ 40)))) (fuel_gt (by omega)) (fun k hk => ?_) ?_]
    · rw [List.any_eq_not_all_not]
      simp only [Bool.not_not]
      cases c.Rows.all (fun f => decide (f.L.length ≤ 40)) <;> rfl
    · simp [G.inquestlaw27_few_b2, hj2 ht, len_eq, Sh.exit]
    · have := dec_gt27 (c.Rows[k]).L 40
      simp only [G.inquestlaw27_few_b2, len_eq, dec_lt, hk, decide_true, if_true, idx_at hk, Option.bind_some, w64_succ (show k < 9223372036854775807 by omega), Sh.exit, Sh.next, Option.map_some]
      simp only [len_eq] at this
      rw [show ((40 : Int)) = ((40 : Nat) : Int) from rfl, this]
  have hj1t : G.inquestlaw27_few_j1 c true = some false := rfl
  rw [d1, d2, d3]
  by_cases h1 : c.Order.length ≤ 40
  · by_cases h2 : c.Rows.length ≤ 20
    · by_cases h3 : c.Tree.length ≤ 80
      · simp [h1, h2, h3, hj1 h2 h3]
      · simp [h1, h2, h3, hj1t]
    · simp [h1, h2, hj1t]
  · simp [h1, hj1t]
theorem flat_bound {α : Type} (f : α → List Int) (b : Nat) : ∀ l : List α, (∀ x ∈ l, (f x).length ≤ b) → (l.flatMap f).length ≤ b * l.length
  | [], _ => by simp
  | x :: l, h => by
    have h1 := h x (List.mem_cons_self ..)
    have h2 := flat_bound f b l (fun y hy => h y (List.mem_cons_of_mem _ hy))
    simp only [List.flatMap_cons, List.length_append, List.length_cons, Nat.mul_add, Nat.mul_one]
    omega
theorem few27_ints {c : G.cert_Cert} (h : few27 c = true) : (ints c).length ≤ 10000 := by
  simp only [few27, Bool.and_eq_true, decide_eq_true_eq, List.all_eq_true] at h
  obtain ⟨⟨⟨⟨h1, h2⟩, h3⟩, h4⟩, h5⟩ := h
  have a := flat_bound (fun (r : G.si_Row) => r.Key :: (r.L.length : Int) :: r.L) 42 c.Rows (fun x hx => by have := h4 x hx; simp; omega)
  have b := flat_bound (fun (n : G.refute_Node) => n.C.Key :: n.C.A :: n.C.B :: (n.Cycle.length : Int) :: n.Cycle) 44 c.Tree (fun x hx => by have := h5 x hx; simp; omega)
  have e : (ints c).length = 3 + c.Order.length + 1 + (rowsI c.Rows).length + 1 + (treeI c.Tree).length := by simp [ints]; omega
  unfold rowsI treeI at e
  omega

def plC (c : G.cert_Cert) : G.inquestref27_C := ⟨c.Level, c.Yes, c.Order, c.Rows.map fun r => ⟨r.Key, r.L⟩, c.Tree.map fun n => ⟨n.C, n.Cycle⟩⟩
theorem pPlain {c : G.cert_Cert} (h1 : c.Rows.length ≤ 1000000) (h2 : c.Tree.length ≤ 1000000) : G.inquestlaw27_Plain c = some (plC c) := by
  unfold G.inquestlaw27_Plain
  refine count_exit (fun k => (c.Rows.take k).map fun r => (⟨r.Key, r.L⟩ : G.inquestref21_R)) c.Rows.length (G.inquestlaw27_Plain_j1 c (c.Rows.map fun r => ⟨r.Key, r.L⟩)) (fuel_gt (by omega)) (fun k hk => ?_) ?_ (by simp) |>.trans ?_
  · simp only [G.inquestlaw27_Plain_b2, len_eq, dec_lt, hk, decide_true, if_true, idx_at hk, Option.bind_some]
    rw [app_ok (by simp; omega)]
    simp only [Option.bind_some, w64_succ (show k < 9223372036854775807 by omega), Sh.next]
    rw [List.take_add_one, List.getElem?_eq_getElem hk, Option.toList_some, List.map_append]
    rfl
  · simp [G.inquestlaw27_Plain_b2, len_eq]
  · unfold G.inquestlaw27_Plain_j1
    refine count_exit (fun k => (c.Tree.take k).map fun n => (⟨n.C, n.Cycle⟩ : G.inquestref24_N)) c.Tree.length _ (fuel_gt (by omega)) (fun k hk => ?_) ?_ (by simp)
    · simp only [G.inquestlaw27_Plain_b1, len_eq, dec_lt, hk, decide_true, if_true, idx_at hk, Option.bind_some]
      rw [app_ok (by simp; omega)]
      simp only [Option.bind_some, w64_succ (show k < 9223372036854775807 by omega), Sh.next]
      rw [List.take_add_one, List.getElem?_eq_getElem hk, Option.toList_some, List.map_append]
      rfl
    · simp [G.inquestlaw27_Plain_b1, G.inquestlaw27_Plain_j2, len_eq, plC]
theorem sameInts {a : List Int} (h : a.length ≤ 1000000) : G.inquestref07_Ints a a = some true := by
  unfold G.inquestref07_Ints
  simp only [ne_eq, not_true, decide_false, Bool.false_eq_true, if_false]
  refine count0 a.length true (fuel_gt (by omega)) (fun k hk => ?_) ?_
  · simp only [G.inquestref07_Ints_b1, len_eq, dec_lt, hk, decide_true, if_true, idx_at hk, Option.bind_some, ne_eq, not_true, decide_false, Bool.false_eq_true, if_false, w64_succ (show k < 9223372036854775807 by omega), Sh.next]
  · simp [G.inquestref07_Ints_b1, G.inquestref07_Ints_j1, len_eq, Sh.exit]
theorem sameRows {a : List G.inquestref21_R} (h : a.length ≤ 1000000) (h2 : ∀ r ∈ a, r.L.length ≤ 1000000) : G.inquestref21_Same a a = some true := by
  unfold G.inquestref21_Same
  simp only [ne_eq, not_true, decide_false, Bool.false_eq_true, if_false]
  refine count0 a.length true (fuel_gt (by omega)) (fun k hk => ?_) ?_
  · have hx := h2 _ (List.getElem_mem hk)
    simp only [G.inquestref21_Same_b1, len_eq, dec_lt, hk, decide_true, if_true, idx_at hk, Option.bind_some, ne_eq, not_true, decide_false, Bool.false_eq_true, if_false, G.inquestref21_Same_j3]
    refine run_exit (fun i => ((i : Nat) : Int)) (a[k]).L.length (G.inquestref21_Same_j2 (k : Int)) (fuel_gt (by omega)) (fun i hi => ?_) ?_ rfl |>.trans ?_
    · simp only [G.inquestref21_Same_b2, len_eq, dec_lt, idx_at hk, hi, decide_true, if_true, idx_at hi, Option.bind_some, ne_eq, not_true, decide_false, Bool.false_eq_true, if_false, w64_succ (show i < 9223372036854775807 by omega), Sh.next]
    · simp [G.inquestref21_Same_b2, len_eq, idx_at hk]
    · unfold G.inquestref21_Same_j2
      rw [w64_succ (show k < 9223372036854775807 by omega)]; rfl
  · simp [G.inquestref21_Same_b1, G.inquestref21_Same_j1, len_eq, Sh.exit]
theorem sameTree {a : List G.inquestref24_N} (h : a.length ≤ 1000000) (h2 : ∀ r ∈ a, r.Cycle.length ≤ 1000000) : G.inquestref24_Same a a = some true := by
  unfold G.inquestref24_Same
  simp only [ne_eq, not_true, decide_false, Bool.false_eq_true, if_false]
  refine count0 a.length true (fuel_gt (by omega)) (fun k hk => ?_) ?_
  · have hx := h2 _ (List.getElem_mem hk)
    simp only [G.inquestref24_Same_b1, len_eq, dec_lt, hk, decide_true, if_true, idx_at hk, Option.bind_some, ne_eq, not_true, decide_false, Bool.not_true, Bool.false_eq_true, if_false, G.inquestref24_Same_j3]
    refine run_exit (fun i => ((i : Nat) : Int)) (a[k]).Cycle.length (G.inquestref24_Same_j2 (k : Int)) (fuel_gt (by omega)) (fun i hi => ?_) ?_ rfl |>.trans ?_
    · simp only [G.inquestref24_Same_b2, len_eq, dec_lt, idx_at hk, hi, decide_true, if_true, idx_at hi, Option.bind_some, ne_eq, not_true, decide_false, Bool.false_eq_true, if_false, w64_succ (show i < 9223372036854775807 by omega), Sh.next]
    · simp [G.inquestref24_Same_b2, len_eq, idx_at hk]
    · unfold G.inquestref24_Same_j2
      rw [w64_succ (show k < 9223372036854775807 by omega)]; rfl
  · simp [G.inquestref24_Same_b1, G.inquestref24_Same_j1, len_eq, Sh.exit]
theorem sameC {c : G.cert_Cert} (h : few27 c = true) : G.inquestref27_Same (plC c) (plC c) = some true := by
  simp only [few27, Bool.and_eq_true, decide_eq_true_eq, List.all_eq_true] at h
  obtain ⟨⟨⟨⟨h1, h2⟩, h3⟩, h4⟩, h5⟩ := h
  unfold G.inquestref27_Same
  rw [sameInts (show (plC c).Order.length ≤ 1000000 by show c.Order.length ≤ _; omega), Option.bind_some,
    sameRows (show (plC c).Rows.length ≤ 1000000 by simp [plC]; omega) (fun r hr => by
      obtain ⟨x, hx, rfl⟩ := List.mem_map.1 hr
      have := h4 x hx
      show x.L.length ≤ _
      omega), Option.bind_some,
    sameTree (show (plC c).Tree.length ≤ 1000000 by simp [plC]; omega) (fun r hr => by
      obtain ⟨x, hx, rfl⟩ := List.mem_map.1 hr
      have := h5 x hx
      show x.Cycle.length ≤ _
      omega), Option.bind_some]
  simp

theorem put_len {l : List Int} {t : List UInt8} (h : putS l = (t, 0)) : t.length ≤ 600000 := by
  unfold putS at h
  split at h
  · simp at h
  · rename_i hl
    split at h
    · rename_i ha
      simp only [Prod.mk.injEq, and_true] at h
      subst h
      have := byt_len ha
      have := grp_len 5 l.length (by omega) (by omega)
      simp [Sh.str]; omega
    · simp at h

theorem CertBack (c : G.cert_Cert) (s : List UInt8) : G.inquestlaw27_CertBack c s = some true := by
  unfold G.inquestlaw27_CertBack
  rw [awake27, rFew27]
  simp only [Option.bind_some, Bool.not_true, Bool.false_eq_true, if_false]
  have j1t : G.inquestlaw27_CertBack_j1 c s true = some true := rfl
  cases hF : few27 c with
  | false => exact j1t
  | true =>
    by_cases hs : s.length ≤ 600
    · have hd : decide ((600 : Int) < Sh.len s) = false := decide_eq_false (by simp only [Sh.len]; omega)
      rw [hd]
      have hi := few27_ints hF
      have hsl : s.length < 9223372036854775807 := by omega
      simp only [Bool.not_true, Bool.false_eq_true, if_false, G.inquestlaw27_CertBack_j1, pPutC (c := c) (by omega), Option.bind_some]
      -- what is got of the bytes
      have j2 : ((putS (ints c)).2 = 0 ∨ (putS (ints c)).1 = []) → G.inquestlaw27_CertBack_j2 s (putS (ints c)) = some true := fun hp => by
        unfold G.inquestlaw27_CertBack_j2
        rw [pGetC hsl, Option.bind_some]
        have hend : (if decide ((putS (ints c)).2 = 0) = true then some true else some (decide ((putS (ints c)).1 = []))) = some true := by
          rcases hp with h | h
          · simp [h]
          · simp [h]
        have bad : ∀ e : Int, e ≠ 0 → ∀ x : G.cert_Cert × Int, x = (⟨0, false, [], [], []⟩, e) → (if decide (x.2 ≠ 0) = true then
            if (!x.1.Yes) = true then
              if decide (x.1.Level = 0) = true then
                if decide ((w64 ((w64 ((Sh.len x.1.Order) + (Sh.len x.1.Rows))) + (Sh.len x.1.Tree))) = 0) = true then
                  if decide ((putS (ints c)).2 = 0) = true then some true else some (decide ((putS (ints c)).1 = []))
                else some false
              else some false
            else some false
          else (G.cert_Put x.1).bind fun r56 => if decide (r56.2 = 0) = true then some (decide (r56.1 = s)) else some false) = some true := by
          rintro e he x rfl
          have hz : w64 ((w64 ((Sh.len ([] : List Int)) + (Sh.len ([] : List G.si_Row)))) + (Sh.len ([] : List G.refute_Node))) = 0 := by decide
          simp only [he, ne_eq, not_false_eq_true, decide_true, if_true, Bool.not_false, hz, hend]
        rcases get_spec s with ⟨h1, h2⟩ | ⟨l, h1, h2, h3, h4, h5⟩
        · rw [if_pos h1]
          exact bad _ h1 _ rfl
        · rw [h1]
          simp only [ne_eq, not_true, if_false]
          cases hp : parse l with
          | none => exact bad 2 (by decide) _ rfl
          | some d =>
            have hl := parse_got hp
            simp only [ne_eq, not_true, decide_false, Bool.false_eq_true, if_false]
            rw [pPutC (c := d) (by rw [hl]; omega), hl, h5]
            simp
      have j3 : G.inquestlaw27_CertBack_j3 s (putS (ints c)) false = G.inquestlaw27_CertBack_j2 s (putS (ints c)) := rfl
      cases hp : decide ((putS (ints c)).2 = 0) with
      | false =>
        simp only [Bool.false_eq_true, if_false]
        exact j2 (.inr (put_err (by simpa using hp)))
      | true =>
        have hp0 : (putS (ints c)).2 = 0 := by simpa using hp
        have hpe : putS (ints c) = ((putS (ints c)).1, 0) := by rw [← hp0]
        have hb : c.Rows.length ≤ 1000000 ∧ c.Tree.length ≤ 1000000 := by
          simp only [few27, Bool.and_eq_true, decide_eq_true_eq] at hF
          omega
        simp only [if_true]
        rw [pGetC (by have := put_len hpe; omega), Option.bind_some, get_put hpe]
        simp only [ne_eq, not_true, if_false, parse_put, decide_false, Bool.false_eq_true, pPlain hb.1 hb.2, Option.bind_some, sameC hF, Bool.not_true]
        rw [j3]
        exact j2 (.inl hp0)
    · have hd : decide ((600 : Int) < Sh.len s) = true := decide_eq_true (by simp only [Sh.len]; omega)
      rw [hd]
      exact j1t
end Pl
end
