/- What the plain functions answer. -/
import Derived.Test.YtkiiigfefobdlaaDoorBase1
import Derived.Test.YtkiiigfefobdlaaDoorSh
set_option linter.unusedSimpArgs false
set_option linter.unusedVariables false
section
/- What is used to reason about the plain functions. -/
namespace Pl
open Go Go.Av

theorem w64_id {n : Int} (h1 : -9223372036854775808 ≤ n) (h2 : n < 9223372036854775808) : w64 n = n := i64_wrap h1 h2
theorem idx_at {α : Type} {l : List α} {k : Nat} (h : k < l.length) : Sh.idx l (k : Int) = some l[k] := by
  simp [Sh.idx, h]
theorem idx_of {α : Type} {l : List α} {i : Int} (h0 : 0 ≤ i) (h : i < l.length) : Sh.idx l i = some (l[i.toNat]'(by omega)) := by
  unfold Sh.idx
  rw [if_pos h0]
  exact List.getElem?_eq_getElem (by omega)
theorem app_ok {α : Type} {b : Nat} {l m : List α} (h : (l.length + m.length) * b ≤ 140737488355328) : Sh.app b l m = some (l ++ m) := by
  simp [Sh.app, h]
theorem mk_ok {α : Type} {b m : Nat} {z : α} (h : b * m ≤ 140737488355328) (h2 : m ≤ 4611686018427387904) : Sh.mk b (m : Int) (m : Int) z = some (List.replicate m z) := by
  have : ((b : Int) * (m : Int)) ≤ 140737488355328 := by
    rw [← Int.natCast_mul]; omega
  unfold Sh.mk
  rw [if_pos ⟨by omega, by omega, this, by omega⟩]
  simp
theorem sub_ok {α : Type} {l : List α} {m k : Nat} (h1 : m ≤ k) (h2 : k ≤ l.length) : Sh.sub l (m : Int) (k : Int) = some ((l.drop m).take (k - m)) := by
  unfold Sh.sub
  rw [if_pos ⟨by omega, by omega, by omega⟩]
  simp
theorem set_at {α : Type} (l : List α) (k : Nat) (x : α) : Sh.set l (k : Int) x = l.set k x := by simp [Sh.set]
theorem cpy_ok {α : Type} {l m : List α} (h : m.length = l.length) : Sh.cpy l m = some m := by simp [Sh.cpy, h]

/-- A loop that counts up from 0, where each round turns a state: what it answers. -/
theorem count {σ α : Type} {b : σ × Int → Option ((σ × Int) ⊕ α)} (S : Nat → σ) (m : Nat) (r : α) (hm : m < Sh.FUEL) (h : ∀ k, k < m → b (S k, (k : Int)) = some (.inl (S (k + 1), ((k + 1 : Nat) : Int)))) (hr : b (S m, (m : Int)) = some (.inr r)) {s : σ} (hs : s = S 0) :
    Sh.loop b (s, 0) = some r := by
  subst hs
  exact Sh.loop_run (fun k => (S k, (k : Int))) m r hm h hr
/-- The same, with nothing beside the counter. -/
theorem count0 {α : Type} {b : Int → Option (Int ⊕ α)} (m : Nat) (r : α) (hm : m < Sh.FUEL) (h : ∀ k, k < m → b (k : Int) = some (.inl ((k + 1 : Nat) : Int))) (hr : b (m : Int) = some (.inr r)) : Sh.loop b 0 = some r :=
  Sh.loop_run (fun k => (k : Int)) m r hm h hr
theorem next_some {σ α : Type} (s : σ) : Sh.next (α := α) s = some (.inl s) := rfl
theorem exit_some {σ α : Type} (x : α) : Sh.exit (σ := σ) (some x) = some (.inr x) := rfl
theorem fuel_gt {n : Nat} (h : n < 9223372036854775808) : n < Sh.FUEL := h
theorem w64_succ {k : Nat} (h : k < 9223372036854775807) : w64 ((k : Int) + 1) = ((k + 1 : Nat) : Int) := by
  rw [w64_id (by omega) (by omega)]; omega
theorem len_eq {α : Type} (l : List α) : Sh.len l = (l.length : Int) := rfl
theorem dec_lt {k n : Nat} : decide ((k : Int) < (n : Int)) = decide (k < n) := by
  congr 1; exact propext (by omega)
end Pl
namespace Pl
open Go Go.Av
/-- A loop that goes on as long as something holds, and answers the same wherever it does not. -/
theorem scan {α : Type} {b : Int → Option (Int ⊕ α)} (s m : Nat) (p : Nat → Bool) (A B : α) (hsm : s ≤ m) (hm : m < Sh.FUEL) (h : ∀ k, s ≤ k → k < m → b (k : Int) = if p k then some (.inl ((k + 1 : Nat) : Int)) else some (.inr B)) (hr : b (m : Int) = some (.inr A)) :
    Sh.loop b (s : Int) = some (if ∀ k, k < m → s ≤ k → p k = true then A else B) := by
  by_cases hall : ∀ k, k < m → s ≤ k → p k = true
  · rw [if_pos hall]
    refine Sh.loop_run (fun k => ((s + k : Nat) : Int)) (m - s) A (by omega) (fun k hk => ?_) ?_
    · rw [h (s + k) (by omega) (by omega), if_pos (hall _ (by omega) (by omega))]; rfl
    · rw [show s + (m - s) = m by omega]; exact hr
  · rw [if_neg hall]
    have hex : ∃ k, s ≤ k ∧ k < m ∧ p k = false := by
      apply Classical.byContradiction
      intro hn
      exact hall (fun k h2 h1 => by
        cases hp : p k with
        | true => rfl
        | false => exact absurd ⟨k, h1, h2, hp⟩ hn)
    obtain ⟨k, hk, hmin⟩ := exists_least _ hex
    refine Sh.loop_run (fun q => ((s + q : Nat) : Int)) (k - s) B (by omega) (fun q hq => ?_) ?_
    · have : p (s + q) = true := by
        cases hp : p (s + q) with
        | true => rfl
        | false => have := hmin (s + q) ⟨by omega, by omega, hp⟩; omega
      rw [h (s + q) (by omega) (by omega), if_pos this]; rfl
    · rw [show s + (k - s) = k by omega, h k hk.1 hk.2.1, if_neg (by rw [hk.2.2]; simp)]
theorem scan0 {α : Type} {b : Int → Option (Int ⊕ α)} (m : Nat) (p : Nat → Bool) (A B : α) (hm : m < Sh.FUEL) (h : ∀ k, k < m → b (k : Int) = if p k then some (.inl ((k + 1 : Nat) : Int)) else some (.inr B)) (hr : b (m : Int) = some (.inr A)) :
    Sh.loop b 0 = some (if ∀ k, k < m → p k = true then A else B) := by
  have := scan 0 m p A B (by omega) hm (fun k _ hk => h k hk) hr
  simpa using this
theorem scan_true {b : Int → Option (Int ⊕ Bool)} (m : Nat) (p : Nat → Bool) (hm : m < Sh.FUEL) (h : ∀ k, k < m → b (k : Int) = if p k then some (.inl ((k + 1 : Nat) : Int)) else some (.inr false)) (hr : b (m : Int) = some (.inr true)) :
    Sh.loop b 0 = some (decide (∀ k, k < m → p k = true)) := by
  rw [scan0 m p true false hm h hr]
  by_cases hq : ∀ k, k < m → p k = true
  · rw [if_pos hq, decide_eq_true hq]
  · rw [if_neg hq, decide_eq_false hq]
end Pl
namespace Pl
open Go Go.Av
/-- Rounds one by one, and then what comes behind the loop. -/
theorem run_exit {σ α : Type} {b : σ → Option (σ ⊕ α)} (S : Nat → σ) (m : Nat) (X : Option α) (hm : m < Sh.FUEL) (h : ∀ k, k < m → b (S k) = some (.inl (S (k + 1)))) (hr : b (S m) = Sh.exit X) {s : σ} (hs : s = S 0) : Sh.loop b s = X := by
  subst hs
  unfold Sh.loop
  rw [show Sh.FUEL = m + ((Sh.FUEL - m - 1) + 1) by omega, Sh.iter_go S m h]
  simp only [Sh.iter, hr]
  cases X <;> rfl
theorem count_exit {σ α : Type} {b : σ × Int → Option ((σ × Int) ⊕ α)} (S : Nat → σ) (m : Nat) (X : Option α) (hm : m < Sh.FUEL) (h : ∀ k, k < m → b (S k, (k : Int)) = some (.inl (S (k + 1), ((k + 1 : Nat) : Int)))) (hr : b (S m, (m : Int)) = Sh.exit X) {s : σ} (hs : s = S 0) :
    Sh.loop b (s, 0) = X := run_exit (fun k => (S k, (k : Int))) m X hm h hr (by rw [hs]; rfl)
end Pl
end

section
/- Sets of numbers as bits: the program's functions, and the reference's, say the same. -/
namespace Pl
open Go Go.Av

@[simp] theorem bits_bit (i : Int) : G.bits_bit i = some (Bv.bit i) := by
  unfold G.bits_bit G.bits_bit_j1 Bv.bit
  by_cases h : i < 0
  · simp [h]; omega
  · by_cases h2 : 64 ≤ i
    · simp [h, h2]; omega
    · simp [h, h2, Sh.shl, show 0 ≤ i by omega, show i < 64 by omega]
@[simp] theorem bits_With (s : BitVec 64) (i : Int) : G.bits_With s i = some (s ||| Bv.bit i) := by simp [G.bits_With]
theorem has_bit (s : BitVec 64) (i : Int) : decide ((s &&& Bv.bit i) ≠ 0#64) = Bv.has s i := by
  unfold Bv.bit Bv.has
  by_cases h : 0 ≤ i ∧ i < 64
  · rw [if_pos h]
    simp only [h.1, h.2, decide_true, Bool.true_and]
    obtain ⟨k, rfl⟩ : ∃ k : Nat, i = k := ⟨i.toNat, by omega⟩
    have hk : k < 64 := by omega
    simp only [Int.toNat_natCast]
    cases hb : s.getLsbD k with
    | true =>
      rw [decide_eq_true_eq]
      intro h0
      have := congrArg (fun x : BitVec 64 => x.getLsbD k) h0
      simp only [BitVec.getLsbD_and, BitVec.getLsbD_shiftLeft, hk, hb, BitVec.getLsbD_zero] at this
      simp [BitVec.getLsbD_one] at this
    | false =>
      rw [decide_eq_false_iff_not]
      refine not_not_intro ?_
      apply Bv.ext
      intro j hj
      simp only [BitVec.getLsbD_and, BitVec.getLsbD_shiftLeft, hj, decide_true, Bool.true_and, BitVec.getLsbD_zero]
      by_cases hjk : j = k
      · subst hjk; simp [hb]
      · by_cases hlt : j < k
        · simp [hlt]
        · simp [hlt, BitVec.getLsbD_one]; omega
  · rw [if_neg h]
    simp only [BitVec.and_zero, ne_eq, not_true_eq_false, decide_false]
    by_cases h0 : 0 ≤ i
    · have : ¬ i < 64 := fun h1 => h ⟨h0, h1⟩
      simp [this]
    · simp [h0]
@[simp] theorem bits_Has (s : BitVec 64) (i : Int) : G.bits_Has s i = some (Bv.has s i) := by
  simp only [G.bits_Has, bits_bit, Option.bind_some, has_bit]
@[simp] theorem bits_Sub (a b : BitVec 64) : G.bits_Sub a b = some (decide (a &&& ~~~b = 0#64)) := rfl

def join (l : List (BitVec 64)) : BitVec 64 := l.foldl (· ||| ·) 0#64
theorem join_take (l : List (BitVec 64)) (k : Nat) (h : k < l.length) : join (l.take (k+1)) = join (l.take k) ||| l[k] := by
  unfold join
  rw [List.take_succ_eq_append_getElem h, List.foldl_append]; rfl
theorem bits_Join (l : List (BitVec 64)) (hl : l.length < 9223372036854775808) : G.bits_Join l = some (join l) := by
  unfold G.bits_Join
  refine count (fun k => join (l.take k)) l.length _ hl (fun k hk => ?_) ?_ rfl
  · simp only [G.bits_Join_b1, len_eq, dec_lt, hk, decide_true, if_true, idx_at hk, Option.bind_some, Sh.next, join_take l k hk, w64_succ (show k < 9223372036854775807 by omega)]
  · simp [G.bits_Join_b1, len_eq, G.bits_Join_j1, Sh.exit]
theorem join_two (a b : BitVec 64) : G.bits_Join [a, b] = some (a ||| b) := by
  rw [bits_Join _ (by simp)]; simp [join]

theorem shr_nat (a : BitVec 64) (n : Nat) : Sh.shr a (n : Int) = some (a >>> n) := by simp [Sh.shr]
theorem ctz_zero : Bv.ctz 0#64 = 64 := by decide
theorem tab_at (s : BitVec 64) (h2 : Bv.ctz s < 64) : Sh.idx Sh.tab8 ((((1#64 <<< Bv.ctz s) * Bv.dB) >>> 58).toNat : Int) = some ((Bv.ctz s : Nat) : Int) := by
  have h4 := Bv.tab_ok ⟨Bv.ctz s, h2⟩
  simp only [Sh.idx, Sh.tab8, List.getElem?_map]
  rw [if_pos (by omega), Int.toNat_natCast, h4]
  rfl
@[simp] theorem tz (s : BitVec 64) : G.bits_TrailingZeros64 s = some (Bv.ctz s : Int) := by
  unfold G.bits_TrailingZeros64
  by_cases h : s = 0#64
  · subst h
    rw [if_pos (decide_eq_true rfl), ctz_zero]; rfl
  · obtain ⟨_, h2, h3⟩ := Bv.list_cons s h
    rw [if_neg (by simpa using h), h3]
    have h5 : Sh.shr ((1#64 <<< Bv.ctz s) * 285870213051353865#64) ((58 : Nat) : Int) = some (((1#64 <<< Bv.ctz s) * 285870213051353865#64) >>> 58) := shr_nat _ _
    have e2 : (((58#64).toNat : Nat) : Int) = ((58 : Nat) : Int) := rfl
    rw [e2, h5]
    have h6 := tab_at s h2
    unfold Bv.dB at h6
    rw [Option.bind_some, h6, Option.bind_some]
    rw [w64_id (by omega) (by omega)]

theorem i64s (l : List Nat) : (l.map fun (k : Nat) => (k : Int)).length = l.length := by simp
/-- A set's numbers, as the program has them. -/
def ilist (s : BitVec 64) : List Int := (Bv.list s).map fun (k : Nat) => (k : Int)
theorem ilist_len (s : BitVec 64) : (ilist s).length ≤ 64 := by simp [ilist, Bv.list_length_le]

theorem list_iter : ∀ (n : Nat) (s : BitVec 64) (acc : List Int), (Bv.list s).length < n → acc.length + (Bv.list s).length ≤ 64 →
    Sh.iter (fun (p : (BitVec 64) × (List Int)) => G.bits_List_b1 p.1 p.2) n (s, acc) = some (acc ++ ilist s) := by
  intro n
  induction n with
  | zero => intro s acc h; omega
  | succ n ih =>
    intro s acc h1 h2
    by_cases h : s = 0#64
    · subst h
      simp [Sh.iter, G.bits_List_b1, G.bits_List_j1, Sh.exit, ilist, Bv.list_zero]
    · obtain ⟨e, _, _⟩ := Bv.list_cons s h
      have hl : (Bv.list s).length = (Bv.list (s &&& (s - 1#64))).length + 1 := by rw [e]; simp
      have ha : Sh.app 8 acc [((Bv.ctz s : Nat) : Int)] = some (acc ++ [((Bv.ctz s : Nat) : Int)]) := app_ok (by simp; omega)
      have hb : G.bits_List_b1 s acc = some (.inl (s &&& (s - 1#64), acc ++ [((Bv.ctz s : Nat) : Int)])) := by
        simp only [G.bits_List_b1, h, ne_eq, not_false_eq_true, decide_true, if_true, tz, Option.bind_some, ha, Sh.next]
      simp only [Sh.iter, hb]
      rw [ih _ _ (by omega) (by simp; omega)]
      simp only [ilist, Option.some.injEq]
      rw [e]; simp
@[simp] theorem bits_List (s : BitVec 64) : G.bits_List s = some (ilist s) := by
  have := Bv.list_length_le s
  have h := list_iter Sh.FUEL s [] (Nat.lt_of_le_of_lt this (fuel_gt (by omega))) (by simpa using this)
  simpa [G.bits_List, Sh.loop] using h
theorem least_eq (s : BitVec 64) : Bv.least s = if s = 0#64 then -1 else (Bv.ctz s : Int) := by
  by_cases h : s = 0#64
  · subst h; decide
  · rw [if_neg h, Bv.least_ctz s h]
@[simp] theorem bits_Least (s : BitVec 64) : G.bits_Least s = some (Bv.least s) := by
  unfold G.bits_Least
  rw [least_eq]
  by_cases h : s = 0#64
  · simp [h]
  · simp only [h, decide_false, Bool.false_eq_true, if_false, tz, Option.bind_some]

/-! ### The reference -/
@[simp] theorem r10_In (i : Int) : G.inquestref10_In i = some (decide (0 ≤ i ∧ i ≤ 63)) := by
  unfold G.inquestref10_In
  by_cases h : 0 ≤ i <;> simp [h]
theorem r10_Power (i : Nat) (h : i ≤ 63) : G.inquestref10_Power (i : Int) = some (1#64 <<< i) := by
  unfold G.inquestref10_Power
  refine count (fun k => 1#64 <<< k) i _ (fuel_gt (by omega)) (fun k hk => ?_) ?_ (by simp)
  · simp only [G.inquestref10_Power_b1, dec_lt, hk, decide_true, if_true, Sh.next, w64_succ (show k < 9223372036854775807 by omega)]
    congr 3
    apply BitVec.eq_of_toNat_eq
    simp only [BitVec.toNat_add, BitVec.toNat_shiftLeft, Nat.shiftLeft_eq, BitVec.toNat_ofNat]
    rw [Nat.pow_succ]; omega
  · simp [G.inquestref10_Power_b1, G.inquestref10_Power_j1, Sh.exit]
theorem div_mod_bit (s : BitVec 64) (k : Nat) (hk : k < 64) : decide (s / (1#64 <<< k) % 2#64 = 1#64) = s.getLsbD k := by
  have h1 : (1#64 <<< k).toNat = 2 ^ k := by
    have : 2 ^ k < 2 ^ 64 := Nat.pow_lt_pow_right (by omega) hk
    simp [Nat.shiftLeft_eq, Nat.mod_eq_of_lt this]
  have h2 : (s / (1#64 <<< k) % 2#64).toNat = s.toNat / 2 ^ k % 2 := by
    simp only [BitVec.toNat_umod, BitVec.toNat_udiv, h1, BitVec.toNat_ofNat]
  have h3 : s.getLsbD k = decide (s.toNat / 2 ^ k % 2 = 1) := by
    simp only [BitVec.getLsbD, Nat.testBit_eq_decide_div_mod_eq]
  rw [h3]
  congr 1
  apply propext
  rw [← h2]
  constructor
  · intro h; rw [h]; rfl
  · intro h; apply BitVec.eq_of_toNat_eq; rw [h]; rfl
@[simp] theorem r10_Has (s : BitVec 64) (i : Int) : G.inquestref10_Has s i = some (Bv.has s i) := by
  unfold G.inquestref10_Has Bv.has
  simp only [r10_In, Option.bind_some]
  by_cases h : 0 ≤ i ∧ i ≤ 63
  · obtain ⟨k, rfl⟩ : ∃ k : Nat, i = k := ⟨i.toNat, by omega⟩
    have hk : k < 64 := by omega
    have hne : (1#64 <<< k) ≠ 0#64 := by
      intro h0
      have := congrArg (fun x : BitVec 64 => x.getLsbD k) h0
      simp [hk] at this
    have e1 : Sh.udiv s (1#64 <<< k) = some (s / (1#64 <<< k)) := by simp only [Sh.udiv, hne, ne_eq, not_false_eq_true, if_true]
    simp only [h, decide_true, Bool.not_true, Bool.false_eq_true, if_false, r10_Power k (by omega), Option.bind_some, e1, Sh.umod]
    have e2 : (2#64 : BitVec 64) ≠ 0#64 := by decide
    simp only [e2, ne_eq, not_false_eq_true, if_true, Option.bind_some, div_mod_bit s k hk]
    have : ((k : Int) < 64) := by omega
    simp [this]
  · rw [decide_eq_false h]
    by_cases h0 : 0 ≤ i
    · have : ¬ i < 64 := by omega
      simp [h0, this]
    · simp [h0]
theorem has_nat (s : BitVec 64) {k : Nat} (hk : k < 64) : Bv.has s (k : Int) = s.getLsbD k := by
  unfold Bv.has
  have h1 : (0 : Int) ≤ (k : Int) := by omega
  have h2 : (k : Int) < 64 := by omega
  simp [h2]
theorem add_bit (s : BitVec 64) (k : Nat) (hk : k < 64) (hb : s.getLsbD k = false) : s + 1#64 <<< k = s ||| 1#64 <<< k := by
  rw [BitVec.add_eq_or_of_and_eq_zero]
  apply Bv.ext
  intro j hj
  simp only [BitVec.getLsbD_and, BitVec.getLsbD_shiftLeft, hj, decide_true, Bool.true_and, BitVec.getLsbD_zero]
  by_cases hjk : j = k
  · subst hjk; simp [hb]
  · by_cases hlt : j < k
    · simp [hlt]
    · simp [hlt, BitVec.getLsbD_one]; omega
theorem or_bit (s : BitVec 64) (k : Nat) (hk : k < 64) (hb : s.getLsbD k = true) : s ||| 1#64 <<< k = s := by
  apply Bv.ext
  intro j hj
  simp only [BitVec.getLsbD_or, BitVec.getLsbD_shiftLeft, hj, decide_true, Bool.true_and]
  by_cases hjk : j = k
  · subst hjk; simp [hb]
  · by_cases hlt : j < k
    · simp [hlt]
    · simp [hlt, BitVec.getLsbD_one]; omega
@[simp] theorem r10_With (s : BitVec 64) (i : Int) : G.inquestref10_With s i = some (s ||| Bv.bit i) := by
  unfold G.inquestref10_With G.inquestref10_With_j1
  simp only [r10_Has, r10_In, Option.bind_some]
  by_cases h : 0 ≤ i ∧ i ≤ 63
  · obtain ⟨k, rfl⟩ : ∃ k : Nat, i = k := ⟨i.toNat, by omega⟩
    have hk : k < 64 := by omega
    have hbit : Bv.bit (k : Int) = 1#64 <<< k := by unfold Bv.bit; rw [if_pos ⟨by omega, by omega⟩]; simp
    have hh : Bv.has s (k : Int) = s.getLsbD k := has_nat s hk
    rw [hh, hbit]
    cases hb : s.getLsbD k with
    | true => simp [or_bit s k hk hb]
    | false => simp [h, r10_Power k (by omega), add_bit s k hk hb]
  · have hbit : Bv.bit i = 0#64 := by unfold Bv.bit; rw [if_neg (by omega)]
    have hh : Bv.has s i = false := by
      unfold Bv.has
      by_cases h0 : 0 ≤ i
      · have : ¬ i < 64 := by omega
        simp [this]
      · simp [h0]
    simp [hh, hbit, h]
theorem ilist_filter (s : BitVec 64) (m : Nat) : ((List.range m).filter fun i => s.getLsbD i).length ≤ m := by
  have := List.length_filter_le (fun i => s.getLsbD i) (List.range m)
  simpa using this
theorem mem_ilist {s : BitVec 64} {i : Int} : i ∈ ilist s ↔ Bv.has s i = true := by
  simp only [ilist, List.mem_map, Bv.mem_list, Bv.has, Bool.and_eq_true, decide_eq_true_eq]
  constructor
  · rintro ⟨k, hk, rfl⟩
    have : k < 64 := by
      rcases Nat.lt_or_ge k 64 with h | h
      · exact h
      · simp [BitVec.getLsbD_of_ge s k h] at hk
    exact ⟨⟨by omega, by omega⟩, by simpa using hk⟩
  · rintro ⟨⟨h1, h2⟩, h3⟩
    exact ⟨i.toNat, h3, by omega⟩
theorem sub_iff (a b : BitVec 64) : a &&& ~~~b = 0#64 ↔ ∀ i, a.getLsbD i = true → b.getLsbD i = true := by
  constructor
  · intro h i hi
    have hi64 : i < 64 := by
      rcases Nat.lt_or_ge i 64 with h | h
      · exact h
      · simp [BitVec.getLsbD_of_ge a i h] at hi
    have := congrArg (fun x : BitVec 64 => x.getLsbD i) h
    simp only [BitVec.getLsbD_and, BitVec.getLsbD_not, hi64, decide_true, Bool.true_and, BitVec.getLsbD_zero, hi] at this
    simpa using this
  · intro h
    apply Bv.ext
    intro i hi
    simp only [BitVec.getLsbD_and, BitVec.getLsbD_not, hi, decide_true, Bool.true_and, BitVec.getLsbD_zero]
    cases ha : a.getLsbD i with
    | true => simp [h i ha]
    | false => rfl
end Pl
namespace Pl
open Go Go.Av
end Pl
end

section
/- Graphs as rows of bits: the program's functions and the reference's, over the edges. -/
namespace Pl
open Go Go.Av

/-- A row of a graph of n nodes. -/
def row : Nat → (Nat → Bool) → BitVec 64
  | 0, _ => 0#64
  | n + 1, p => if p n then row n p ||| (1#64 <<< n) else row n p
theorem shift_get (k i : Nat) (hk : k < 64) : (1#64 <<< k).getLsbD i = decide (i = k) := by
  by_cases hi : i < 64
  · simp only [BitVec.getLsbD_shiftLeft, hi, decide_true, Bool.true_and]
    by_cases hik : i = k
    · subst hik; simp
    · by_cases hlt : i < k
      · simp [hlt, hik]
      · simp [hlt, hik, BitVec.getLsbD_one]; omega
  · have : ¬ i = k := by omega
    simp [BitVec.getLsbD_of_ge _ i (show 64 ≤ i by omega), this]
theorem row_get {n : Nat} (hn : n ≤ 64) (p : Nat → Bool) (i : Nat) : (row n p).getLsbD i = (decide (i < n) && p i) := by
  induction n with
  | zero => simp [row]
  | succ n ih =>
    have ih := ih (by omega)
    unfold row
    by_cases hp : p n = true
    · rw [if_pos hp, BitVec.getLsbD_or, ih, shift_get n i (by omega)]
      by_cases h : i = n
      · subst h; simp [hp]
      · by_cases h2 : i < n
        · simp [h, h2, show i < n + 1 by omega]
        · simp [h, h2, show ¬ i < n + 1 by omega]
    · rw [if_neg hp, ih]
      by_cases h : i = n
      · subst h; simp [hp]
      · by_cases h2 : i < n
        · simp [h2, show i < n + 1 by omega]
        · simp [h2, show ¬ i < n + 1 by omega]
def rows (n : Nat) (f : Nat → Nat → Bool) : List (BitVec 64) := (List.range n).map fun x => row n (f x)
@[simp] theorem rows_len (n : Nat) (f : Nat → Nat → Bool) : (rows n f).length = n := by simp [rows]
theorem rows_at {n : Nat} {f : Nat → Nat → Bool} {x : Nat} (h : x < (rows n f).length) : (rows n f)[x] = row n (f x) := by simp [rows]
theorem rows_idx {n : Nat} {f : Nat → Nat → Bool} {x : Nat} (h : x < n) : Sh.idx (rows n f) (x : Int) = some (row n (f x)) := by
  rw [idx_at (by simpa using h), rows_at]
abbrev gr (n : Nat) (f : Nat → Nat → Bool) : G.graph_Graph := ⟨(n : Int), rows n f⟩
abbrev rg (n : Nat) (f : Nat → Nat → Bool) : G.inquestref12_G := ⟨(n : Int), rows n f⟩

theorem row_ext {n : Nat} (hn : n ≤ 64) {p q : Nat → Bool} : row n p = row n q ↔ ∀ i, i < n → p i = q i := by
  constructor
  · intro h i hi
    have := congrArg (fun x : BitVec 64 => x.getLsbD i) h
    simpa [row_get hn, hi] using this
  · intro h
    apply Bv.ext
    intro i _
    rw [row_get hn, row_get hn]
    by_cases hi : i < n
    · simp [hi, h i hi]
    · simp [hi]
theorem rows_ext {n : Nat} (hn : n ≤ 64) {f h : Nat → Nat → Bool} : rows n f = rows n h ↔ ∀ x y, x < n → y < n → f x y = h x y := by
  constructor
  · intro e x y hx hy
    have h1 : (rows n f)[x]? = (rows n h)[x]? := by rw [e]
    rw [List.getElem?_eq_getElem (by simpa using hx), List.getElem?_eq_getElem (by simpa using hx), rows_at, rows_at] at h1
    exact (row_ext hn).1 (Option.some.inj h1) y hy
  · intro e
    unfold rows
    apply List.map_congr_left
    intro x hx
    exact (row_ext hn).2 (fun y hy => e x y (by simpa using hx) hy)
/-- A row that has no bit from n on. -/
theorem row_of {n : Nat} (hn : n ≤ 64) {r : BitVec 64} (h : ∀ i, n ≤ i → r.getLsbD i = false) : r = row n (fun i => r.getLsbD i) := by
  apply Bv.ext
  intro i _
  rw [row_get hn]
  by_cases hi : i < n
  · simp [hi]
  · simp [hi, h i (by omega)]

/-- May it be a graph? -/
def rightB (N : Int) (R : List (BitVec 64)) : Bool := decide (0 ≤ N ∧ N ≤ 64 ∧ (R.length : Int) = N ∧ ∀ r ∈ R, ∀ i : Nat, i < 64 → N ≤ (i : Int) → r.getLsbD i = false)
theorem right_rows {n : Nat} (hn : n ≤ 64) (f : Nat → Nat → Bool) : rightB (n : Int) (rows n f) = true := by
  refine decide_eq_true ⟨by omega, by omega, by simp, fun r hr i _ hi => ?_⟩
  simp only [rows, List.mem_map] at hr
  obtain ⟨x, _, rfl⟩ := hr
  rw [row_get hn]
  have : ¬ i < n := by omega
  simp [this]
theorem right_is {N : Int} {R : List (BitVec 64)} (h : rightB N R = true) : ∃ n f, n ≤ 64 ∧ N = (n : Nat) ∧ R = rows n f := by
  obtain ⟨h1, h2, h3, h4⟩ := of_decide_eq_true h
  obtain ⟨n, rfl⟩ : ∃ n : Nat, N = n := ⟨N.toNat, by omega⟩
  have hl : R.length = n := by omega
  refine ⟨n, fun x y => (R.getD x 0#64).getLsbD y, by omega, rfl, ?_⟩
  apply List.ext_getElem (by simp [hl])
  intro x hx hx'
  rw [rows_at]
  have hg : R.getD x 0#64 = R[x] := by simp [List.getD, hx]
  rw [hg]
  refine row_of (by omega) (fun i hi => ?_)
  by_cases h64 : i < 64
  · exact h4 _ (List.getElem_mem hx) i h64 (by omega)
  · exact BitVec.getLsbD_of_ge _ i (by omega)
theorem right_g {g : G.graph_Graph} (h : rightB g.N g.Rows = true) : ∃ n f, n ≤ 64 ∧ g = gr n f := by
  obtain ⟨n, f, h1, h2, h3⟩ := right_is h
  exact ⟨n, f, h1, by cases g; simp_all⟩

/-! ### The program's -/
theorem nodes_get (n : Nat) (hn : n ≤ 64) (i : Nat) (hi : i < 64) : ((1#64 <<< n) - 1#64).getLsbD i = decide (i < n) := by
  rcases Nat.lt_or_ge n 64 with h | h
  · have e : ((1#64 <<< n) - 1#64).toNat = 2 ^ n - 1 := by
      have h1 : 2 ^ n < 2 ^ 64 := Nat.pow_lt_pow_right (by omega) h
      have h2 : 0 < 2 ^ n := Nat.pow_pos (by omega)
      rw [BitVec.toNat_sub]
      simp only [BitVec.toNat_shiftLeft, BitVec.toNat_ofNat, Nat.shiftLeft_eq]
      omega
    simp only [BitVec.getLsbD, e, Nat.testBit_two_pow_sub_one]
  · have : n = 64 := by omega
    subst this
    have e : (1#64 <<< 64) - 1#64 = BitVec.allOnes 64 := by decide
    rw [e, BitVec.getLsbD_allOnes]
theorem join_get (l : List (BitVec 64)) (i : Nat) : (join l).getLsbD i = l.any (·.getLsbD i) := by
  have key : ∀ (l : List (BitVec 64)) (a : BitVec 64), (l.foldl (· ||| ·) a).getLsbD i = (a.getLsbD i || l.any (·.getLsbD i)) := by
    intro l
    induction l with
    | nil => intro a; simp
    | cons x l ih => intro a; simp [ih, Bool.or_assoc]
  simp [join, key]
theorem graph_Right (g : G.graph_Graph) (hl : g.Rows.length < 9223372036854775808) : G.graph_Right g = some (rightB g.N g.Rows) := by
  unfold G.graph_Right G.graph_nodes rightB
  by_cases h1 : 0 ≤ g.N
  · by_cases h2 : g.N ≤ 64
    · by_cases h3 : (g.Rows.length : Int) = g.N
      · have hs : Sh.shl 1#64 g.N = some (1#64 <<< g.N.toNat) := by simp [Sh.shl, h1]
        simp only [h1, h2, h3, decide_true, if_true, bits_Join _ hl, hs, Option.bind_some, bits_Sub, true_and, Option.some.injEq]
        congr 1
        apply propext
        rw [sub_iff]
        constructor
        · intro h r hr i hi hN
          cases hb : r.getLsbD i with
          | false => rfl
          | true =>
            have := h i (by rw [join_get, List.any_eq_true]; exact ⟨r, hr, hb⟩)
            rw [nodes_get _ (by omega) i hi] at this
            have := of_decide_eq_true this
            omega
        · intro h i hi
          have hi64 : i < 64 := by
            rcases Nat.lt_or_ge i 64 with h' | h'
            · exact h'
            · rw [BitVec.getLsbD_of_ge _ i h'] at hi; cases hi
          rw [nodes_get _ (by omega) i hi64]
          apply decide_eq_true
          rw [join_get, List.any_eq_true] at hi
          obtain ⟨r, hr, hb⟩ := hi
          rcases Nat.lt_or_ge i g.N.toNat with h' | h'
          · exact h'
          · rw [h r hr i hi64 (by omega)] at hb; cases hb
      · simp [h1, h2, h3]
    · simp [h1, h2]
  · simp [h1]
@[simp] theorem Right_gr {n : Nat} (hn : n ≤ 64) (f : Nat → Nat → Bool) : G.graph_Right (gr n f) = some true := by
  rw [graph_Right _ (by simp; omega)]
  exact congrArg some (right_rows hn f)
theorem graph_New (n : Nat) (hn : n ≤ 64) : G.graph_New (n : Int) = some (⟨(n : Int), List.replicate n 0#64⟩, 0) := by
  unfold G.graph_New G.graph_New_j1
  have h1 : ¬ (n : Int) < 0 := by omega
  have h2 : ¬ (64 : Int) < (n : Int) := by omega
  simp only [h1, h2, decide_false, Bool.false_eq_true, if_false, mk_ok (show 8 * n ≤ 140737488355328 by omega) (show n ≤ 4611686018427387904 by omega), Option.bind_some]
theorem zero_rows (n : Nat) : List.replicate n 0#64 = rows n (fun _ _ => false) := by
  unfold rows
  apply List.ext_getElem (by simp)
  intro x h1 h2
  simp only [List.getElem_replicate, List.getElem_map]
  have : ∀ m, row m (fun _ => false) = 0#64 := fun m => by
    induction m with
    | zero => rfl
    | succ m ih => simp [row, ih]
  rw [this]
theorem row_has {n : Nat} (hn : n ≤ 64) (p : Nat → Bool) {k : Nat} (hk : k < n) : Bv.has (row n p) (k : Int) = p k := by
  rw [has_nat _ (by omega), row_get hn]; simp [hk]
theorem row_has_out {n : Nat} (hn : n ≤ 64) (p : Nat → Bool) {b : Int} (hb : b < 0 ∨ (n : Int) ≤ b) : Bv.has (row n p) b = false := by
  unfold Bv.has
  rcases hb with hb | hb
  · have : ¬ 0 ≤ b := by omega
    simp [this]
  · rw [row_get hn]
    have : ¬ b.toNat < n := by omega
    simp [this]
/-- Whether a graph has an edge: of whatever numbers. -/
def hasB (n : Nat) (f : Nat → Nat → Bool) (a b : Int) : Bool := decide (0 ≤ a ∧ a < n ∧ 0 ≤ b ∧ b < n) && f a.toNat b.toNat
theorem graph_Has {n : Nat} (hn : n ≤ 64) (f : Nat → Nat → Bool) (a b : Int) : G.graph_Has (gr n f) a b = some (hasB n f a b) := by
  unfold G.graph_Has hasB
  simp only [Right_gr hn, Option.bind_some, if_true]
  by_cases h1 : 0 ≤ a
  · by_cases h2 : a < n
    · obtain ⟨k, rfl⟩ : ∃ k : Nat, a = k := ⟨a.toNat, by omega⟩
      have hk : k < n := by omega
      simp only [h1, h2, decide_true, if_true, rows_idx hk, Option.bind_some, bits_Has]
      by_cases h3 : 0 ≤ b ∧ b < n
      · obtain ⟨j, rfl⟩ : ∃ j : Nat, b = j := ⟨b.toNat, by omega⟩
        rw [row_has hn _ (by omega)]
        simp [h3]
      · rw [row_has_out hn _ (by omega)]
        have : ¬ (True ∧ True ∧ 0 ≤ b ∧ b < n) := fun h => h3 h.2.2
        rw [decide_eq_false this]; rfl
    · simp [h1, h2]
  · simp [h1]
theorem hasB_nat {n : Nat} {f : Nat → Nat → Bool} {x y : Nat} (hx : x < n) (hy : y < n) : hasB n f (x : Int) (y : Int) = f x y := by
  simp [hasB, hx, hy]
theorem row_with {n : Nat} (hn : n ≤ 64) (p : Nat → Bool) {k : Nat} (hk : k < n) : row n p ||| Bv.bit (k : Int) = row n (fun i => p i || decide (i = k)) := by
  apply Bv.ext
  intro i hi
  rw [row_get hn, BitVec.getLsbD_or, row_get hn]
  have hb : Bv.bit (k : Int) = 1#64 <<< k := by unfold Bv.bit; rw [if_pos ⟨by omega, by omega⟩]; simp
  rw [hb]
  simp only [BitVec.getLsbD_shiftLeft, hi, decide_true, Bool.true_and]
  by_cases hik : i = k
  · subst hik; simp [hk]
  · by_cases hlt : i < k
    · simp [hlt, hik]
    · simp [hlt, hik, BitVec.getLsbD_one]; omega
theorem rows_set {n : Nat} (f : Nat → Nat → Bool) {x : Nat} (_hx : x < n) (p : Nat → Bool) : (rows n f).set x (row n p) = rows n (fun a => if a = x then p else f a) := by
  apply List.ext_getElem (by simp)
  intro a h1 h2
  rw [List.getElem_set, rows_at, rows_at]
  by_cases ha : x = a
  · subst ha; simp
  · simp [ha, Ne.symm ha]
def addF (f : Nat → Nat → Bool) (a b : Nat) : Nat → Nat → Bool := fun x y => f x y || decide (x = a ∧ y = b)
theorem graph_Has_bad (g : G.graph_Graph) (hl : g.Rows.length < 9223372036854775808) (a b : Int) (h : rightB g.N g.Rows = false) : G.graph_Has g a b = some false := by
  unfold G.graph_Has
  simp [graph_Right g hl, h]
theorem graph_Turn_bad (g : G.graph_Graph) (hl : g.Rows.length < 9223372036854775808) (h : rightB g.N g.Rows = false) : G.graph_Turn g = some (⟨0, []⟩, 1) := by
  unfold G.graph_Turn
  simp [graph_Right g hl, h]
theorem graph_Edges_bad (g : G.graph_Graph) (hl : g.Rows.length < 9223372036854775808) (h : rightB g.N g.Rows = false) : G.graph_Edges g = some [] := by
  unfold G.graph_Edges
  simp [graph_Right g hl, h]

/-! ### Rows turned one by one -/
/-- The rows of which the first ones are those of another graph. -/
def mixF (f h : Nat → Nat → Bool) (k : Nat) : Nat → Nat → Bool := fun x y => if x < k then h x y else f x y
theorem mix_zero {n : Nat} (f h : Nat → Nat → Bool) : rows n (mixF f h 0) = rows n f := by
  unfold rows mixF; simp
theorem mix_all {n : Nat} (hn : n ≤ 64) (f h : Nat → Nat → Bool) : rows n (mixF f h n) = rows n h := by
  rw [rows_ext hn]; intro x y hx _; simp [mixF, hx]
theorem mix_set {n : Nat} (hn : n ≤ 64) (f h : Nat → Nat → Bool) {k : Nat} (hk : k < n) : (rows n (mixF f h k)).set k (row n (h k)) = rows n (mixF f h (k + 1)) := by
  rw [rows_set _ hk, rows_ext hn]
  intro x y _ _
  unfold mixF
  by_cases hx : x = k
  · subst hx; simp
  · by_cases hlt : x < k
    · simp [hx, hlt, show x < k + 1 by omega]
    · simp [hx, hlt, show ¬ x < k + 1 by omega]
theorem row_or {n : Nat} (hn : n ≤ 64) (p q : Nat → Bool) : row n p ||| row n q = row n (fun i => p i || q i) := by
  apply Bv.ext
  intro i _
  rw [BitVec.getLsbD_or, row_get hn, row_get hn, row_get hn]
  by_cases hi : i < n <;> simp [hi]

def orF (f h : Nat → Nat → Bool) : Nat → Nat → Bool := fun x y => f x y || h x y
theorem like_gr {n m : Nat} (hn : n ≤ 64) (hm : m ≤ 64) (f h : Nat → Nat → Bool) : G.graph_like (gr n f) (gr m h) = some (decide (n = m)) := by
  unfold G.graph_like
  simp [Right_gr hn, Right_gr hm, Int.ofNat_inj]
/-! ### A row that gathers -/
/-- The loop over a set's numbers. -/
theorem ilist_at {s : BitVec 64} {k : Nat} (h : k < (Bv.list s).length) : Sh.idx (ilist s) (k : Int) = some (((Bv.list s)[k] : Nat) : Int) := by
  have h' : k < (ilist s).length := by simpa [ilist] using h
  rw [idx_at h']; simp [ilist]
theorem list_row {n : Nat} (hn : n ≤ 64) (p : Nat → Bool) {i : Nat} : i ∈ Bv.list (row n p) ↔ i < n ∧ p i = true := by
  rw [Bv.mem_list, row_get hn]; simp
theorem list_mem_lt {n : Nat} (hn : n ≤ 64) (p : Nat → Bool) {k : Nat} (h : k < (Bv.list (row n p)).length) : (Bv.list (row n p))[k] < n := ((list_row hn p).1 (List.getElem_mem h)).1
theorem any_take {l : List Nat} {k : Nat} (h : k < l.length) (q : Nat → Bool) : (l.take (k + 1)).any q = ((l.take k).any q || q l[k]) := by
  rw [List.take_succ_eq_append_getElem h, List.any_append]; simp
def compF (n : Nat) (f h : Nat → Nat → Bool) : Nat → Nat → Bool := fun x y => (List.range n).any fun z => f x z && h z y
theorem comp_row {n : Nat} (hn : n ≤ 64) (f h : Nat → Nat → Bool) (x : Nat) : row n (fun y => (Bv.list (row n (f x))).any fun z => h z y) = row n (compF n f h x) := by
  rw [row_ext hn]
  intro y _
  unfold compF
  rw [Bool.eq_iff_iff, List.any_eq_true, List.any_eq_true]
  constructor
  · rintro ⟨z, h1, h2⟩
    obtain ⟨h3, h4⟩ := (list_row hn _).1 h1
    exact ⟨z, by simpa using h3, by simp [h4, h2]⟩
  · rintro ⟨z, h1, h2⟩
    simp only [Bool.and_eq_true] at h2
    exact ⟨z, (list_row hn _).2 ⟨by simpa using h1, h2.1⟩, h2.2⟩
theorem comp_inner {n : Nat} (hn : n ≤ 64) (h : Nat → Nat → Bool) (F : Nat → Nat → Bool) {x : Nat} (hx : x < n) (p : Nat → Bool) (hF : ∀ y, y < n → F x y = false) :
    Sh.loop (fun (q : (List (BitVec 64)) × Int) => G.graph_Compose_b2 (gr n h) (x : Int) (ilist (row n p)) q.1 q.2) (rows n F, 0) =
      some (.inl ((rows n F).set x (row n (fun y => (Bv.list (row n p)).any fun z => h z y)), ((x + 1 : Nat) : Int))) := by
  refine count (fun k => (rows n F).set x (row n (fun y => ((Bv.list (row n p)).take k).any fun z => h z y))) (Bv.list (row n p)).length _ (fuel_gt (by have := Bv.list_length_le (row n p); omega)) (fun k hk => ?_) ?_ ?_
  · have hz := list_mem_lt hn p hk
    have hl : Sh.len (ilist (row n p)) = ((Bv.list (row n p)).length : Int) := by simp [ilist, Sh.len]
    have hs : ∀ r : BitVec 64, Sh.idx ((rows n F).set x r) (x : Int) = some r := fun r => by
      rw [idx_at (by simpa using hx)]; simp
    simp only [G.graph_Compose_b2, hl, dec_lt, hk, decide_true, if_true, ilist_at hk, Option.bind_some, hs, rows_idx hz, join_two, row_or hn, set_at, List.set_set, Sh.next, w64_succ (show k < 9223372036854775807 by have := Bv.list_length_le (row n p); omega)]
    congr 5
    funext y
    rw [any_take hk]
  · have hl : Sh.len (ilist (row n p)) = ((Bv.list (row n p)).length : Int) := by simp [ilist, Sh.len]
    simp only [G.graph_Compose_b2, hl, Int.lt_irrefl, decide_false, Bool.false_eq_true, if_false, G.graph_Compose_j2, next_some, exit_some, List.take_length, w64_succ (show x < 9223372036854775807 by omega)]
  · rw [rows_set _ hx, rows_ext hn]
    intro a y _ hy
    by_cases ha : a = x
    · subst ha; simp [hF y hy]
    · simp [ha]
theorem graph_Compose {n : Nat} (hn : n ≤ 64) (f h : Nat → Nat → Bool) : G.graph_Compose (gr n f) (gr n h) = some (gr n (compF n f h), 0) := by
  unfold G.graph_Compose
  simp only [like_gr hn hn, decide_true, Option.bind_some, Bool.not_true, Bool.false_eq_true, if_false, graph_New n hn]
  refine count (fun k => rows n (mixF (fun _ _ => false) (compF n f h) k)) n _ (fuel_gt (by omega)) (fun k hk => ?_) ?_ (by rw [mix_zero, zero_rows])
  · simp only [G.graph_Compose_b1, len_eq, List.length_replicate, dec_lt, hk, decide_true, if_true, rows_idx hk, Option.bind_some, bits_List]
    rw [comp_inner hn h (mixF (fun _ _ => false) (compF n f h) k) hk (f k) (fun y _ => by simp [mixF]), comp_row hn, mix_set hn _ _ hk]
  · simp only [G.graph_Compose_b1, len_eq, List.length_replicate, Int.lt_irrefl, decide_false, Bool.false_eq_true, if_false, G.graph_Compose_j1, exit_some, mix_all hn]
theorem graph_Compose_no {n m : Nat} (hn : n ≤ 64) (hm : m ≤ 64) (f h : Nat → Nat → Bool) (hne : n ≠ m) : G.graph_Compose (gr n f) (gr m h) = some (⟨0, []⟩, 1) := by
  unfold G.graph_Compose
  simp [like_gr hn hm, hne]

/-! ### All edges -/
def edgesOf (n : Nat) (f : Nat → Nat → Bool) : List G.graph_Edge := (List.range n).flatMap fun x => (ilist (row n (f x))).map fun y => ⟨(x : Int), y⟩
theorem edges_take (n : Nat) (f : Nat → Nat → Bool) (k : Nat) (_h : k < n) : ((List.range (k + 1)).flatMap fun x => (ilist (row n (f x))).map fun y => (⟨(x : Int), y⟩ : G.graph_Edge)) = ((List.range k).flatMap fun x => (ilist (row n (f x))).map fun y => (⟨(x : Int), y⟩ : G.graph_Edge)) ++ (ilist (row n (f k))).map fun y => ⟨(k : Int), y⟩ := by
  rw [List.range_succ, List.flatMap_append]; simp
theorem edges_len (n : Nat) (f : Nat → Nat → Bool) (k : Nat) : ((List.range k).flatMap fun x => (ilist (row n (f x))).map fun y => (⟨(x : Int), y⟩ : G.graph_Edge)).length ≤ 64 * k := by
  induction k with
  | zero => simp
  | succ k ih =>
    rw [List.range_succ, List.flatMap_append, List.length_append]
    have := ilist_len (row n (f k))
    simp only [List.flatMap_cons, List.flatMap_nil, List.append_nil, List.length_map]
    omega
theorem edges_inner (x : Nat) (hx : x < 64) (s : BitVec 64) (acc : List G.graph_Edge) (hacc : acc.length ≤ 4096) :
    Sh.loop (fun (p : (List G.graph_Edge) × Int) => G.graph_Edges_b2 (x : Int) (ilist s) p.1 p.2) (acc, 0) = some (.inl (acc ++ (ilist s).map (fun y => ⟨(x : Int), y⟩), ((x + 1 : Nat) : Int))) := by
  have hl := ilist_len s
  refine count (fun k => acc ++ ((ilist s).take k).map (fun y => ⟨(x : Int), y⟩)) (ilist s).length _ (fuel_gt (by omega)) (fun k hk => ?_) ?_ (by simp)
  · simp only [G.graph_Edges_b2, len_eq, dec_lt, hk, decide_true, if_true, idx_at hk, Option.bind_some]
    rw [app_ok (by simp; omega)]
    simp only [Option.bind_some, Sh.next, w64_succ (show k < 9223372036854775807 by omega)]
    rw [List.take_succ_eq_append_getElem hk, List.map_append, List.append_assoc]
    rfl
  · simp only [G.graph_Edges_b2, len_eq, Int.lt_irrefl, decide_false, Bool.false_eq_true, if_false, G.graph_Edges_j2, next_some, exit_some, List.take_length, w64_succ (show x < 9223372036854775807 by omega)]
theorem graph_Edges {n : Nat} (hn : n ≤ 64) (f : Nat → Nat → Bool) : G.graph_Edges (gr n f) = some (edgesOf n f) := by
  unfold G.graph_Edges
  simp only [Right_gr hn, Option.bind_some, Bool.not_true, Bool.false_eq_true, if_false]
  refine count (fun k => (List.range k).flatMap fun x => (ilist (row n (f x))).map fun y => ⟨(x : Int), y⟩) n _ (fuel_gt (by omega)) (fun k hk => ?_) ?_ (by simp)
  · have hl := edges_len n f k
    simp only [G.graph_Edges_b1, len_eq, rows_len, dec_lt, hk, decide_true, if_true, rows_idx hk, Option.bind_some, bits_List]
    rw [edges_inner k (by omega) _ _ (by omega), edges_take n f k hk]
  · simp only [G.graph_Edges_b1, len_eq, rows_len, Int.lt_irrefl, decide_false, Bool.false_eq_true, if_false, G.graph_Edges_j1, exit_some]
    rfl
theorem mem_edges {n : Nat} (hn : n ≤ 64) (f : Nat → Nat → Bool) {e : G.graph_Edge} : e ∈ edgesOf n f ↔ ∃ x y : Nat, x < n ∧ y < n ∧ f x y = true ∧ e = ⟨(x : Int), (y : Int)⟩ := by
  simp only [edgesOf, List.mem_flatMap, List.mem_range, List.mem_map, ilist, list_row hn]
  constructor
  · rintro ⟨x, hx, _, ⟨y, ⟨hy, hf⟩, rfl⟩, rfl⟩
    exact ⟨x, y, hx, hy, hf, rfl⟩
  · rintro ⟨x, y, hx, hy, hf, rfl⟩
    exact ⟨x, hx, _, ⟨y, ⟨hy, hf⟩, rfl⟩, rfl⟩
theorem edges_le {n : Nat} (hn : n ≤ 64) (f : Nat → Nat → Bool) : (edgesOf n f).length ≤ 4096 := by
  have := edges_len n f n
  unfold edgesOf; omega

def turnF (f : Nat → Nat → Bool) : Nat → Nat → Bool := fun x y => f y x
/-- The edges of a list, turned. -/
def fromE (l : List G.graph_Edge) : Nat → Nat → Bool := fun x y => l.any fun e => decide (e.B = (x : Int)) && decide (e.A = (y : Int))
theorem from_set {n : Nat} (hn : n ≤ 64) (l : List G.graph_Edge) {x y : Nat} (hx : x < n) (hy : y < n) :
    (rows n (fromE l)).set x (row n (fromE l x) ||| Bv.bit (y : Int)) = rows n (fromE (l ++ [⟨(y : Int), (x : Int)⟩])) := by
  rw [row_with hn _ hy, rows_set _ hx, rows_ext hn]
  intro a b _ _
  unfold fromE
  rw [List.any_append]
  by_cases ha : a = x
  · subst ha
    by_cases hb : b = y
    · subst hb; simp
    · have : ¬ y = b := fun h => hb h.symm
      simp [hb, Int.ofNat_inj, this]
  · have : ¬ x = a := fun h => ha h.symm
    simp [ha, Int.ofNat_inj, this]
theorem graph_Turn {n : Nat} (hn : n ≤ 64) (f : Nat → Nat → Bool) : G.graph_Turn (gr n f) = some (gr n (turnF f), 0) := by
  unfold G.graph_Turn
  simp only [Right_gr hn, Option.bind_some, Bool.not_true, Bool.false_eq_true, if_false, graph_New n hn, graph_Edges hn]
  have hl := edges_le hn f
  refine count (fun k => rows n (fromE ((edgesOf n f).take k))) (edgesOf n f).length _ (fuel_gt (by omega)) (fun k hk => ?_) ?_ ?_
  · obtain ⟨x, y, hx, hy, _, he⟩ := (mem_edges hn f).1 (List.getElem_mem hk)
    simp only [G.graph_Turn_b1, len_eq, dec_lt, hk, decide_true, if_true, idx_at hk, Option.bind_some, he, rows_idx hy, bits_With, set_at, from_set hn _ hy hx, Sh.next, w64_succ (show k < 9223372036854775807 by omega)]
    rw [List.take_succ_eq_append_getElem hk, he]
  · simp only [G.graph_Turn_b1, len_eq, Int.lt_irrefl, decide_false, Bool.false_eq_true, if_false, G.graph_Turn_j1, exit_some, List.take_length]
    have : rows n (fromE (edgesOf n f)) = rows n (turnF f) := by
      rw [rows_ext hn]
      intro x y hx hy
      unfold fromE turnF
      rw [Bool.eq_iff_iff, List.any_eq_true]
      constructor
      · rintro ⟨e, h1, h2⟩
        obtain ⟨a, b, _, _, h5, rfl⟩ := (mem_edges hn f).1 h1
        simp only [Bool.and_eq_true, decide_eq_true_eq, Int.ofNat_inj] at h2
        obtain ⟨rfl, rfl⟩ := h2
        exact h5
      · intro h
        exact ⟨⟨(y : Int), (x : Int)⟩, (mem_edges hn f).2 ⟨y, x, hy, hx, h, rfl⟩, by simp⟩
    rw [this]
  · rw [zero_rows]; rfl
end Pl
end

section
/- The reference's graphs. -/
namespace Pl
open Go Go.Av

theorem r12_Has {n : Nat} (hn : n ≤ 64) (f : Nat → Nat → Bool) {a : Nat} (ha : a < n) {b : Nat} (hb : b < n) : G.inquestref12_Has (rg n f) (a : Int) (b : Int) = some (f a b) := by
  unfold G.inquestref12_Has
  simp only [rows_idx ha, Option.bind_some, r10_Has, row_has hn _ hb]
@[simp] theorem r12_Node (g : G.inquestref12_G) (a : Int) : G.inquestref12_Node g a = some (decide (0 ≤ a ∧ a < g.N)) := by
  unfold G.inquestref12_Node
  by_cases h : 0 ≤ a <;> simp [h]
theorem r12_New (n : Nat) (hn : n ≤ 64) : G.inquestref12_New (n : Int) = some ⟨(n : Int), List.replicate n 0#64⟩ := by
  unfold G.inquestref12_New
  refine count (fun k => List.replicate k 0#64) n _ (fuel_gt (by omega)) (fun k hk => ?_) ?_ rfl
  · simp only [G.inquestref12_New_b1, dec_lt, hk, decide_true, if_true]
    rw [app_ok (by simp; omega)]
    simp only [Option.bind_some, Sh.next, w64_succ (show k < 9223372036854775807 by omega)]
    rw [List.replicate_succ']
  · simp only [G.inquestref12_New_b1, Int.lt_irrefl, decide_false, Bool.false_eq_true, if_false, G.inquestref12_New_j1, exit_some]
theorem r12_Right (g : G.inquestref12_G) (hl : g.Rows.length < 9223372036854775808) : G.inquestref12_Right g = some (rightB g.N g.Rows) := by
  unfold G.inquestref12_Right G.inquestref12_Right_j1 rightB
  obtain ⟨N, R⟩ := g
  by_cases h1 : 0 ≤ N
  · by_cases h2 : N ≤ 64
    · by_cases h3 : (R.length : Int) = N
      · subst h3
        have g1 : ¬ ((R.length : Int) < 0) := by omega
        have g2 : ¬ ((64 : Int) < R.length) := by omega
        have hR : R.length ≤ 64 := by omega
        simp only [g1, g2, h1, h2, decide_false, Bool.false_eq_true, if_false, len_eq, ne_eq, not_true_eq_false, true_and]
        have key := scan_true (b := fun (p : Int) => G.inquestref12_Right_b1 ⟨(R.length : Int), R⟩ p) R.length (fun k => decide (∀ j : Nat, j < 64 → R.length ≤ j → (R.getD k 0#64).getLsbD j = false)) hl (fun k hk => ?_) ?_
        · rw [key]
          congr 2
          apply propext
          simp only [decide_eq_true_eq]
          constructor
          · intro h r hr i hi hN
            obtain ⟨k, hk, rfl⟩ := List.getElem_of_mem hr
            have := h k hk i hi (by omega)
            simpa [List.getD, hk] using this
          · intro h k hk j hj hjk
            have := h R[k] (List.getElem_mem hk) j hj (by omega)
            simpa [List.getD, hk] using this
        · have hg : R.getD k 0#64 = R[k] := by simp [List.getD, hk]
          simp only [G.inquestref12_Right_b1, dec_lt, hk, decide_true, if_true, hg]
          have := scan (b := fun (p : Int) => G.inquestref12_Right_b2 ⟨(R.length : Int), R⟩ (k : Int) p) R.length 64 (fun j => !R[k].getLsbD j) (some (.inl ((k + 1 : Nat) : Int)) |>.getD (.inr true)) (.inr false) hR (fuel_gt (by omega)) (fun j hj hj2 => ?_) ?_
          · rw [this]
            by_cases hq : ∀ j, j < 64 → R.length ≤ j → R[k].getLsbD j = false
            · have hq' : ∀ j, j < 64 → R.length ≤ j → (!R[k].getLsbD j) = true := fun j a b => by simp [hq j a b]
              rw [if_pos hq', decide_eq_true hq]; rfl
            · have hq' : ¬ ∀ j, j < 64 → R.length ≤ j → (!R[k].getLsbD j) = true := fun h => hq (fun j a b => by simpa using h j a b)
              rw [if_neg hq', decide_eq_false hq]; rfl
          · have hj' : (j : Int) < 64 := by omega
            simp only [G.inquestref12_Right_b2, hj', decide_true, if_true, idx_at hk, Option.bind_some, r10_Has, has_nat _ hj2, Sh.next, exit_some, w64_succ (show j < 9223372036854775807 by omega)]
            cases R[k].getLsbD j <;> rfl
          · simp [G.inquestref12_Right_b2, G.inquestref12_Right_j3, Sh.exit, Sh.next, w64_succ (show k < 9223372036854775807 by omega)]
        · simp [G.inquestref12_Right_b1, G.inquestref12_Right_j2, Sh.exit]
      · have g1 : ¬ N < 0 := by omega
        have g2 : ¬ (64 : Int) < N := by omega
        simp [g1, g2, h3]
    · have g1 : ¬ N < 0 := by omega
      have g2 : (64 : Int) < N := by omega
      simp [g1, g2, h2]
  · have g1 : N < 0 := by omega
    simp [g1, h1]

/-! ### Loops over the nodes that lay edges -/
/-- The edges of the nodes ahead of x, and, of x, to those ahead of y. -/
def layF (h : Nat → Nat → Bool) (x y : Nat) : Nat → Nat → Bool := fun a b => if a < x then h a b else if a = x then decide (b < y) && h a b else false
theorem lay_zero {n : Nat} (hn : n ≤ 64) (h : Nat → Nat → Bool) : rows n (layF h 0 0) = List.replicate n 0#64 := by
  rw [zero_rows, rows_ext hn]
  intro a b _ _
  unfold layF
  by_cases ha : a = 0 <;> simp [ha]
theorem lay_next {n : Nat} (hn : n ≤ 64) (h : Nat → Nat → Bool) (x : Nat) : rows n (layF h x n) = rows n (layF h (x + 1) 0) := by
  rw [rows_ext hn]
  intro a b _ hb
  unfold layF
  by_cases h1 : a < x
  · simp [h1, show a < x + 1 by omega]
  · by_cases h2 : a = x
    · subst h2; simp [hb]
    · simp [h1, h2, show ¬ a < x + 1 by omega]
theorem lay_all {n : Nat} (hn : n ≤ 64) (h : Nat → Nat → Bool) : rows n (layF h n 0) = rows n h := by
  rw [rows_ext hn]
  intro a b ha _
  simp [layF, ha]
theorem lay_no {n : Nat} (hn : n ≤ 64) (h : Nat → Nat → Bool) {x y : Nat} (he : h x y = false) : rows n (layF h x y) = rows n (layF h x (y + 1)) := by
  rw [rows_ext hn]
  intro a b _ _
  unfold layF
  by_cases h1 : a < x
  · simp [h1]
  · by_cases h2 : a = x
    · subst h2
      by_cases h3 : b < y
      · simp [h3, show b < y + 1 by omega]
      · by_cases h4 : b = y
        · subst h4; simp [he]
        · simp [h3, show ¬ b < y + 1 by omega]
    · simp [h1, h2]
theorem lay_row {n : Nat} (h : Nat → Nat → Bool) {x y : Nat} (hx : x < n) : Sh.idx (rows n (layF h x y)) (x : Int) = some (row n (layF h x y x)) := rows_idx hx
theorem lay_yes {n : Nat} (hn : n ≤ 64) (h : Nat → Nat → Bool) {x y : Nat} (hx : x < n) (hy : y < n) (he : h x y = true) :
    Sh.set (rows n (layF h x y)) (x : Int) (row n (layF h x y x) ||| Bv.bit (y : Int)) = rows n (layF h x (y + 1)) := by
  rw [set_at, row_with hn _ hy, rows_set _ hx, rows_ext hn]
  intro a b _ _
  by_cases ha : a = x
  · subst ha
    unfold layF
    by_cases h3 : b < y
    · have : ¬ b = y := by omega
      simp [h3, show b < y + 1 by omega, this]
    · by_cases h4 : b = y
      · subst h4; simp [he]
      · simp [h3, h4, show ¬ b < y + 1 by omega]
  · simp only [ha, if_false]
    unfold layF
    by_cases h1 : a < x <;> simp [h1, ha]
end Pl
namespace Pl
open Go Go.Av
/-- The rows ahead of x, and what x has gathered. -/
def gatF (c : Nat → Nat → Bool) (x : Nat) (p : Nat → Bool) : Nat → Nat → Bool := fun a b => if a < x then c a b else if a = x then p b else false
theorem gat_zero {n : Nat} (hn : n ≤ 64) (c : Nat → Nat → Bool) : rows n (gatF c 0 fun _ => false) = List.replicate n 0#64 := by
  rw [zero_rows, rows_ext hn]
  intro a b _ _
  simp [gatF]
theorem gat_next {n : Nat} (hn : n ≤ 64) (c : Nat → Nat → Bool) (x : Nat) : rows n (gatF c x (c x)) = rows n (gatF c (x + 1) fun _ => false) := by
  rw [rows_ext hn]
  intro a b _ _
  unfold gatF
  by_cases h1 : a < x
  · simp [h1, show a < x + 1 by omega]
  · by_cases h2 : a = x
    · subst h2; simp
    · simp [h1, h2, show ¬ a < x + 1 by omega]
theorem gat_all {n : Nat} (hn : n ≤ 64) (c : Nat → Nat → Bool) : rows n (gatF c n fun _ => false) = rows n c := by
  rw [rows_ext hn]
  intro a b ha _
  simp [gatF, ha]
theorem gat_ext {n : Nat} (hn : n ≤ 64) (c : Nat → Nat → Bool) (x : Nat) {p q : Nat → Bool} (h : ∀ b, b < n → p b = q b) : rows n (gatF c x p) = rows n (gatF c x q) := by
  rw [rows_ext hn]
  intro a b _ hb
  simp [gatF, h b hb]
theorem gat_with {n : Nat} (hn : n ≤ 64) (c : Nat → Nat → Bool) {x y : Nat} (hx : x < n) (hy : y < n) (p : Nat → Bool) :
    Sh.set (rows n (gatF c x p)) (x : Int) (row n (gatF c x p x) ||| Bv.bit (y : Int)) = rows n (gatF c x fun b => p b || decide (b = y)) := by
  rw [set_at, row_with hn _ hy, rows_set _ hx, rows_ext hn]
  intro a b _ _
  by_cases ha : a = x
  · subst ha; simp [gatF]
  · simp [ha, gatF]
end Pl
end

section
/- Cycles: which lists are, and what is told of them. -/
namespace Pl
open Go Go.Av

theorem bit_get (k i : Nat) (hk : k < 64) : (Bv.bit (k : Int)).getLsbD i = decide (i = k) := by
  have hb : Bv.bit (k : Int) = 1#64 <<< k := by unfold Bv.bit; rw [if_pos ⟨by omega, by omega⟩]; simp
  rw [hb, shift_get k i hk]
theorem short {l : List (BitVec 64)} (h : ¬ (70 : Int) < Sh.len l) : l.length ≤ 70 := by simp only [len_eq] at h; omega
theorem Ints_eq (a b : List Int) (hl : a.length < 9223372036854775808) : G.inquestref07_Ints a b = some (decide (a = b)) := by
  unfold G.inquestref07_Ints
  by_cases h : a.length = b.length
  · have h' : (a.length : Int) = (b.length : Int) := by omega
    simp only [len_eq, ne_eq, h', not_true_eq_false, decide_false, Bool.false_eq_true, if_false]
    have key := scan_true (b := fun (p : Int) => G.inquestref07_Ints_b1 a b p) a.length (fun k => decide (a[k]? = b[k]?)) hl (fun k hk => ?_) ?_
    · rw [key]
      congr 2
      apply propext
      simp only [decide_eq_true_eq]
      constructor
      · intro e
        apply List.ext_getElem? (fun i => ?_)
        rcases Nat.lt_or_ge i a.length with hi | hi
        · exact e i hi
        · rw [List.getElem?_eq_none hi, List.getElem?_eq_none (by omega)]
      · rintro rfl k _; rfl
    · have hk2 : k < b.length := by omega
      simp only [G.inquestref07_Ints_b1, len_eq, dec_lt, hk, decide_true, if_true, idx_at hk, idx_at hk2, Option.bind_some, List.getElem?_eq_getElem hk, List.getElem?_eq_getElem hk2, Option.some.injEq, w64_succ (show k < 9223372036854775807 by omega), Sh.next, exit_some]
      by_cases he : a[k] = b[k] <;> simp [he]
    · simp [G.inquestref07_Ints_b1, G.inquestref07_Ints_j1, Sh.exit]
  · have h' : ¬ (a.length : Int) = (b.length : Int) := by omega
    have h3 : ¬ a = b := fun e => h (by rw [e])
    simp [h', h3]

def setOf (l : List Int) : BitVec 64 := l.foldl (fun s i => s ||| Bv.bit i) 0#64
theorem setOf_snoc (l : List Int) (i : Int) : setOf (l ++ [i]) = setOf l ||| Bv.bit i := by simp [setOf]
theorem setOf_get {n : Nat} (hn : n ≤ 64) : ∀ (l : List Int), (∀ a ∈ l, 0 ≤ a ∧ a < n) → ∀ i : Nat, (setOf l).getLsbD i = decide ((i : Int) ∈ l) := by
  have key : ∀ (l : List Int) (s : BitVec 64), (∀ a ∈ l, 0 ≤ a ∧ a < n) → ∀ i : Nat, (l.foldl (fun s i => s ||| Bv.bit i) s).getLsbD i = (s.getLsbD i || decide ((i : Int) ∈ l)) := by
    intro l
    induction l with
    | nil => intro s _ i; simp
    | cons a l ih =>
      intro s h i
      have ha := h a (by simp)
      obtain ⟨k, rfl⟩ : ∃ k : Nat, a = k := ⟨a.toNat, by omega⟩
      simp only [List.foldl_cons]
      rw [ih _ (fun b hb => h b (List.mem_cons_of_mem _ hb)), BitVec.getLsbD_or, bit_get k i (by omega)]
      by_cases hi : i = k
      · subst hi; simp
      · have : ¬ (i : Int) = (k : Int) := by omega
        simp [hi, this]
  intro l h i
  have := key l 0#64 h i
  simpa [setOf] using this
theorem set_has {n : Nat} (hn : n ≤ 64) {l : List Int} (h : ∀ a ∈ l, 0 ≤ a ∧ a < n) (a : Int) (ha : 0 ≤ a ∧ a < n) : Bv.has (setOf l) a = decide (a ∈ l) := by
  obtain ⟨k, rfl⟩ : ∃ k : Nat, a = k := ⟨a.toNat, by omega⟩
  rw [has_nat _ (by omega), setOf_get hn l h]

theorem len_of_cover {n : Nat} : ∀ {l : List Int}, (∀ a ∈ l, 0 ≤ a ∧ a < n) → l.Nodup → l.length ≤ n := by
  induction n with
  | zero =>
    intro l h _
    cases l with
    | nil => simp
    | cons a l => have := h a (by simp); omega
  | succ n ih =>
    intro l h hd
    by_cases hm : (n : Int) ∈ l
    · have h1 := ih (l := l.erase (n : Int)) (fun a ha => by
        have ha' := (List.Nodup.mem_erase_iff hd).1 ha
        have := h a ha'.2
        have hne : a ≠ (n : Int) := ha'.1
        omega) (hd.erase _)
      rw [List.length_erase_of_mem hm] at h1
      omega
    · have := ih (l := l) (fun a ha => by
        have := h a ha
        have hne : a ≠ (n : Int) := fun e => hm (e ▸ ha)
        omega) hd
      omega
theorem cover {n : Nat} {l : List Int} (h : ∀ a ∈ l, 0 ≤ a ∧ a < n) (hd : l.Nodup) (hl : l.length = n) {k : Nat} (hk : k < n) : (k : Int) ∈ l := by
  apply Classical.byContradiction
  intro hno
  have := len_of_cover (n := n) (l := (k : Int) :: l) (fun a ha => by
    rcases List.mem_cons.1 ha with rfl | ha
    · omega
    · exact h a ha) (List.nodup_cons.2 ⟨hno, hd⟩)
  simp at this
  omega


theorem scanG {σ α : Type} {b : σ → Option (σ ⊕ α)} (S : Nat → σ) (m : Nat) (p : Nat → Bool) (A B : Option α) (hm : m < Sh.FUEL) (h : ∀ k, k < m → (∀ j, j < k → p j = true) → b (S k) = if p k then some (.inl (S (k + 1))) else Sh.exit B) (hr : (∀ j, j < m → p j = true) → b (S m) = Sh.exit A) {s : σ} (hs : s = S 0) :
    Sh.loop b s = if ∀ k, k < m → p k = true then A else B := by
  subst hs
  by_cases hall : ∀ k, k < m → p k = true
  · rw [if_pos hall]
    refine run_exit S m A hm (fun k hk => ?_) (hr hall) rfl
    rw [h k hk (fun j hj => hall j (by omega)), if_pos (hall k hk)]
  · rw [if_neg hall]
    have hex : ∃ k, k < m ∧ p k = false := by
      apply Classical.byContradiction
      intro hn
      exact hall (fun k h1 => by
        cases hp : p k with
        | true => rfl
        | false => exact absurd ⟨k, h1, hp⟩ hn)
    obtain ⟨k, hk, hmin⟩ := exists_least _ hex
    have before : ∀ j, j < k → p j = true := fun j hj => by
      cases hp : p j with
      | true => rfl
      | false => have := hmin j ⟨by omega, hp⟩; omega
    refine run_exit S k B (by omega) (fun q hq => ?_) ?_ rfl
    · rw [h q (by omega) (fun j hj => before j (by omega)), if_pos (before q hq)]
    · rw [h k hk.1 before, if_neg (by rw [hk.2]; simp)]

/-- A cycle. -/
structure Cyc (n : Nat) (f : Nat → Nat → Bool) (l : List Int) : Prop where
  some : 0 < l.length
  nodes : ∀ a ∈ l, 0 ≤ a ∧ a < n
  nodup : l.Nodup
  edge : ∀ (i : Nat) (h : i < l.length), f l[i].toNat (l[(i + 1) % l.length]'(Nat.mod_lt _ (by omega))).toNat = true
noncomputable def cyB (n : Nat) (f : Nat → Nat → Bool) (l : List Int) : Bool := @decide (Cyc n f l) (Classical.propDecidable _)
theorem cy_iff {n : Nat} {f : Nat → Nat → Bool} {l : List Int} : cyB n f l = true ↔ Cyc n f l := by
  unfold cyB; exact @decide_eq_true_iff _ (Classical.propDecidable _)
theorem hasB_iff {n : Nat} {f : Nat → Nat → Bool} {a b : Int} : hasB n f a b = true ↔ (0 ≤ a ∧ a < n ∧ 0 ≤ b ∧ b < n) ∧ f a.toNat b.toNat = true := by
  unfold hasB; simp only [Bool.and_eq_true, decide_eq_true_eq]

/-- The node ahead of one. -/
def prevOf (l : List Int) (k : Nat) : Int := (l[(k + l.length - 1) % l.length]?).getD 0
def cycAt (n : Nat) (f : Nat → Nat → Bool) (l : List Int) (k : Nat) : Bool := match l[k]? with
  | some a => hasB n f (prevOf l k) a && !decide (a ∈ l.take k)
  | none => false
theorem prev_zero {l : List Int} (h : 0 < l.length) : prevOf l 0 = l[l.length - 1] := by
  unfold prevOf
  have e : (0 + l.length - 1) % l.length = l.length - 1 := by rw [Nat.zero_add]; exact Nat.mod_eq_of_lt (by omega)
  rw [e, List.getElem?_eq_getElem (by omega)]; rfl
theorem prev_succ {l : List Int} {k : Nat} (h : k < l.length) : prevOf l (k + 1) = l[k] := by
  unfold prevOf
  have e : (k + 1 + l.length - 1) % l.length = k := by
    rw [show k + 1 + l.length - 1 = k + l.length by omega, Nat.add_mod_right]; exact Nat.mod_eq_of_lt h
  rw [e, List.getElem?_eq_getElem h]; rfl
theorem mem_take {l : List Int} {k : Nat} (hk : k ≤ l.length) {a : Int} : a ∈ l.take k ↔ ∃ (j : Nat) (hj : j < k), l[j] = a := by
  constructor
  · intro h
    obtain ⟨j, hj, rfl⟩ := List.getElem_of_mem h
    have hj' : j < k := by rw [List.length_take] at hj; omega
    exact ⟨j, hj', by rw [List.getElem_take]⟩
  · rintro ⟨j, hj, rfl⟩
    rw [← List.getElem_take (j := k) (h := by rw [List.length_take]; omega)]
    exact List.getElem_mem _
theorem cycAt_iff {n : Nat} {f : Nat → Nat → Bool} {l : List Int} {k : Nat} (hk : k < l.length) : cycAt n f l k = true ↔ hasB n f (prevOf l k) l[k] = true ∧ ∀ (j : Nat) (hj : j < k), l[j] ≠ l[k] := by
  unfold cycAt
  rw [List.getElem?_eq_getElem hk]
  simp only [Bool.and_eq_true, Bool.not_eq_true', decide_eq_false_iff_not]
  rw [mem_take (by omega)]
  constructor
  · rintro ⟨h1, h2⟩; exact ⟨h1, fun j hj e => h2 ⟨j, hj, e⟩⟩
  · rintro ⟨h1, h2⟩; exact ⟨h1, fun ⟨j, hj, e⟩ => h2 j hj e⟩
theorem cyc_all {n : Nat} {f : Nat → Nat → Bool} {l : List Int} (h0 : 0 < l.length) : (∀ k, k < l.length → cycAt n f l k = true) ↔ Cyc n f l := by
  constructor
  · intro h
    have h' : ∀ k (hk : k < l.length), _ := fun k hk => (cycAt_iff hk).1 (h k hk)
    refine ⟨h0, fun a ha => ?_, List.pairwise_iff_getElem.2 fun i j hi hj hij => (h' j hj).2 i hij, fun i hi => ?_⟩
    · obtain ⟨k, hk, rfl⟩ := List.getElem_of_mem ha
      have := (hasB_iff.1 (h' k hk).1).1
      exact ⟨this.2.2.1, this.2.2.2⟩
    · by_cases hl : i + 1 = l.length
      · have e : (i + 1) % l.length = 0 := by rw [hl, Nat.mod_self]
        have := (h' 0 h0).1
        rw [prev_zero h0] at this
        have e2 : l[l.length - 1] = l[i] := by congr 1; omega
        rw [e2] at this
        simp only [e]
        exact (hasB_iff.1 this).2
      · have e : (i + 1) % l.length = i + 1 := Nat.mod_eq_of_lt (by omega)
        have := (h' (i + 1) (by omega)).1
        rw [prev_succ hi] at this
        simp only [e]
        exact (hasB_iff.1 this).2
  · intro c k hk
    rw [cycAt_iff hk]
    refine ⟨hasB_iff.2 ?_, fun j hj => List.pairwise_iff_getElem.1 c.nodup j k (by omega) hk hj⟩
    have hn := c.nodes _ (List.getElem_mem hk)
    cases k with
    | zero =>
      have := c.edge (l.length - 1) (by omega)
      have e : (l.length - 1 + 1) % l.length = 0 := by rw [show l.length - 1 + 1 = l.length by omega, Nat.mod_self]
      simp only [e] at this
      rw [prev_zero h0]
      have hm := c.nodes _ (List.getElem_mem (show l.length - 1 < l.length by omega))
      exact ⟨⟨hm.1, hm.2, hn.1, hn.2⟩, this⟩
    | succ k =>
      have := c.edge k (by omega)
      have e : (k + 1) % l.length = k + 1 := Nat.mod_eq_of_lt hk
      simp only [e] at this
      rw [prev_succ (by omega)]
      have hm := c.nodes _ (List.getElem_mem (show k < l.length by omega))
      exact ⟨⟨hm.1, hm.2, hn.1, hn.2⟩, this⟩
theorem cyc_le {n : Nat} {f : Nat → Nat → Bool} {l : List Int} (c : Cyc n f l) : l.length ≤ n := len_of_cover c.nodes c.nodup
theorem cy_false {n : Nat} {f : Nat → Nat → Bool} {l : List Int} (h : ¬ Cyc n f l) : cyB n f l = false := by
  cases e : cyB n f l with
  | false => rfl
  | true => exact absurd (cy_iff.1 e) h
theorem if_cy {n : Nat} {f : Nat → Nat → Bool} {l : List Int} (h0 : 0 < l.length) : (if ∀ k, k < l.length → cycAt n f l k = true then some true else some false) = some (cyB n f l) := by
  by_cases h : ∀ k, k < l.length → cycAt n f l k = true
  · rw [if_pos h, cy_iff.2 ((cyc_all h0).1 h)]
  · rw [if_neg h, cy_false (fun c => h ((cyc_all h0).2 c))]

theorem cycle_Is {n : Nat} (hn : n ≤ 64) (f : Nat → Nat → Bool) (l : List Int) (hl : l.length < 9223372036854775808) : G.cycle_Is (gr n f) l = some (cyB n f l) := by
  unfold G.cycle_Is
  by_cases h0 : l.length = 0
  · have : (l.length : Int) = 0 := by omega
    simp only [len_eq, this, decide_true, if_true, G.cycle_Is_j1]
    rw [cy_false (fun c => by have := c.some; omega)]
  · have h0' : ¬ (l.length : Int) = 0 := by omega
    simp only [len_eq, h0', decide_false, Bool.false_eq_true, if_false]
    by_cases hle : (n : Int) < (l.length : Int)
    · simp only [hle, decide_true, G.cycle_Is_j1, if_true]
      rw [cy_false (fun c => by have := cyc_le c; omega)]
    · have e1 : w64 ((l.length : Int) - 1) = ((l.length - 1 : Nat) : Int) := by rw [w64_id (by omega) (by omega)]; omega
      simp only [hle, decide_false, G.cycle_Is_j1, Bool.false_eq_true, if_false, len_eq, e1]
      rw [idx_at (show l.length - 1 < l.length by omega)]
      simp only [Option.bind_some]
      rw [← if_cy (by omega)]
      refine scanG (fun k => (setOf (l.take k), prevOf l k, (k : Int))) l.length (cycAt n f l) (some true) (some false) (fuel_gt (by omega)) (fun k hk hbef => ?_) (fun _ => ?_) ?_
      · have hnodes : ∀ a ∈ l.take k, 0 ≤ a ∧ a < n := fun a ha => by
          obtain ⟨j, hj, rfl⟩ := (mem_take (by omega)).1 ha
          have := (hasB_iff.1 ((cycAt_iff (by omega)).1 (hbef j hj)).1).1
          exact ⟨this.2.2.1, this.2.2.2⟩
        simp only [G.cycle_Is_b1, len_eq, dec_lt, hk, decide_true, if_true, idx_at hk, Option.bind_some, graph_Has hn]
        have hat : cycAt n f l k = (hasB n f (prevOf l k) l[k] && !decide (l[k] ∈ l.take k)) := by
          unfold cycAt; rw [List.getElem?_eq_getElem hk]
        rw [hat]
        cases hh : hasB n f (prevOf l k) l[k] with
        | false => simp [G.cycle_Is_j3]
        | true =>
          have hnk := (hasB_iff.1 hh).1
          have hs : Bv.has (setOf (l.take k)) l[k] = decide (l[k] ∈ l.take k) := set_has hn hnodes l[k] ⟨hnk.2.2.1, hnk.2.2.2⟩
          simp only [Bool.not_true, Bool.false_eq_true, if_false, bits_Has, Option.bind_some, hs, Bool.true_and]
          by_cases hm : l[k] ∈ l.take k
          · simp [hm, G.cycle_Is_j3]
          · simp only [hm, decide_false, G.cycle_Is_j3, Bool.false_eq_true, if_false, bits_With, Option.bind_some, Bool.not_false, if_true, Sh.next, w64_succ (show k < 9223372036854775807 by omega), prev_succ hk]
            rw [List.take_succ_eq_append_getElem hk, setOf_snoc]
      · simp only [G.cycle_Is_b1, len_eq, Int.lt_irrefl, decide_false, Bool.false_eq_true, if_false, G.cycle_Is_j2]
      · simp only [List.take_zero, prev_zero (show 0 < l.length by omega)]
        rfl
theorem cycle_Is_bad (g : G.graph_Graph) (hl : g.Rows.length < 9223372036854775808) (l : List Int) (hll : l.length < 9223372036854775808) (h : rightB g.N g.Rows = false) : G.cycle_Is g l = some false := by
  unfold G.cycle_Is
  by_cases h0 : l.length = 0
  · have : (l.length : Int) = 0 := by omega
    simp only [len_eq, this, decide_true, if_true, G.cycle_Is_j1]
  · have h0' : ¬ (l.length : Int) = 0 := by omega
    simp only [len_eq, h0', decide_false, Bool.false_eq_true, if_false]
    by_cases hle : g.N < (l.length : Int)
    · simp only [hle, decide_true, G.cycle_Is_j1, if_true]
    · have e1 : w64 ((l.length : Int) - 1) = ((l.length - 1 : Nat) : Int) := by rw [w64_id (by omega) (by omega)]; omega
      simp only [hle, decide_false, G.cycle_Is_j1, Bool.false_eq_true, if_false, len_eq, e1]
      rw [idx_at (show l.length - 1 < l.length by omega)]
      simp only [Option.bind_some]
      have h00 : 0 < l.length := by omega
      refine run_exit (fun k => (0#64, l[l.length - 1], (k : Int))) 0 (some false) (fuel_gt (by omega)) (fun k hk => by omega) ?_ rfl
      have hb : decide (((0 : Nat) : Int) < (l.length : Int)) = true := by simp; omega
      simp only [G.cycle_Is_b1, len_eq, hb, if_true, idx_at h00, Option.bind_some, graph_Has_bad g hl _ _ h, Bool.not_false, G.cycle_Is_j3]

theorem r15_Is {n : Nat} (hn : n ≤ 64) (f : Nat → Nat → Bool) (l : List Int) (hl : l.length < 9223372036854775807) : G.inquestref15_Is (rg n f) l = some (cyB n f l) := by
  unfold G.inquestref15_Is
  have hr : G.inquestref12_Right (rg n f) = some true := by
    rw [r12_Right _ (by simp; omega)]; exact congrArg some (right_rows hn f)
  simp only [hr, Option.bind_some, Bool.not_true, Bool.false_eq_true, if_false]
  by_cases h0 : l.length = 0
  · have : (l.length : Int) = 0 := by omega
    simp only [len_eq, this, decide_true, if_true, G.inquestref15_Is_j1]
    rw [cy_false (fun c => by have := c.some; omega)]
  · have h0' : ¬ (l.length : Int) = 0 := by omega
    have h00 : 0 < l.length := by omega
    simp only [len_eq, h0', decide_false, G.inquestref15_Is_j1, Bool.false_eq_true, if_false]
    -- the first loop: nodes, each once
    let p : Nat → Bool := fun i => match l[i]? with | some a => decide (0 ≤ a ∧ a < (n : Int)) && (l.take i).all fun b => decide (b ≠ a) | none => false
    have hp : ∀ i (hi : i < l.length), p i = (decide (0 ≤ l[i] ∧ l[i] < (n : Int)) && (l.take i).all fun b => decide (b ≠ l[i])) := fun i hi => by
      simp only [p]; rw [List.getElem?_eq_getElem hi]
    have first : ∀ i (hi : i < l.length), G.inquestref15_Is_b2 (rg n f) l (i : Int) = if p i then some (.inl ((i + 1 : Nat) : Int)) else Sh.exit (some false) := fun i hi => by
      rw [hp i hi]
      simp only [G.inquestref15_Is_b2, len_eq, dec_lt, hi, decide_true, if_true, idx_at hi, Option.bind_some, r12_Node]
      by_cases hnode : 0 ≤ l[i] ∧ l[i] < (n : Int)
      · simp only [hnode, and_self, decide_true, Bool.not_true, Bool.false_eq_true, if_false, Bool.true_and]
        refine (scanG (fun j => (j : Int)) i (fun j => match l[j]? with | some b => decide (b ≠ l[i]) | none => false) (some (.inl ((i + 1 : Nat) : Int))) (some (.inr false)) (fuel_gt (by omega)) (fun j hj _ => ?_) (fun _ => ?_) rfl).trans ?_
        · have hjl : j < l.length := by omega
          simp only [G.inquestref15_Is_b3, dec_lt, hj, decide_true, if_true, idx_at hjl, idx_at hi, Option.bind_some, List.getElem?_eq_getElem hjl]
          by_cases he : l[j] = l[i]
          · simp only [he, decide_true, if_true, ne_eq, not_true_eq_false, decide_false, Bool.false_eq_true, if_false]; rfl
          · simp only [he, decide_false, Bool.false_eq_true, if_false, ne_eq, not_false_eq_true, decide_true, if_true, Sh.next, w64_succ (show j < 9223372036854775807 by omega)]
        · simp only [G.inquestref15_Is_b3, Int.lt_irrefl, decide_false, Bool.false_eq_true, if_false, G.inquestref15_Is_j4, Sh.next, w64_succ (show i < 9223372036854775807 by omega)]
        · have : (∀ j, j < i → (match l[j]? with | some b => decide (b ≠ l[i]) | none => false) = true) ↔ ((l.take i).all fun b => decide (b ≠ l[i])) = true := by
            rw [List.all_eq_true]
            constructor
            · intro h b hb
              obtain ⟨j, hj, rfl⟩ := (mem_take (by omega)).1 hb
              have := h j hj
              rwa [List.getElem?_eq_getElem (by omega)] at this
            · intro h j hj
              rw [List.getElem?_eq_getElem (by omega)]
              exact h _ ((mem_take (by omega)).2 ⟨j, hj, rfl⟩)
          by_cases hall : ((l.take i).all fun b => decide (b ≠ l[i])) = true
          · rw [if_pos (this.2 hall), if_pos hall]
          · rw [if_neg (fun h => hall (this.1 h)), if_neg hall]; rfl
      · simp [hnode]
    refine (scanG (fun i => (i : Int)) l.length p (G.inquestref15_Is_j2 (rg n f) l) (some false) (fuel_gt (by omega)) (fun i hi _ => first i hi) (fun _ => ?_) rfl).trans ?_
    · simp only [G.inquestref15_Is_b2, len_eq, Int.lt_irrefl, decide_false, Bool.false_eq_true, if_false]
    · by_cases hall : ∀ i, i < l.length → p i = true
      · rw [if_pos hall]
        have hnodes : ∀ a ∈ l, 0 ≤ a ∧ a < n := fun a ha => by
          obtain ⟨i, hi, rfl⟩ := List.getElem_of_mem ha
          have := hall i hi
          rw [hp i hi] at this
          simp only [Bool.and_eq_true, decide_eq_true_eq] at this
          exact this.1
        have hnd : l.Nodup := List.pairwise_iff_getElem.2 fun i j hi hj hij => by
          have := hall j hj
          rw [hp j hj] at this
          simp only [Bool.and_eq_true, List.all_eq_true, decide_eq_true_eq] at this
          exact this.2 _ ((mem_take (by omega)).2 ⟨i, hij, rfl⟩)
        unfold G.inquestref15_Is_j2
        refine (scanG (fun i => (i : Int)) l.length (fun i => match l[i]?, l[(i + 1) % l.length]? with | some a, some b => f a.toNat b.toNat | _, _ => false) (some true) (some false) (fuel_gt (by omega)) (fun i hi _ => ?_) (fun _ => ?_) rfl).trans ?_
        · have hm : (i + 1) % l.length < l.length := Nat.mod_lt _ h00
          have hrem : Sh.rem (w64 ((i : Int) + 1)) (l.length : Int) = some (((i + 1) % l.length : Nat) : Int) := by
            rw [w64_succ (by omega)]
            simp only [Sh.rem, ne_eq, h0', not_false_eq_true, if_true]
            rw [Int.ofNat_tmod]
          have ha := hnodes _ (List.getElem_mem hi)
          have hb := hnodes _ (List.getElem_mem hm)
          obtain ⟨x, hx⟩ : ∃ x : Nat, l[i] = x := ⟨l[i].toNat, by omega⟩
          obtain ⟨y, hy⟩ : ∃ y : Nat, l[(i + 1) % l.length] = y := ⟨l[(i + 1) % l.length].toNat, by omega⟩
          simp only [G.inquestref15_Is_b1, len_eq, dec_lt, hi, decide_true, if_true, idx_at hi, hrem, Option.bind_some, idx_at hm, List.getElem?_eq_getElem hi, List.getElem?_eq_getElem hm, hx, hy, r12_Has hn f (show x < n by omega) (show y < n by omega), Int.toNat_natCast]
          cases f x y with
          | false => simp
          | true => simp only [Bool.not_true, Bool.false_eq_true, if_false, if_true, Sh.next, w64_succ (show i < 9223372036854775807 by omega)]
        · simp only [G.inquestref15_Is_b1, len_eq, Int.lt_irrefl, decide_false, Bool.false_eq_true, if_false, G.inquestref15_Is_j3]
        · have : (∀ i, i < l.length → (match l[i]?, l[(i + 1) % l.length]? with | some a, some b => f a.toNat b.toNat | _, _ => false) = true) ↔ Cyc n f l := by
            constructor
            · intro h
              refine ⟨h00, hnodes, hnd, fun i hi => ?_⟩
              have := h i hi
              rwa [List.getElem?_eq_getElem hi, List.getElem?_eq_getElem (Nat.mod_lt _ h00)] at this
            · intro c i hi
              rw [List.getElem?_eq_getElem hi, List.getElem?_eq_getElem (Nat.mod_lt _ h00)]
              exact c.edge i hi
          by_cases hc : Cyc n f l
          · rw [if_pos (this.2 hc), cy_iff.2 hc]
          · rw [if_neg (fun h => hc (this.1 h)), cy_false hc]
      · rw [if_neg hall, cy_false (fun c => hall fun i hi => by
          rw [hp i hi]
          simp only [Bool.and_eq_true, decide_eq_true_eq, List.all_eq_true]
          refine ⟨c.nodes _ (List.getElem_mem hi), fun b hb => ?_⟩
          obtain ⟨j, hj, rfl⟩ := (mem_take (by omega)).1 hb
          exact List.pairwise_iff_getElem.1 c.nodup j i (by omega) hi hj)]
end Pl
end

section
/- How far a node is from a node: what the search and the reference tell. -/
namespace Pl
open Go Go.Av

def leastFrom (q : Nat → Bool) : Nat → Nat → Int
  | 0, _ => -1
  | m + 1, k => if q k then (k : Int) else leastFrom q m (k + 1)
theorem leastFrom_spec (q : Nat → Bool) : ∀ (m k : Nat), (leastFrom q m k = -1 ∧ ∀ j, k ≤ j → j < k + m → q j = false) ∨ ∃ j, k ≤ j ∧ j < k + m ∧ leastFrom q m k = (j : Int) ∧ q j = true ∧ ∀ i, k ≤ i → i < j → q i = false
  | 0, k => .inl ⟨rfl, fun j h1 h2 => by omega⟩
  | m + 1, k => by
    unfold leastFrom
    cases hq : q k with
    | true => exact .inr ⟨k, by omega, by omega, by simp, hq, fun i h1 h2 => by omega⟩
    | false =>
      simp only [Bool.false_eq_true, if_false]
      rcases leastFrom_spec q m (k + 1) with ⟨h1, h2⟩ | ⟨j, h1, h2, h3, h4, h5⟩
      · refine .inl ⟨h1, fun j hj hj2 => ?_⟩
        by_cases h : j = k
        · subst h; exact hq
        · exact h2 j (by omega) (by omega)
      · refine .inr ⟨j, by omega, by omega, h3, h4, fun i hi hi2 => ?_⟩
        by_cases h : i = k
        · subst h; exact hq
        · exact h5 i (by omega) hi2

/-- Is there a way of so many edges to v? -/
def wk (n : Nat) (f : Nat → Nat → Bool) (v : Nat) : Nat → Nat → Bool
  | 0, x => decide (x = v)
  | m + 1, x => (List.range n).any fun y => f x y && wk n f v m y
theorem wk_succ {n : Nat} {f : Nat → Nat → Bool} {v m x : Nat} : wk n f v (m + 1) x = true ↔ ∃ y, y < n ∧ f x y = true ∧ wk n f v m y = true := by
  show ((List.range n).any fun y => f x y && wk n f v m y) = true ↔ _
  simp only [List.any_eq_true, List.mem_range, Bool.and_eq_true]
theorem wk_one {n : Nat} {f : Nat → Nat → Bool} {v x : Nat} (hv : v < n) : wk n f v 1 x = f x v := by
  rw [Bool.eq_iff_iff, wk_succ]
  unfold wk
  simp only [decide_eq_true_eq]
  constructor
  · rintro ⟨y, _, h, rfl⟩; exact h
  · intro h; exact ⟨v, hv, h, rfl⟩
theorem wk_snoc {n : Nat} {f : Nat → Nat → Bool} {v : Nat} (hv : v < n) : ∀ (m x : Nat), x < n → (wk n f v (m + 1) x = true ↔ ∃ z, z < n ∧ wk n f z m x = true ∧ f z v = true) := by
  intro m
  induction m with
  | zero =>
    intro x hx
    rw [wk_one hv]
    simp only [wk, decide_eq_true_eq]
    constructor
    · intro h; exact ⟨x, hx, rfl, h⟩
    · rintro ⟨z, _, rfl, h⟩; exact h
  | succ m ih =>
    intro x hx
    rw [wk_succ]
    constructor
    · rintro ⟨y, hy, hf, hw⟩
      obtain ⟨z, hz, h1, h2⟩ := (ih y hy).1 hw
      exact ⟨z, hz, wk_succ.2 ⟨y, hy, hf, h1⟩, h2⟩
    · rintro ⟨z, hz, h1, h2⟩
      obtain ⟨y, hy, hf, h3⟩ := wk_succ.1 h1
      exact ⟨y, hy, hf, (ih y hy).2 ⟨z, hz, h3, h2⟩⟩

/-- How far v is, as far as so many edges tell; 0: not told. -/
def dk (n : Nat) (f : Nat → Nat → Bool) (v : Nat) : Nat → Nat → Nat
  | 0, _ => 0
  | k + 1, x => if dk n f v k x ≠ 0 then dk n f v k x else if wk n f v (k + 1) x then k + 1 else 0
theorem dk_zero {n : Nat} {f : Nat → Nat → Bool} {v x : Nat} : ∀ k, dk n f v k x = 0 ↔ ∀ j, 1 ≤ j → j ≤ k → wk n f v j x = false := by
  intro k
  induction k with
  | zero => exact ⟨fun _ j h1 h2 => by omega, fun _ => rfl⟩
  | succ k ih =>
    unfold dk
    by_cases h0 : dk n f v k x = 0
    · rw [if_neg (by simpa using h0)]
      have hall := ih.1 h0
      cases hw : wk n f v (k + 1) x with
      | true =>
        simp only [if_true]
        constructor
        · intro h; omega
        · intro h; have := h (k + 1) (by omega) (by omega); rw [hw] at this; cases this
      | false =>
        simp only [Bool.false_eq_true, if_false, true_iff]
        intro j h1 h2
        by_cases hj : j = k + 1
        · subst hj; exact hw
        · exact hall j h1 (by omega)
    · rw [if_pos h0]
      constructor
      · intro h; exact absurd h h0
      · intro h; exact ih.2 fun j h1 h2 => h j h1 (by omega)
theorem dk_pos {n : Nat} {f : Nat → Nat → Bool} {v x : Nat} : ∀ k, dk n f v k x ≠ 0 → wk n f v (dk n f v k x) x = true ∧ dk n f v k x ≤ k ∧ ∀ i, 1 ≤ i → i < dk n f v k x → wk n f v i x = false := by
  intro k
  induction k with
  | zero => intro h; exact absurd rfl h
  | succ k ih =>
    intro h
    by_cases h0 : dk n f v k x = 0
    · have e : dk n f v (k + 1) x = k + 1 := by
        unfold dk at h ⊢
        rw [if_neg (by simpa using h0)] at h ⊢
        cases hw : wk n f v (k + 1) x with
        | true => rfl
        | false => rw [hw] at h; exact absurd rfl h
      have hw : wk n f v (k + 1) x = true := by
        unfold dk at e
        rw [if_neg (by simpa using h0)] at e
        cases hw : wk n f v (k + 1) x with
        | true => rfl
        | false => rw [hw] at e; simp at e
      rw [e]
      exact ⟨hw, by omega, fun i h1 h2 => (dk_zero k).1 h0 i h1 (by omega)⟩
    · have e : dk n f v (k + 1) x = dk n f v k x := by unfold dk; rw [if_pos h0]; cases k <;> rfl
      rw [e]
      obtain ⟨a, b, c⟩ := ih h0
      exact ⟨a, by omega, c⟩
theorem dk_next {n : Nat} {f : Nat → Nat → Bool} {v x k : Nat} : dk n f v (k + 1) x = if dk n f v k x ≠ 0 then dk n f v k x else if wk n f v (k + 1) x then k + 1 else 0 := rfl
theorem dk_keep {n : Nat} {f : Nat → Nat → Bool} {v x k : Nat} (h : dk n f v k x ≠ 0) : dk n f v (k + 1) x = dk n f v k x := by rw [dk_next, if_pos h]

theorem lev_down {n : Nat} {f : Nat → Nat → Bool} {v m x : Nat} (hm : 1 ≤ m) (hw : wk n f v (m + 1) x = true) (hf : ∀ i, 1 ≤ i → i < m + 1 → wk n f v i x = false) : ∃ y, y < n ∧ f x y = true ∧ wk n f v m y = true ∧ ∀ i, 1 ≤ i → i < m → wk n f v i y = false := by
  obtain ⟨y, hy, h1, h2⟩ := wk_succ.1 hw
  refine ⟨y, hy, h1, h2, fun i hi1 hi2 => ?_⟩
  cases e : wk n f v i y with
  | false => rfl
  | true =>
    have := hf (i + 1) (by omega) (by omega)
    rw [wk_succ.2 ⟨y, hy, h1, e⟩] at this
    cases this
theorem chain {n : Nat} {f : Nat → Nat → Bool} {v : Nat} : ∀ (m x : Nat), x < n → wk n f v (m + 1) x = true → (∀ i, 1 ≤ i → i < m + 1 → wk n f v i x = false) →
    ∃ l : List Int, l.length = m + 1 ∧ (∀ a ∈ l, 0 ≤ a ∧ a < n) ∧ l.Nodup ∧ ∀ a ∈ l, ∃ j, 1 ≤ j ∧ j ≤ m + 1 ∧ wk n f v j a.toNat = true := by
  intro m
  induction m with
  | zero =>
    intro x hx hw _
    refine ⟨[(x : Int)], rfl, fun a ha => ?_, by simp, fun a ha => ?_⟩
    · simp at ha; omega
    · simp at ha; subst ha; exact ⟨1, by omega, by omega, hw⟩
  | succ m ih =>
    intro x hx hw hf
    obtain ⟨y, hy, _, h2, h3⟩ := lev_down (by omega) hw hf
    obtain ⟨l, g1, g2, g3, g4⟩ := ih y hy h2 h3
    refine ⟨(x : Int) :: l, by simp [g1], fun a ha => ?_, List.nodup_cons.2 ⟨fun hx2 => ?_, g3⟩, fun a ha => ?_⟩
    · rcases List.mem_cons.1 ha with rfl | ha
      · omega
      · exact g2 a ha
    · obtain ⟨j, j1, j2, j3⟩ := g4 _ hx2
      have := hf j j1 (by omega)
      simp only [Int.toNat_natCast] at j3
      rw [j3] at this; cases this
    · rcases List.mem_cons.1 ha with rfl | ha
      · exact ⟨m + 2, by omega, by omega, by simpa using hw⟩
      · obtain ⟨j, j1, j2, j3⟩ := g4 a ha
        exact ⟨j, j1, by omega, j3⟩
theorem lev_le {n : Nat} {f : Nat → Nat → Bool} {v m x : Nat} (hx : x < n) (hw : wk n f v (m + 1) x = true) (hf : ∀ i, 1 ≤ i → i < m + 1 → wk n f v i x = false) : m + 1 ≤ n := by
  obtain ⟨l, h1, h2, h3, _⟩ := chain m x hx hw hf
  have := len_of_cover h2 h3
  omega
theorem dk_le {n : Nat} {f : Nat → Nat → Bool} {v k x : Nat} (hx : x < n) : dk n f v k x ≤ n := by
  by_cases h : dk n f v k x = 0
  · omega
  · obtain ⟨h1, h2, h3⟩ := dk_pos k h
    obtain ⟨m, hm⟩ : ∃ m, dk n f v k x = m + 1 := ⟨dk n f v k x - 1, by omega⟩
    rw [hm] at h1 h3 ⊢
    exact lev_le hx h1 h3

/-- Where the search stands behind so many rounds. -/
def frF (n : Nat) (f : Nat → Nat → Bool) (v k : Nat) : Nat → Bool := fun x => if k = 0 then f x v else (List.range n).any fun y => decide (dk n f v k y = k) && f x y
theorem front_iff {n : Nat} {f : Nat → Nat → Bool} {v k x : Nat} (hv : v < n) (h0 : dk n f v k x = 0) : frF n f v k x = wk n f v (k + 1) x := by
  rw [Bool.eq_iff_iff]
  unfold frF
  by_cases hk : k = 0
  · subst hk; rw [if_pos rfl, wk_one hv]
  · rw [if_neg hk, List.any_eq_true, wk_succ]
    simp only [List.mem_range, Bool.and_eq_true, decide_eq_true_eq]
    constructor
    · rintro ⟨y, hy, h1, h2⟩
      have := (dk_pos k (by omega : dk n f v k y ≠ 0)).1
      rw [h1] at this
      exact ⟨y, hy, h2, this⟩
    · rintro ⟨y, hy, h1, h2⟩
      have hne : dk n f v k y ≠ 0 := fun h => by
        have := (dk_zero k).1 h k (by omega) (by omega)
        rw [h2] at this; cases this
      obtain ⟨g1, g2, g3⟩ := dk_pos k hne
      refine ⟨y, hy, ?_, h1⟩
      rcases Nat.lt_or_ge (dk n f v k y) k with h | h
      · have := (dk_zero k).1 h0 (dk n f v k y + 1) (by omega) (by omega)
        rw [wk_succ.2 ⟨y, hy, h1, g1⟩] at this; cases this
      · omega
theorem stable {n : Nat} {f : Nat → Nat → Bool} {v k : Nat} (hv : v < n) (he : ∀ x, x < n → frF n f v k x = false) : ∀ m, k ≤ m → ∀ x, x < n → dk n f v m x = dk n f v k x := by
  have none : ∀ m, k < m → ∀ x, x < n → wk n f v m x = true → (∀ i, 1 ≤ i → i < m → wk n f v i x = false) → False := by
    intro m hm
    induction m with
    | zero => omega
    | succ m ih =>
      intro x hx hw hf
      by_cases hkm : k = m
      · subst hkm
        have h0 : dk n f v k x = 0 := (dk_zero k).2 fun j h1 h2 => hf j h1 (by omega)
        have := he x hx
        rw [front_iff hv h0, hw] at this; cases this
      · obtain ⟨y, hy, _, h2, h3⟩ := lev_down (by omega) hw hf
        exact ih (by omega) y hy h2 h3
  intro m hm
  induction m with
  | zero =>
    have : k = 0 := by omega
    subst this; intro x _; rfl
  | succ m ih =>
    intro x hx
    by_cases hkm : k = m + 1
    · subst hkm; rfl
    · have e := ih (by omega) x hx
      rw [← e, dk_next]
      by_cases h0 : dk n f v m x = 0
      · rw [if_neg (by simpa using h0)]
        cases hw : wk n f v (m + 1) x with
        | false => simp [h0]
        | true => exact (none (m + 1) (by omega) x hx hw (fun i h1 h2 => (dk_zero m).1 h0 i h1 (by omega))).elim
      · rw [if_pos h0]
theorem front_end {n : Nat} {f : Nat → Nat → Bool} {v : Nat} : ∀ x, x < n → frF n f v (n + 1) x = false := by
  intro x _
  unfold frF
  rw [if_neg (by omega), List.any_eq_false]
  intro y hy
  have := dk_le (f := f) (v := v) (k := n + 1) (List.mem_range.1 hy)
  simp; intro h; omega

/-! ### Arrays -/
def ar64 (F : Nat → Int) : List Int := (List.range 64).map F
theorem ar_len (F : Nat → Int) : (ar64 F).length = 64 := by simp [ar64]
theorem ar_ext {F G : Nat → Int} (h : ∀ x, x < 64 → F x = G x) : ar64 F = ar64 G := by
  unfold ar64
  exact List.map_congr_left fun x hx => h x (List.mem_range.1 hx)
theorem ar_idx (F : Nat → Int) {y : Nat} (h : y < 64) : Sh.aidx 64 (ar64 F) (y : Int) = some (F y) := by
  unfold Sh.aidx
  rw [if_pos (ar_len F), idx_at (by rw [ar_len]; exact h)]
  simp [ar64]
theorem ar_set (F : Nat → Int) {y : Nat} (_h : y < 64) (c : Int) : Sh.set (ar64 F) (y : Int) c = ar64 fun x => if x = y then c else F x := by
  rw [set_at]
  apply List.ext_getElem? fun i => ?_
  unfold ar64
  rw [List.getElem?_set]
  by_cases hi : i < 64
  · by_cases e : y = i
    · subst e; simp [hi]
    · have e' : ¬ i = y := fun h => e h.symm
      simp [e, e', hi]
  · have h1 : ¬ y = i ∨ ¬ i < 64 := .inr hi
    rw [List.getElem?_eq_none (by simp; omega)]
    by_cases e : y = i
    · simp [e, hi]
    · simp [e, hi]
theorem ar_whole (F : Nat → Int) : Sh.whole 64 (ar64 F) = some (ar64 F) := by
  unfold Sh.whole; rw [if_pos (ar_len F)]

theorem ar_zero : List.replicate 64 (0 : Int) = ar64 (fun _ => 0) := by decide
def dF (n : Nat) (f : Nat → Nat → Bool) (v k : Nat) : Nat → Int := fun x => if x < n then (dk n f v k x : Int) else 0
/-- Within a round. -/
def inF (n : Nat) (f : Nat → Nat → Bool) (v k : Nat) (L : List Nat) : Nat → Int := fun x => if x < n then (if dk n f v k x = 0 ∧ x ∈ L then ((k + 1 : Nat) : Int) else (dk n f v k x : Int)) else 0
def inN (n : Nat) (f : Nat → Nat → Bool) (v k : Nat) (L : List Nat) : Nat → Bool := fun x => L.any fun y => decide (dk n f v k y = 0) && f x y
theorem far_inner {n : Nat} (hn : n ≤ 64) (f : Nat → Nat → Bool) {v k : Nat} (hv : v < n) (hk : k ≤ n + 1) (p : Nat → Bool) :
    Sh.loop (fun (q : (List Int) × (BitVec 64) × Int) => G.cycle_far_b2 (gr n (turnF f)) ((k + 1 : Nat) : Int) (ilist (row n p)) q.1 q.2.1 q.2.2) (ar64 (dF n f v k), 0#64, 0) =
      some (.inl (ar64 (inF n f v k (Bv.list (row n p))), row n (inN n f v k (Bv.list (row n p))), ((k + 2 : Nat) : Int))) := by
  have hlen := Bv.list_length_le (row n p)
  refine run_exit (fun j => (ar64 (inF n f v k ((Bv.list (row n p)).take j)), row n (inN n f v k ((Bv.list (row n p)).take j)), (j : Int))) (Bv.list (row n p)).length _ (fuel_gt (by omega)) (fun j hj => ?_) ?_ ?_
  · have hjl : j < (ilist (row n p)).length := by simpa [ilist] using hj
    have hy := list_mem_lt hn p hj
    have hjl' : (j : Int) < ((ilist (row n p)).length : Int) := by omega
    simp only [G.cycle_far_b2, len_eq, hjl', decide_true, if_true, ilist_at hj, Option.bind_some]
    generalize hye : (Bv.list (row n p))[j] = y at hy
    have hnot : y ∉ (Bv.list (row n p)).take j := fun hm => by
      obtain ⟨i, hi, e⟩ := List.getElem_of_mem hm
      have hi' : i < j := by rw [List.length_take] at hi; omega
      rw [List.getElem_take] at e
      have := List.pairwise_iff_getElem.1 (Bv.list_sorted (row n p)) i j (by omega) hj hi'
      omega
    have hval : inF n f v k ((Bv.list (row n p)).take j) y = (dk n f v k y : Int) := by
      unfold inF; rw [if_pos hy, if_neg (fun h => hnot h.2)]
    have htk : (Bv.list (row n p)).take (j + 1) = (Bv.list (row n p)).take j ++ [y] := by rw [List.take_succ_eq_append_getElem hj, hye]
    rw [ar_idx _ (by omega)]
    simp only [Option.bind_some, hval]
    by_cases h0 : dk n f v k y = 0
    · have h0' : (dk n f v k y : Int) = 0 := by omega
      simp only [h0', decide_true, if_true, rows_idx hy, Option.bind_some, join_two, row_or hn, G.cycle_far_j4, Sh.next, w64_succ (show j < 9223372036854775807 by omega)]
      rw [ar_set _ (by omega), htk]
      congr 3
      · apply ar_ext
        intro x _
        unfold inF
        by_cases hx : x < n
        · by_cases e : x = y
          · subst e; simp [hx, h0]
          · simp [hx, e]
        · have : ¬ x = y := fun e => hx (e ▸ hy)
          simp [hx, this]
      · congr 1
        rw [row_ext hn]
        intro x _
        unfold inN
        simp [h0, turnF]
    · have h0' : ¬ (dk n f v k y : Int) = 0 := by omega
      simp only [h0', decide_false, Bool.false_eq_true, if_false, G.cycle_far_j4, Sh.next, w64_succ (show j < 9223372036854775807 by omega)]
      rw [htk]
      congr 3
      · apply ar_ext
        intro x _
        unfold inF
        by_cases hx : x < n
        · by_cases e : x = y
          · subst e; simp [hx, h0]
          · simp [hx, e]
        · simp [hx]
      · congr 1
        rw [row_ext hn]
        intro x _
        unfold inN
        simp [h0]
  · have hjl : ¬ (((Bv.list (row n p)).length : Nat) : Int) < ((ilist (row n p)).length : Int) := by simp [ilist]
    simp only [G.cycle_far_b2, len_eq, hjl, decide_false, Bool.false_eq_true, if_false, List.take_length, G.cycle_far_j3, G.cycle_far_j2, Sh.next, w64_succ (show k + 1 < 9223372036854775807 by omega)]
  · simp only [List.take_zero]
    congr 2
    · funext x
      unfold dF inF
      simp
    · have : row n (inN n f v k []) = 0#64 := by
        have : row n (inN n f v k []) = row n (fun _ => false) := by
          rw [row_ext hn]; intro x _; rfl
        rw [this]
        apply Bv.ext
        intro i _
        rw [row_get hn]; simp
      rw [this]
theorem cycle_far {n : Nat} (hn : n ≤ 64) (f : Nat → Nat → Bool) {v : Nat} (hv : v < n) : G.cycle_far (gr n (turnF f)) (v : Int) = some (ar64 (dF n f v n)) := by
  unfold G.cycle_far
  simp only [rows_idx hv, Option.bind_some]
  obtain ⟨K, hK, hmin⟩ := exists_least (fun k => ∀ x, x < n → frF n f v k x = false) ⟨n + 1, front_end⟩
  have hKn : K ≤ n + 1 := hmin _ front_end
  have hend : ar64 (dF n f v K) = ar64 (dF n f v n) := by
    apply ar_ext
    intro x _
    unfold dF
    by_cases hx : x < n
    · rw [if_pos hx, if_pos hx]
      rcases Nat.lt_or_ge n K with h | h
      · have e1 : K = n + 1 := by omega
        subst e1
        have : dk n f v (n + 1) x = dk n f v n x := by
          rw [dk_next]
          by_cases h0 : dk n f v n x = 0
          · rw [if_neg (by simpa using h0)]
            cases hw : wk n f v (n + 1) x with
            | false => simp [h0]
            | true =>
              have := lev_le hx hw (fun i h1 h2 => (dk_zero n).1 h0 i h1 (by omega))
              omega
          · rw [if_pos h0]
        rw [this]
      · rw [stable hv hK n h x hx]
    · rw [if_neg hx, if_neg hx]
  rw [← hend]
  refine run_exit (fun k => (ar64 (dF n f v k), row n (frF n f v k), ((k + 1 : Nat) : Int))) K _ (fuel_gt (by omega)) (fun k hk => ?_) ?_ ?_
  · have hne : ¬ row n (frF n f v k) = 0#64 := fun h => by
      have : ∀ x, x < n → frF n f v k x = false := fun x hx => by
        have h2 : (row n (frF n f v k)).getLsbD x = false := by rw [h]; simp
        rw [row_get hn] at h2
        simpa [hx] using h2
      have := hmin k this
      omega
    simp only [G.cycle_far_b1, ne_eq, hne, not_false_eq_true, decide_true, if_true, bits_List, Option.bind_some]
    rw [far_inner hn f hv (by omega)]
    have hmem : ∀ x, x ∈ Bv.list (row n (frF n f v k)) ↔ x < n ∧ frF n f v k x = true := fun x => list_row hn _
    congr 3
    · apply ar_ext
      intro x _
      unfold inF dF
      by_cases hx : x < n
      · rw [if_pos hx, if_pos hx, dk_next]
        by_cases h0 : dk n f v k x = 0
        · have hi := front_iff hv h0
          rw [if_neg (show ¬ dk n f v k x ≠ 0 by simpa using h0)]
          cases hw : wk n f v (k + 1) x with
          | true => rw [if_pos ⟨h0, (hmem x).2 ⟨hx, by rw [hi, hw]⟩⟩]; rfl
          | false => rw [if_neg (fun h => by have := ((hmem x).1 h.2).2; rw [hi, hw] at this; cases this), h0]; rfl
        · rw [if_neg (fun h => h0 h.1), if_pos h0]
      · rw [if_neg hx, if_neg hx]
    · congr 1
      rw [row_ext hn]
      intro x _
      rw [Bool.eq_iff_iff]
      unfold inN
      conv => rhs; unfold frF
      rw [if_neg (by omega), List.any_eq_true, List.any_eq_true]
      simp only [Bool.and_eq_true, decide_eq_true_eq, List.mem_range]
      constructor
      · rintro ⟨y, h1, h2, h3⟩
        obtain ⟨hy, h4⟩ := (hmem y).1 h1
        refine ⟨y, hy, ?_, h3⟩
        rw [dk_next, if_neg (by simpa using h2)]
        rw [front_iff hv h2] at h4
        rw [h4]; rfl
      · rintro ⟨y, hy, h2, h3⟩
        have h0 : dk n f v k y = 0 := Classical.byContradiction fun h => by
          have := (dk_pos k h).2.1
          rw [dk_keep h] at h2
          omega
        refine ⟨y, (hmem y).2 ⟨hy, ?_⟩, h0, h3⟩
        rw [front_iff hv h0]
        rw [dk_next, if_neg (by simpa using h0)] at h2
        cases hw : wk n f v (k + 1) y with
        | true => rfl
        | false => rw [hw] at h2; simp at h2
  · have hz : row n (frF n f v K) = 0#64 := by
      apply Bv.ext
      intro i _
      rw [row_get hn]
      by_cases hi : i < n
      · simp [hi, hK i hi]
      · simp [hi]
    simp only [G.cycle_far_b1, hz, ne_eq, not_true_eq_false, decide_false, Bool.false_eq_true, if_false, G.cycle_far_j1, ar_whole, Option.bind_some]
  · congr 1
    · rw [ar_zero]
      apply ar_ext
      intro x _
      unfold dF dk
      simp
end Pl
end

section
/- What the reference tells of distances; which cycle is found. -/
namespace Pl
open Go Go.Av

/-! ### The reference's distances -/
def lr (n : Nat) (F : Nat → Int) : List Int := (List.range n).map F
theorem lr_len (n : Nat) (F : Nat → Int) : (lr n F).length = n := by simp [lr]
theorem lr_ext {n : Nat} {F G : Nat → Int} (h : ∀ x, x < n → F x = G x) : lr n F = lr n G := by
  unfold lr
  exact List.map_congr_left fun x hx => h x (List.mem_range.1 hx)
theorem lr_idx {n : Nat} (F : Nat → Int) {y : Nat} (h : y < n) : Sh.idx (lr n F) (y : Int) = some (F y) := by
  rw [idx_at (by rw [lr_len]; exact h)]
  simp [lr]
theorem lr_set {n : Nat} (F : Nat → Int) {y : Nat} (c : Int) : Sh.set (lr n F) (y : Int) c = lr n fun x => if x = y then c else F x := by
  rw [set_at]
  apply List.ext_getElem? fun i => ?_
  unfold lr
  rw [List.getElem?_set]
  by_cases hi : i < n
  · by_cases e : y = i
    · subst e; simp [hi]
    · have e' : ¬ i = y := fun h => e h.symm
      simp [e, e', hi]
  · rw [List.getElem?_eq_none (by simp; omega)]
    by_cases e : y = i
    · simp [e, hi]
    · simp [e, hi]
theorem lr_snoc (n : Nat) (F : Nat → Int) : lr (n + 1) F = lr n F ++ [F n] := by
  unfold lr; rw [List.range_succ, List.map_append]; rfl

def dL (n : Nat) (f : Nat → Nat → Bool) (v k : Nat) : Nat → Int := fun x => (dk n f v k x : Int)
/-- Within a round: the first ones are told anew. -/
def midF (n : Nat) (f : Nat → Nat → Bool) (v k x : Nat) : Nat → Int := fun y => if y < x then (dk n f v (k + 1) y : Int) else (dk n f v k y : Int)
theorem mid_is {n : Nat} {f : Nat → Nat → Bool} {v k x y : Nat} (hk : 1 ≤ k) (hxy : y ≠ x ∨ dk n f v k x = 0) : (midF n f v k x y = (k : Int)) ↔ dk n f v k y = k := by
  unfold midF
  by_cases h : y < x
  · rw [if_pos h, dk_next]
    by_cases h0 : dk n f v k y = 0
    · rw [if_neg (by simpa using h0)]
      cases wk n f v (k + 1) y <;> simp <;> omega
    · rw [if_pos h0]; omega
  · rw [if_neg h]; omega
theorem far_yy {n : Nat} (hn : n ≤ 64) (f : Nat → Nat → Bool) {v k x : Nat} (hv : v < n) (hk : 1 ≤ k) (hkn : k < n) (hx : x < n) :
    G.inquestref15_far_b2 (rg n f) (k : Int) (lr n (midF n f v k x)) (x : Int) = some (.inl (lr n (midF n f v k (x + 1)), ((x + 1 : Nat) : Int))) := by
  have hxx : midF n f v k x x = (dk n f v k x : Int) := by unfold midF; rw [if_neg (by omega)]
  have hxi : (x : Int) < (n : Int) := by omega
  simp only [G.inquestref15_far_b2, hxi, decide_true, if_true]
  by_cases h0 : dk n f v k x = 0
  · -- the first that is told in the round before
    have hfr := front_iff hv h0
    have hne : ¬ k = 0 := by omega
    by_cases hex : ∃ y, y < n ∧ f x y = true ∧ dk n f v k y = k
    · obtain ⟨y, ⟨hy, h1, h2⟩, hmin⟩ := exists_least _ hex
      have hw : wk n f v (k + 1) x = true := by
        rw [← hfr]; unfold frF; rw [if_neg hne, List.any_eq_true]
        exact ⟨y, List.mem_range.2 hy, by simp [h1, h2]⟩
      have hnew : lr n (fun z => if z = x then ((k + 1 : Nat) : Int) else midF n f v k x z) = lr n (midF n f v k (x + 1)) := by
        apply lr_ext
        intro z _
        unfold midF
        by_cases e : z = x
        · subst e
          rw [if_pos rfl, if_pos (by omega), dk_next, if_neg (by simpa using h0), if_pos hw]
        · rw [if_neg e]
          by_cases hlt : z < x
          · rw [if_pos hlt, if_pos (by omega)]
          · rw [if_neg hlt, if_neg (by omega)]
      refine run_exit (fun j => if j ≤ y then (lr n (midF n f v k x), (j : Int)) else (lr n (midF n f v k (x + 1)), (j : Int))) (y + 1) _ (fuel_gt (by omega)) (fun j hj => ?_) ?_ (by simp)
      · have hjy : j ≤ y := by omega
        have hjn : (j : Int) < (n : Int) := by omega
        have hj2 : j < n := by omega
        simp only [hjy, if_true, G.inquestref15_far_b3, hjn, decide_true, lr_idx _ hx, Option.bind_some, hxx, h0, G.inquestref15_far_j5, Int.natCast_zero]
        rw [r12_Has hn f hx hj2]
        simp only [Option.bind_some]
        by_cases hjj : j = y
        · subst hjj
          have hm := (mid_is (x := x) hk (.inr h0)).2 h2
          simp only [h1, if_true, lr_idx _ hj2, Option.bind_some, hm, decide_true, G.inquestref15_far_j7, lr_idx _ hx, lr_set, G.inquestref15_far_j6, Sh.next, w64_succ (show k < 9223372036854775807 by omega), w64_succ (show j < 9223372036854775807 by omega), hnew]
          rw [if_neg (by omega)]
        · have hno : ¬ (f x j = true ∧ dk n f v k j = k) := fun h => by have := hmin j ⟨hj2, h⟩; omega
          have hj1 : j + 1 ≤ y := by omega
          simp only [hj1, if_true]
          cases hf : f x j with
          | false => simp only [Bool.false_eq_true, if_false, G.inquestref15_far_j7, G.inquestref15_far_j6, Sh.next, w64_succ (show j < 9223372036854775807 by omega)]
          | true =>
            have hm : ¬ midF n f v k x j = (k : Int) := fun h => hno ⟨hf, (mid_is (x := x) hk (.inr h0)).1 h⟩
            simp only [if_true, lr_idx _ hj2, Option.bind_some, hm, decide_false, Bool.false_eq_true, if_false, G.inquestref15_far_j7, G.inquestref15_far_j6, Sh.next, w64_succ (show j < 9223372036854775807 by omega)]
      · have hlast : midF n f v k (x + 1) x = ((k + 1 : Nat) : Int) := by
          unfold midF
          rw [if_pos (by omega), dk_next, if_neg (by simpa using h0), if_pos hw]
        have hne0 : ¬ ((k + 1 : Nat) : Int) = 0 := by omega
        rw [if_neg (by omega)]
        simp only [G.inquestref15_far_b3]
        by_cases hyn : ((y + 1 : Nat) : Int) < (n : Int)
        · simp only [hyn, decide_true, if_true, lr_idx _ hx, Option.bind_some, hlast, hne0, decide_false, G.inquestref15_far_j5, Bool.false_eq_true, if_false, G.inquestref15_far_j4, Sh.next, w64_succ (show x < 9223372036854775807 by omega)]
        · simp only [hyn, decide_false, Bool.false_eq_true, if_false, G.inquestref15_far_j5, G.inquestref15_far_j4, Sh.next, w64_succ (show x < 9223372036854775807 by omega)]
    · have hw : wk n f v (k + 1) x = false := by
        rw [← hfr]; unfold frF; rw [if_neg hne, List.any_eq_false]
        intro y hy
        simp only [Bool.and_eq_true, decide_eq_true_eq, not_and]
        exact fun h1 h2 => hex ⟨y, List.mem_range.1 hy, h2, h1⟩
      have hnew : lr n (midF n f v k x) = lr n (midF n f v k (x + 1)) := by
        apply lr_ext
        intro z _
        unfold midF
        by_cases e : z = x
        · subst e
          rw [if_neg (by omega), if_pos (by omega), dk_next, if_neg (by simpa using h0), hw, h0]; rfl
        · by_cases hlt : z < x
          · rw [if_pos hlt, if_pos (by omega)]
          · rw [if_neg hlt, if_neg (by omega)]
      refine run_exit (fun j => (lr n (midF n f v k x), (j : Int))) n _ (fuel_gt (by omega)) (fun j hj => ?_) ?_ rfl
      · have hjn : (j : Int) < (n : Int) := by omega
        simp only [G.inquestref15_far_b3, hjn, decide_true, if_true, lr_idx _ hx, Option.bind_some, hxx, h0, G.inquestref15_far_j5, Int.natCast_zero]
        rw [r12_Has hn f hx hj]
        simp only [Option.bind_some]
        cases hf : f x j with
        | false => simp only [Bool.false_eq_true, if_false, G.inquestref15_far_j7, G.inquestref15_far_j6, Sh.next, w64_succ (show j < 9223372036854775807 by omega)]
        | true =>
          have hm : ¬ midF n f v k x j = (k : Int) := fun h => hex ⟨j, hj, hf, (mid_is (x := x) hk (.inr h0)).1 h⟩
          simp only [if_true, lr_idx _ hj, Option.bind_some, hm, decide_false, Bool.false_eq_true, if_false, G.inquestref15_far_j7, G.inquestref15_far_j6, Sh.next, w64_succ (show j < 9223372036854775807 by omega)]
      · simp only [G.inquestref15_far_b3, Int.lt_irrefl, decide_false, Bool.false_eq_true, if_false, G.inquestref15_far_j5, G.inquestref15_far_j4, Sh.next, w64_succ (show x < 9223372036854775807 by omega), hnew]
  · have hnew : lr n (midF n f v k x) = lr n (midF n f v k (x + 1)) := by
      apply lr_ext
      intro z _
      unfold midF
      by_cases e : z = x
      · subst e
        rw [if_neg (by omega), if_pos (by omega), dk_keep h0]
      · by_cases hlt : z < x
        · rw [if_pos hlt, if_pos (by omega)]
        · rw [if_neg hlt, if_neg (by omega)]
    have h0' : ¬ (dk n f v k x : Int) = 0 := by omega
    refine run_exit (fun j => (lr n (midF n f v k x), (j : Int))) 0 _ (fuel_gt (by omega)) (fun j hj => by omega) ?_ rfl
    have hn0 : ((0 : Nat) : Int) < (n : Int) := by omega
    simp only [G.inquestref15_far_b3, hn0, decide_true, if_true, lr_idx _ hx, Option.bind_some, hxx, h0', decide_false, G.inquestref15_far_j5, Bool.false_eq_true, if_false, G.inquestref15_far_j4, Sh.next, w64_succ (show x < 9223372036854775807 by omega)]
    rw [hnew]
theorem r15_far {n : Nat} (hn : n ≤ 64) (f : Nat → Nat → Bool) {v : Nat} (hv : v < n) : G.inquestref15_far (rg n f) (v : Int) = some (lr n (dL n f v n)) := by
  unfold G.inquestref15_far
  refine run_exit (fun j => (lr j (dL n f v 1), (j : Int))) n _ (fuel_gt (by omega)) (fun j hj => ?_) ?_ rfl
  · have hjn : (j : Int) < (n : Int) := by omega
    have hd : dL n f v 1 j = if f j v then 1 else 0 := by
      unfold dL
      rw [dk_next, wk_one hv]
      simp only [dk, ne_eq, not_true_eq_false, if_false]
      cases f j v <;> rfl
    simp only [G.inquestref15_far_b4, hjn, decide_true, if_true]
    rw [r12_Has hn f hj hv]
    simp only [Option.bind_some, G.inquestref15_far_j8, lr_snoc, hd]
    cases f j v <;> simp only [Bool.false_eq_true, if_true, if_false] <;> rw [app_ok (by rw [lr_len]; simp; omega)] <;> simp only [Option.bind_some, Sh.next, w64_succ (show j < 9223372036854775807 by omega)]
  · simp only [G.inquestref15_far_b4, Int.lt_irrefl, decide_false, Bool.false_eq_true, if_false, G.inquestref15_far_j1]
    congr 1
    refine run_exit (fun j => (lr n (dL n f v (j + 1)), ((j + 1 : Nat) : Int))) (n - 1) _ (fuel_gt (by omega)) (fun j hj => ?_) ?_ rfl
    · have hjn : ((j + 1 : Nat) : Int) < (n : Int) := by omega
      simp only [G.inquestref15_far_b1, hjn, decide_true, if_true]
      refine run_exit (fun x => (lr n (midF n f v (j + 1) x), (x : Int))) n _ (fuel_gt (by omega)) (fun x hx => far_yy hn f hv (by omega) (by omega) hx) ?_ ?_
      · simp only [G.inquestref15_far_b2, Int.lt_irrefl, decide_false, Bool.false_eq_true, if_false, G.inquestref15_far_j3, Sh.next, w64_succ (show j + 1 < 9223372036854775807 by omega)]
        congr 4
        apply lr_ext
        intro x hx
        unfold midF dL
        rw [if_pos hx]
      · congr 1
    · have e : n - 1 + 1 = n := by omega
      simp only [e, G.inquestref15_far_b1, Int.lt_irrefl, decide_false, Bool.false_eq_true, if_false, G.inquestref15_far_j2]
end Pl
end

section
/- A cycle begins anywhere. -/
namespace Pl
open Go Go.Av

theorem awake15 : G.inquestlaw15_awake = some true := by kernel_rfl
theorem rot_get {l : List Int} {k : Nat} (hk : k < l.length) {i : Nat} (hi : i < l.length) : (l.drop k ++ l.take k)[i]? = l[(i + k) % l.length]? := by
  by_cases h : i < l.length - k
  · rw [List.getElem?_append_left (by simp; omega), List.getElem?_drop, Nat.mod_eq_of_lt (by omega), Nat.add_comm]
  · rw [List.getElem?_append_right (by simp; omega), List.length_drop, List.getElem?_take_of_lt (by omega)]
    congr 1
    rw [show i + k = (i - (l.length - k)) + l.length by omega, Nat.add_mod_right]
    exact (Nat.mod_eq_of_lt (by omega)).symm
theorem rot_len {l : List Int} {k : Nat} (hk : k < l.length) : (l.drop k ++ l.take k).length = l.length := by simp; omega
theorem cyc_rot {n : Nat} {f : Nat → Nat → Bool} {l : List Int} {k : Nat} (hk : k < l.length) (c : Cyc n f l) : Cyc n f (l.drop k ++ l.take k) := by
  have hlen := rot_len hk
  refine ⟨by omega, fun a ha => ?_, ?_, fun i hi => ?_⟩
  · rcases List.mem_append.1 ha with h | h
    · exact c.nodes a (List.mem_of_mem_drop h)
    · exact c.nodes a (List.mem_of_mem_take h)
  · rw [List.nodup_append]
    refine ⟨c.nodup.sublist (List.drop_sublist _ _), c.nodup.sublist (List.take_sublist _ _), fun a ha b hb e => ?_⟩
    subst e
    obtain ⟨i, hi, rfl⟩ := (mem_take (by omega)).1 hb
    obtain ⟨j, hj, e2⟩ := List.getElem_of_mem ha
    rw [List.getElem_drop] at e2
    have hj' : k + j < l.length := by rw [List.length_drop] at hj; omega
    exact List.pairwise_iff_getElem.1 c.nodup i (k + j) (by omega) hj' (by omega) e2.symm
  · have hi' : i < l.length := by omega
    have e1 := rot_get hk hi'
    have hm : (i + 1) % (l.drop k ++ l.take k).length < l.length := by rw [hlen]; exact Nat.mod_lt _ (by omega)
    have e2 := rot_get hk hm
    have hp : (i + k) % l.length < l.length := Nat.mod_lt _ (by omega)
    have hq : ((i + 1) % (l.drop k ++ l.take k).length + k) % l.length < l.length := Nat.mod_lt _ (by omega)
    rw [List.getElem?_eq_getElem hi, List.getElem?_eq_getElem hp, Option.some.injEq] at e1
    rw [List.getElem?_eq_getElem (by omega), List.getElem?_eq_getElem hq, Option.some.injEq] at e2
    have := c.edge _ hp
    rw [e1, e2]
    have e3 : ((i + k) % l.length + 1) % l.length = ((i + 1) % (l.drop k ++ l.take k).length + k) % l.length := by
      rw [hlen, Nat.mod_add_mod, Nat.mod_add_mod]
      congr 1; omega
    simp only [e3] at this
    exact this
theorem cy_rot {n : Nat} {f : Nat → Nat → Bool} {l : List Int} {k : Nat} (hk : k < l.length) : cyB n f (l.drop k ++ l.take k) = cyB n f l := by
  rw [Bool.eq_iff_iff, cy_iff, cy_iff]
  refine ⟨fun c => ?_, cyc_rot hk⟩
  by_cases h0 : k = 0
  · subst h0; simpa using c
  · have hlen := rot_len hk
    have := cyc_rot (k := l.length - k) (by omega) c
    have e1 : (l.drop k ++ l.take k).drop (l.length - k) = l.take k := by
      rw [List.drop_append, List.drop_eq_nil_of_le (by simp)]; simp
    have e2 : (l.drop k ++ l.take k).take (l.length - k) = l.drop k := by
      rw [List.take_append, List.take_of_length_le (by simp)]; simp
    rw [e1, e2, List.take_append_drop] at this
    exact this
theorem row_none (n : Nat) : row n (fun _ => false) = 0#64 := by
  induction n with
  | zero => rfl
  | succ n ih => simp [row, ih]
theorem CycleTurns (g : G.graph_Graph) (l : List Int) (k : Int) : G.inquestlaw15_CycleTurns g l k = some true := by
  unfold G.inquestlaw15_CycleTurns
  simp only [awake15, Option.bind_some, Bool.not_true, Bool.false_eq_true, if_false]
  by_cases h70 : (70 : Int) < Sh.len g.Rows
  · simp [h70, G.inquestlaw15_CycleTurns_j1]
  by_cases h71 : (70 : Int) < Sh.len l
  · simp [h70, h71, G.inquestlaw15_CycleTurns_j1]
  by_cases hk0 : k < 0
  · simp [h70, h71, hk0, G.inquestlaw15_CycleTurns_j1]
  by_cases hkl : Sh.len l ≤ k
  · simp [h70, h71, hk0, hkl, G.inquestlaw15_CycleTurns_j1]
  have hs := short h70
  have hl : g.Rows.length < 9223372036854775808 := by omega
  have hll : l.length ≤ 70 := by simp only [len_eq] at h71; omega
  obtain ⟨m, rfl⟩ : ∃ m : Nat, k = m := ⟨k.toNat, by omega⟩
  have hm : m < l.length := by simp only [len_eq] at hkl; omega
  have hlen := rot_len hm
  have s1 : Sh.sub l (m : Int) (Sh.len l) = some (l.drop m) := by
    rw [len_eq, sub_ok (by omega) (by omega), List.take_of_length_le (by simp)]
  have s2 : Sh.sub l 0 (m : Int) = some (l.take m) := by
    have := sub_ok (l := l) (m := 0) (k := m) (by omega) (by omega)
    simpa using this
  have a1 : Sh.app 8 [] (l.drop m) = some (l.drop m) := by rw [app_ok (by simp; omega)]; simp
  have a2 : Sh.app 8 (l.drop m) (l.take m) = some (l.drop m ++ l.take m) := by rw [app_ok (by simp; omega)]
  simp only [h70, h71, hk0, hkl, decide_false, Bool.false_eq_true, if_false, G.inquestlaw15_CycleTurns_j1, s1, s2, a1, a2, Option.bind_some]
  cases hr : rightB g.N g.Rows with
  | false =>
    simp [cycle_Is_bad g hl l (by omega) hr, cycle_Is_bad g hl (l.drop m ++ l.take m) (by omega) hr]
  | true =>
    obtain ⟨n, f, hn, rfl⟩ := right_g hr
    simp only [cycle_Is hn f l (by omega), cycle_Is hn f (l.drop m ++ l.take m) (by omega), cy_rot hm, Option.bind_some, beq_self_eq_true, Bool.not_true, Bool.false_eq_true, if_false]
    cases hc : cyB n f l with
    | false => simp
    | true =>
      have c := cy_iff.1 hc
      have hle := cyc_le c
      have hnode := c.nodes _ (List.getElem_mem hm)
      obtain ⟨x, hx⟩ : ∃ x : Nat, l[m] = x := ⟨l[m].toNat, by omega⟩
      have hxn : x < n := by omega
      have n1 : ¬ (x : Int) < 0 := by omega
      have n2 : ¬ (n : Int) ≤ (x : Int) := by omega
      have a3 : Sh.app 8 [] (rows n f) = some (rows n f) := by rw [app_ok (by simp; omega)]; simp
      have a4 : Sh.app 8 [] l = some l := by rw [app_ok (by simp; omega)]; simp
      have a5 : Sh.app 8 l l = some (l ++ l) := by rw [app_ok (by omega)]
      have hset : Sh.set (rows n f) (x : Int) 0#64 = rows n (fun a => if a = x then (fun _ => false) else f a) := by
        rw [set_at, ← row_none n, rows_set f hxn]
      have hless : G.cycle_Is ⟨(n : Int), rows n (fun a => if a = x then (fun _ => false) else f a)⟩ l = some false := by
        have := cycle_Is hn (fun a => if a = x then (fun _ => false) else f a) l (by omega)
        rw [cy_false (fun c2 => ?_)] at this
        · exact this
        · have := c2.edge m hm
          simp [hx] at this
      have htwice : cyB n f (l ++ l) = false := cy_false (fun c2 => by
        have h0 := c.some
        have := c2.nodup
        rw [List.nodup_append] at this
        exact this.2.2 _ (List.getElem_mem h0) _ (List.getElem_mem h0) rfl)
      simp only [Bool.not_true, Bool.false_eq_true, if_false, idx_at hm, Option.bind_some, hx, n1, decide_false, len_eq, rows_len, n2, G.inquestlaw15_CycleTurns_j2, a3, rows_idx hxn, a4, a5, hset, hless, Bool.not_false, if_true, cycle_Is hn f (l ++ l) (by simp; omega), htwice]
      simp; omega
end Pl
end

section
/- Which cycle is found; the statements on cycles. -/
namespace Pl
open Go Go.Av

theorem down_one {n : Nat} {f : Nat → Nat → Bool} {v x L : Nat} (hL : 1 ≤ L) (hx : x < n) (h : dk n f v n x = L + 1) : ∃ y, y < n ∧ f x y = true ∧ dk n f v n y = L := by
  have hx0 : dk n f v n x ≠ 0 := by omega
  obtain ⟨h1, h2, h3⟩ := dk_pos n hx0
  rw [h] at h1 h2 h3
  obtain ⟨y, hy, g1, g2, g3⟩ := lev_down hL h1 h3
  refine ⟨y, hy, g1, ?_⟩
  have hne : dk n f v n y ≠ 0 := fun e => by
    have := (dk_zero n).1 e L hL (by omega)
    rw [g2] at this; cases this
  obtain ⟨k1, k2, k3⟩ := dk_pos n hne
  rcases Nat.lt_trichotomy (dk n f v n y) L with h | h | h
  · have := g3 _ (by omega) h
    rw [k1] at this; cases this
  · exact h
  · have := k3 L hL h
    rw [g2] at this; cases this

def nq (n : Nat) (f : Nat → Nat → Bool) (v x L : Nat) : Nat → Bool := fun y => f x y && decide (dk n f v n y = L)
/-- The way down, edge by edge. -/
def sq (n : Nat) (f : Nat → Nat → Bool) (v L : Nat) : Nat → Nat × List Int
  | 0 => (v, [(v : Int)])
  | j + 1 => ((leastFrom (nq n f v (sq n f v L j).1 (L - j)) n 0).toNat, (sq n f v L j).2 ++ [leastFrom (nq n f v (sq n f v L j).1 (L - j)) n 0])
theorem sq_step {n : Nat} {f : Nat → Nat → Bool} {v x L : Nat} (hL : 1 ≤ L) (hx : x < n) (h : dk n f v n x = L + 1) : ∃ y : Nat, y < n ∧ leastFrom (nq n f v x L) n 0 = (y : Int) ∧ f x y = true ∧ dk n f v n y = L ∧ ∀ i, i < y → ¬ (f x i = true ∧ dk n f v n i = L) := by
  obtain ⟨z, hz, g1, g2⟩ := down_one hL hx h
  have hq : nq n f v x L z = true := by simp [nq, g1, g2]
  rcases leastFrom_spec (nq n f v x L) n 0 with ⟨_, h2⟩ | ⟨y, _, h2, h3, h4, h5⟩
  · rw [h2 z (by omega) (by omega)] at hq; cases hq
  · simp only [nq, Bool.and_eq_true, decide_eq_true_eq] at h4
    refine ⟨y, by omega, h3, h4.1, h4.2, fun i hi hc => ?_⟩
    have := h5 i (by omega) hi
    simp [nq, hc.1, hc.2] at this
theorem sq_inv {n : Nat} {f : Nat → Nat → Bool} {v L : Nat} (hv : v < n) (hD : dk n f v n v = L + 1) : ∀ j, j ≤ L → (sq n f v L j).1 < n ∧ dk n f v n (sq n f v L j).1 = L - j + 1 ∧ (sq n f v L j).2.length = j + 1 ∧ (sq n f v L j).2[j]? = some ((sq n f v L j).1 : Int) ∧ (sq n f v L j).2[0]? = some (v : Int) := by
  intro j
  induction j with
  | zero => intro _; exact ⟨hv, hD, rfl, rfl, rfl⟩
  | succ j ih =>
    intro hj
    obtain ⟨h1, h2, h3, h4, h5⟩ := ih (by omega)
    obtain ⟨y, hy, e, g1, g2, _⟩ := sq_step (L := L - j) (by omega) h1 h2
    refine ⟨?_, ?_, ?_, ?_, ?_⟩
    · simp only [sq, e, Int.toNat_natCast]; exact hy
    · simp only [sq, e, Int.toNat_natCast]; omega
    · simp only [sq, List.length_append, h3, List.length_singleton]
    · simp only [sq, e, Int.toNat_natCast]
      rw [List.getElem?_append_right (by omega), h3]; simp
    · simp only [sq]
      rw [List.getElem?_append_left (by omega)]; exact h5
theorem sq_next {n : Nat} {f : Nat → Nat → Bool} {v L j y : Nat} (e : leastFrom (nq n f v (sq n f v L j).1 (L - j)) n 0 = (y : Int)) : sq n f v L (j + 1) = (y, (sq n f v L j).2 ++ [(y : Int)]) := by
  simp only [sq, e, Int.toNat_natCast]

theorem prog_step {n : Nat} (hn : n ≤ 64) (f : Nat → Nat → Bool) {v L j : Nat} (hv : v < n) (hD : dk n f v n v = L + 1) (hj : j < L) :
    G.cycle_Find_b2 (gr n f) (ar64 (dF n f v n)) (sq n f v L j).2 ((L - j : Nat) : Int) = some (.inl ((sq n f v L (j + 1)).2, ((L - (j + 1) : Nat) : Int))) := by
  obtain ⟨h1, h2, h3, h4, _⟩ := sq_inv hv hD j (by omega)
  have hLn : L + 1 ≤ n := by rw [← hD]; exact dk_le hv
  obtain ⟨y, hy, e, g1, g2, g3⟩ := sq_step (L := L - j) (by omega) h1 h2
  have hnx := sq_next e
  generalize sq n f v L (j + 1) = s2 at hnx
  subst hnx
  generalize sq n f v L j = s at h1 h2 h3 h4 e g1 g2 g3
  obtain ⟨x, out⟩ := s
  simp only at h1 h2 h3 h4 e g1 g2 g3 ⊢
  have hpos : (0 : Int) < ((L - j : Nat) : Int) := by omega
  have hlast : w64 ((out.length : Int) - 1) = (j : Int) := by rw [w64_id (by omega) (by omega)]; omega
  have hjo : j < out.length := by omega
  have hoj : out[j] = (x : Int) := by rw [List.getElem?_eq_getElem hjo] at h4; exact Option.some.inj h4
  simp only [G.cycle_Find_b2, hpos, decide_true, if_true, len_eq, hlast, idx_at hjo, Option.bind_some, hoj, rows_idx h1, bits_List]
  have hmem : y ∈ Bv.list (row n (f x)) := (list_row hn _).2 ⟨hy, g1⟩
  obtain ⟨i, hi, hiy⟩ := List.getElem_of_mem hmem
  have hll := Bv.list_length_le (row n (f x))
  refine run_exit (fun q => (q : Int)) i _ (fuel_gt (by omega)) (fun q hq => ?_) ?_ rfl
  · have hql : q < (Bv.list (row n (f x))).length := by omega
    have hlt := List.pairwise_iff_getElem.1 (Bv.list_sorted (row n (f x))) q i hql hi hq
    have hm := (list_row hn (f x)).1 (List.getElem_mem hql)
    have hqi : (q : Int) < ((ilist (row n (f x))).length : Int) := by simp [ilist]; exact hql
    simp only [G.cycle_Find_b3, len_eq, hqi, decide_true, if_true, ilist_at hql, Option.bind_some]
    rw [ar_idx _ (by omega)]
    have hd : ¬ dF n f v n (Bv.list (row n (f x)))[q] = ((L - j : Nat) : Int) := fun he => by
      unfold dF at he
      rw [if_pos hm.1] at he
      exact g3 _ (by omega) ⟨hm.2, by omega⟩
    simp only [Option.bind_some, hd, decide_false, Bool.false_eq_true, if_false, Sh.next, w64_succ (show q < 9223372036854775807 by omega)]
  · have hqi : (i : Int) < ((ilist (row n (f x))).length : Int) := by simp [ilist]; exact hi
    simp only [G.cycle_Find_b3, len_eq, hqi, decide_true, if_true, ilist_at hi, Option.bind_some, hiy]
    rw [ar_idx _ (by omega)]
    have hd : dF n f v n y = ((L - j : Nat) : Int) := by unfold dF; rw [if_pos hy]; omega
    simp only [Option.bind_some, hd, decide_true, if_true]
    rw [app_ok (by simp; omega)]
    have e2 : w64 (((L - j : Nat) : Int) - 1) = ((L - (j + 1) : Nat) : Int) := by rw [w64_id (by omega) (by omega)]; omega
    simp only [Option.bind_some, G.cycle_Find_j4, e2]
    rfl
theorem ref_step {n : Nat} (hn : n ≤ 64) (f : Nat → Nat → Bool) {v L j : Nat} (hv : v < n) (hD : dk n f v n v = L + 1) (hj : j < L) :
    G.inquestref15_Find_b2 (rg n f) (lr n (dL n f v n)) (sq n f v L j).2 ((sq n f v L j).1 : Int) ((L - j : Nat) : Int) = some (.inl ((sq n f v L (j + 1)).2, ((sq n f v L (j + 1)).1 : Int), ((L - (j + 1) : Nat) : Int))) := by
  obtain ⟨h1, h2, h3, h4, _⟩ := sq_inv hv hD j (by omega)
  have hLn : L + 1 ≤ n := by rw [← hD]; exact dk_le hv
  obtain ⟨y, hy, e, g1, g2, g3⟩ := sq_step (L := L - j) (by omega) h1 h2
  have hnx := sq_next e
  generalize sq n f v L (j + 1) = s2 at hnx
  subst hnx
  generalize sq n f v L j = s at h1 h2 h3 h4 e g1 g2 g3
  obtain ⟨x, out⟩ := s
  simp only at h1 h2 h3 h4 e g1 g2 g3 ⊢
  have hpos : (0 : Int) < ((L - j : Nat) : Int) := by omega
  have e2 : w64 (((L - j : Nat) : Int) - 1) = ((L - (j + 1) : Nat) : Int) := by rw [w64_id (by omega) (by omega)]; omega
  simp only [G.inquestref15_Find_b2, hpos, decide_true, if_true]
  refine run_exit (fun i => (leastFrom (nq n f v x (L - j)) i (n - i), (n : Int) - i - 1)) n _ (fuel_gt (by omega)) (fun i hi => ?_) ?_ ?_
  · have hz : (n : Int) - i - 1 = ((n - (i + 1) : Nat) : Int) := by omega
    have hz0 : (0 : Int) ≤ ((n - (i + 1) : Nat) : Int) := by omega
    have hzn : n - (i + 1) < n := by omega
    have hw : w64 (((n - (i + 1) : Nat) : Int) - 1) = (n : Int) - ((i + 1 : Nat) : Int) - 1 := by rw [w64_id (by omega) (by omega)]; omega
    have hlf : leastFrom (nq n f v x (L - j)) (i + 1) (n - (i + 1)) = if nq n f v x (L - j) (n - (i + 1)) then ((n - (i + 1) : Nat) : Int) else leastFrom (nq n f v x (L - j)) i (n - i) := by
      conv => lhs; unfold leastFrom
      rw [show n - (i + 1) + 1 = n - i by omega]
    simp only [hz, G.inquestref15_Find_b3, hz0, decide_true, if_true, hlf]
    rw [r12_Has hn f h1 hzn]
    simp only [Option.bind_some]
    cases hf : f x (n - (i + 1)) with
    | false => simp only [Bool.false_eq_true, if_false, G.inquestref15_Find_j7, G.inquestref15_Find_j6, Sh.next, hw, nq, hf, Bool.false_and]
    | true =>
      simp only [if_true, lr_idx _ hzn, Option.bind_some, G.inquestref15_Find_j7, dL, nq, hf, Bool.true_and, Int.ofNat_inj]
      by_cases hd : dk n f v n (n - (i + 1)) = L - j
      · simp only [hd, decide_true, if_true, G.inquestref15_Find_j6, Sh.next, hw]
      · simp only [hd, decide_false, Bool.false_eq_true, if_false, G.inquestref15_Find_j6, Sh.next, hw]
  · have hneg : ¬ (0 : Int) ≤ (n : Int) - (n : Nat) - 1 := by omega
    simp only [G.inquestref15_Find_b3, hneg, decide_false, Bool.false_eq_true, if_false, Nat.sub_self, e, G.inquestref15_Find_j5]
    rw [app_ok (by simp; omega)]
    simp only [Option.bind_some, G.inquestref15_Find_j4, e2]
    rfl
  · have : w64 ((n : Int) - 1) = (n : Int) - ((0 : Nat) : Int) - 1 := by rw [w64_id (by omega) (by omega)]; omega
    rw [← this]
    simp only [leastFrom]

theorem find_both {n : Nat} (hn : n ≤ 64) (f : Nat → Nat → Bool) : ∃ r : List Int, G.cycle_Find (gr n f) = some r ∧ G.inquestref15_Find (rg n f) = some r ∧ r.length ≤ 64 ∧
    (r = [] ∨ ∃ v L : Nat, v < n ∧ dk n f v n v = L + 1 ∧ r.length = L + 1 ∧ r[0]? = some (v : Int)) := by
  have hr : G.inquestref12_Right (rg n f) = some true := by
    rw [r12_Right _ (by simp; omega)]; exact congrArg some (right_rows hn f)
  unfold G.cycle_Find G.inquestref15_Find
  simp only [graph_Turn hn, Option.bind_some, ne_eq, not_true_eq_false, decide_false, Bool.false_eq_true, if_false, hr, Bool.not_true]
  have pskip : ∀ v, v < n → dk n f v n v = 0 → G.cycle_Find_b1 (gr n f) (gr n (turnF f), 0) (v : Int) = some (.inl ((v + 1 : Nat) : Int)) := fun v hv h0 => by
    have hvn : (v : Int) < (n : Int) := by omega
    simp only [G.cycle_Find_b1, hvn, decide_true, if_true, cycle_far hn f hv, Option.bind_some]
    rw [show Sh.whole 64 (List.replicate 64 0) = some (List.replicate 64 0) by simp [Sh.whole], Option.bind_some, ar_whole, Option.bind_some, ar_idx _ (by omega)]
    have : dF n f v n v = 0 := by unfold dF; rw [if_pos hv, h0]; rfl
    simp only [Option.bind_some, this, decide_true, if_true, G.cycle_Find_j2, Sh.next, w64_succ (show v < 9223372036854775807 by omega)]
  have rskip : ∀ v, v < n → dk n f v n v = 0 → G.inquestref15_Find_b1 (rg n f) (v : Int) = some (.inl ((v + 1 : Nat) : Int)) := fun v hv h0 => by
    have hvn : (v : Int) < (n : Int) := by omega
    simp only [G.inquestref15_Find_b1, hvn, decide_true, if_true, r15_far hn f hv, Option.bind_some, lr_idx _ hv]
    have : dL n f v n v = 0 := by unfold dL; rw [h0]; rfl
    simp only [this, decide_true, if_true, G.inquestref15_Find_j2, Sh.next, w64_succ (show v < 9223372036854775807 by omega)]
  by_cases hex : ∃ v, v < n ∧ dk n f v n v ≠ 0
  · obtain ⟨v, ⟨hv, hne⟩, hmin⟩ := exists_least _ hex
    have before : ∀ i, i < v → dk n f i n i = 0 := fun i hi => Classical.byContradiction fun h => by
      have := hmin i ⟨by omega, h⟩; omega
    obtain ⟨L, hL⟩ : ∃ L, dk n f v n v = L + 1 := ⟨dk n f v n v - 1, by omega⟩
    have hLn : L + 1 ≤ n := by rw [← hL]; exact dk_le hv
    obtain ⟨_, _, i3, _, i5⟩ := sq_inv hv hL L (by omega)
    have hvn : (v : Int) < (n : Int) := by omega
    have hne0 : ¬ ((L + 1 : Nat) : Int) = 0 := by omega
    have hw : w64 (((L + 1 : Nat) : Int) - 1) = ((L - 0 : Nat) : Int) := by rw [w64_id (by omega) (by omega)]; omega
    refine ⟨(sq n f v L L).2, ?_, ?_, by omega, .inr ⟨v, L, hv, hL, i3, i5⟩⟩
    · refine run_exit (fun i => (i : Int)) v _ (fuel_gt (by omega)) (fun i hi => pskip i (by omega) (before i hi)) ?_ rfl
      have hd : dF n f v n v = ((L + 1 : Nat) : Int) := by unfold dF; rw [if_pos hv, hL]
      simp only [G.cycle_Find_b1, hvn, decide_true, if_true, cycle_far hn f hv, Option.bind_some]
      rw [show Sh.whole 64 (List.replicate 64 0) = some (List.replicate 64 0) by simp [Sh.whole], Option.bind_some, ar_whole, Option.bind_some, ar_idx _ (by omega)]
      simp only [Option.bind_some, hd, hne0, decide_false, Bool.false_eq_true, if_false]
      simp only [hw]
      refine run_exit (fun j => ((sq n f v L j).2, ((L - j : Nat) : Int))) L _ (fuel_gt (by omega)) (fun j hj => prog_step hn f hv hL hj) ?_ rfl
      simp only [Nat.sub_self, G.cycle_Find_b2, Int.natCast_zero, Int.lt_irrefl, decide_false, Bool.false_eq_true, if_false, G.cycle_Find_j3]
    · refine run_exit (fun i => (i : Int)) v _ (fuel_gt (by omega)) (fun i hi => rskip i (by omega) (before i hi)) ?_ rfl
      have hd : dL n f v n v = ((L + 1 : Nat) : Int) := by unfold dL; rw [hL]
      simp only [G.inquestref15_Find_b1, hvn, decide_true, if_true, r15_far hn f hv, Option.bind_some, lr_idx _ hv, hd, hne0, decide_false, Bool.false_eq_true, if_false, hw]
      refine run_exit (fun j => ((sq n f v L j).2, ((sq n f v L j).1 : Int), ((L - j : Nat) : Int))) L _ (fuel_gt (by omega)) (fun j hj => ref_step hn f hv hL hj) ?_ rfl
      simp only [Nat.sub_self, G.inquestref15_Find_b2, Int.natCast_zero, Int.lt_irrefl, decide_false, Bool.false_eq_true, if_false, G.inquestref15_Find_j3]
  · have before : ∀ i, i < n → dk n f i n i = 0 := fun i hi => Classical.byContradiction fun h => hex ⟨i, hi, h⟩
    refine ⟨[], ?_, ?_, by simp, .inl rfl⟩
    · refine run_exit (fun i => (i : Int)) n _ (fuel_gt (by omega)) (fun i hi => pskip i hi (before i hi)) ?_ rfl
      simp only [G.cycle_Find_b1, Int.lt_irrefl, decide_false, Bool.false_eq_true, if_false, G.cycle_Find_j1]
    · refine run_exit (fun i => (i : Int)) n _ (fuel_gt (by omega)) (fun i hi => rskip i hi (before i hi)) ?_ rfl
      simp only [G.inquestref15_Find_b1, Int.lt_irrefl, decide_false, Bool.false_eq_true, if_false, G.inquestref15_Find_j1]
theorem find_bad (g : G.graph_Graph) (hl : g.Rows.length < 9223372036854775808) (h : rightB g.N g.Rows = false) : G.cycle_Find g = some [] := by
  unfold G.cycle_Find
  simp [graph_Turn_bad g hl h]
theorem r15_find_bad (N : Int) (R : List (BitVec 64)) (hl : R.length < 9223372036854775808) (h : rightB N R = false) : G.inquestref15_Find ⟨N, R⟩ = some [] := by
  unfold G.inquestref15_Find
  simp [r12_Right ⟨N, R⟩ hl, h]
theorem r15_is_bad (N : Int) (R : List (BitVec 64)) (hl : R.length < 9223372036854775808) (h : rightB N R = false) (l : List Int) : G.inquestref15_Is ⟨N, R⟩ l = some false := by
  unfold G.inquestref15_Is
  simp [r12_Right ⟨N, R⟩ hl, h, G.inquestref15_Is_j1]

theorem CycleTells (g : G.graph_Graph) (l : List Int) : G.inquestlaw15_CycleTells g l = some true := by
  unfold G.inquestlaw15_CycleTells
  simp only [awake15, Option.bind_some, Bool.not_true, Bool.false_eq_true, if_false, G.inquestlaw15_plain]
  by_cases h70 : (70 : Int) < Sh.len g.Rows
  · simp only [h70, decide_true, if_true, G.inquestlaw15_CycleTells_j1]
  have hs := short h70
  have hl : g.Rows.length < 9223372036854775808 := by omega
  simp only [h70, decide_false, Bool.false_eq_true, if_false]
  by_cases h100 : (100 : Int) < Sh.len l
  · simp only [h100, decide_true, if_true, G.inquestlaw15_CycleTells_j1]
  have hll : l.length ≤ 100 := by simp only [len_eq] at h100; omega
  simp only [h100, decide_false, G.inquestlaw15_CycleTells_j1, Bool.false_eq_true, if_false, r12_Right ⟨g.N, g.Rows⟩ hl, Option.bind_some]
  cases hr : rightB g.N g.Rows with
  | false =>
    simp [G.inquestlaw15_CycleTells_j2, cycle_Is_bad g hl l (by omega) hr, r15_is_bad _ _ hl hr, find_bad g hl hr, r15_find_bad _ _ hl hr, Ints_eq [] [] (by simp)]
  | true =>
    obtain ⟨n, f, hn, rfl⟩ := right_g hr
    by_cases h12 : (12 : Int) < (n : Int)
    · simp [h12, G.inquestlaw15_CycleTells_j2]
    · obtain ⟨r, e1, e2, e3, _⟩ := find_both hn f
      simp only [if_true, h12, decide_false, G.inquestlaw15_CycleTells_j2, Bool.false_eq_true, if_false, cycle_Is hn f l (by omega), r15_Is hn f l (by omega), Option.bind_some, beq_self_eq_true, e1, e2, Ints_eq r r (by omega), decide_true]

/-- Ways of just so many edges. -/
def pw (n : Nat) (f : Nat → Nat → Bool) : Nat → Nat → Nat → Bool
  | 0 => f
  | k + 1 => compF n (pw n f k) f
theorem pw_wk {n : Nat} {f : Nat → Nat → Bool} : ∀ (k v x : Nat), v < n → x < n → pw n f k x v = wk n f v (k + 1) x := by
  intro k
  induction k with
  | zero => intro v x hv hx; rw [wk_one hv]; rfl
  | succ k ih =>
    intro v x hv hx
    rw [Bool.eq_iff_iff, wk_snoc hv (k + 1) x hx]
    unfold pw compF
    simp only [List.any_eq_true, List.mem_range, Bool.and_eq_true]
    constructor
    · rintro ⟨z, hz, h1, h2⟩; exact ⟨z, hz, by rw [← ih z x hz hx]; exact h1, h2⟩
    · rintro ⟨z, hz, h1, h2⟩; exact ⟨z, hz, by rw [ih z x hz hx]; exact h1, h2⟩
theorem CycleShort (g : G.graph_Graph) : G.inquestlaw15_CycleShort g = some true := by
  unfold G.inquestlaw15_CycleShort
  simp only [awake15, Option.bind_some, Bool.not_true, Bool.false_eq_true, if_false]
  by_cases h24 : (24 : Int) < Sh.len g.Rows
  · simp only [h24, decide_true, if_true]
  have hl : g.Rows.length < 9223372036854775808 := by simp only [len_eq] at h24; omega
  simp only [h24, decide_false, Bool.false_eq_true, if_false]
  cases hr : rightB g.N g.Rows with
  | false => simp [find_bad g hl hr, Sh.len]
  | true =>
    obtain ⟨n, f, hn, rfl⟩ := right_g hr
    obtain ⟨r, e1, _, e3, h | ⟨v, L, hv, hD, hrl, hr0⟩⟩ := find_both hn f
    · subst h; simp [e1, Sh.len]
    · have h0 : 0 < r.length := by omega
      have hr0' : r[0] = (v : Int) := by rw [List.getElem?_eq_getElem h0] at hr0; exact Option.some.inj hr0
      have i0 : Sh.idx r 0 = some (v : Int) := by
        have := idx_at h0
        rw [hr0'] at this; exact this
      have hne : ¬ (r.length : Int) = 0 := by omega
      have hv0 : dk n f v n v ≠ 0 := by omega
      obtain ⟨d1, d2, d3⟩ := dk_pos n hv0
      rw [hD] at d1 d3
      simp only [e1, Option.bind_some, len_eq, hne, decide_false, Bool.false_eq_true, if_false]
      refine run_exit (fun j => (gr n (pw n f j), ((j + 1 : Nat) : Int))) L _ (fuel_gt (by omega)) (fun j hj => ?_) ?_ rfl
      · have hjr : ((j + 1 : Nat) : Int) < (r.length : Int) := by omega
        have hno : pw n f j v v = false := by rw [pw_wk j v v hv hv]; exact d3 (j + 1) (by omega) (by omega)
        simp only [G.inquestlaw15_CycleShort_b1, len_eq, hjr, decide_true, if_true, i0, Option.bind_some, graph_Has hn, hasB_nat hv hv, hno, Bool.false_eq_true, if_false, graph_Compose hn, ne_eq, not_true_eq_false, decide_false, Sh.next, w64_succ (show j + 1 < 9223372036854775807 by omega)]
        rfl
      · have hjr : ¬ ((L + 1 : Nat) : Int) < (r.length : Int) := by omega
        have hyes : pw n f L v v = true := by rw [pw_wk L v v hv hv]; exact d1
        simp only [G.inquestlaw15_CycleShort_b1, len_eq, hjr, decide_false, Bool.false_eq_true, if_false, G.inquestlaw15_CycleShort_j1, i0, Option.bind_some, graph_Has hn, hasB_nat hv hv, hyes]
end Pl
end
