/- Sets of numbers as bits: plain facts on 64 bits. -/
namespace Bv

theorem odd_part : ∀ x : Nat, 0 < x → ∃ k m, x = 2 ^ k * (2 * m + 1) := by
  intro x
  induction x using Nat.strongRecOn with
  | _ x ih =>
    intro hx
    rcases Nat.mod_two_eq_zero_or_one x with h | h
    · obtain ⟨k, m, hk⟩ := ih (x / 2) (by omega) (by omega)
      refine ⟨k + 1, m, ?_⟩
      rw [Nat.pow_succ, Nat.mul_assoc, Nat.mul_comm 2, ← Nat.mul_assoc, ← hk]; omega
    · exact ⟨0, x / 2, by simp; omega⟩

theorem tb (k a b i : Nat) (hb : b < 2 ^ k) : (2 ^ k * a + b).testBit i = if i < k then b.testBit i else a.testBit (i - k) := Nat.testBit_two_pow_mul_add a hb i

theorem tb_odd (k m i : Nat) : (2 ^ k * (2 * m + 1)).testBit i = if i < k then false else if i = k then true else m.testBit (i - k - 1) := by
  have h := tb k (2 * m + 1) 0 i (Nat.two_pow_pos k)
  rw [Nat.add_zero] at h
  rw [h]
  by_cases h1 : i < k
  · simp [h1]
  · rw [if_neg h1, if_neg h1]
    by_cases h2 : i = k
    · subst h2; simp
    · rw [if_neg h2]
      have h3 := tb 1 m 1 (i - k) (by decide)
      rw [Nat.pow_one] at h3
      rw [h3, if_neg (by omega)]

/-- The least bit, the one that is taken away, and what is left. -/
theorem low (x : Nat) (hx : 0 < x) (hlt : x < 2 ^ 64) : ∃ k, k < 64 ∧ x.testBit k = true ∧ (∀ i, i < k → x.testBit i = false) ∧ (∀ i, (x &&& (x - 1)).testBit i = (x.testBit i && decide (i ≠ k))) ∧ x &&& (2 ^ 64 - x) = 2 ^ k := by
  obtain ⟨k, m, rfl⟩ := odd_part x hx
  have hk : k < 64 := by
    rcases Nat.lt_or_ge k 64 with h | h
    · exact h
    · have : 2 ^ 64 ≤ 2 ^ k := Nat.pow_le_pow_right (by decide) h
      have : 2 ^ k * 1 ≤ 2 ^ k * (2 * m + 1) := Nat.mul_le_mul_left _ (by omega)
      omega
  refine ⟨k, hk, by rw [tb_odd]; simp, fun i hi => by rw [tb_odd, if_pos hi], fun i => ?_, ?_⟩
  · have h1 : 2 ^ k * (2 * m + 1) - 1 = 2 ^ k * (2 * m) + (2 ^ k - 1) := by
      have := Nat.two_pow_pos k
      rw [Nat.mul_add, Nat.mul_one]; omega
    rw [Nat.testBit_and, h1, tb k (2 * m) (2 ^ k - 1) i (by have := Nat.two_pow_pos k; omega), tb_odd]
    by_cases h2 : i < k
    · simp [h2]
    · rw [if_neg h2, if_neg h2]
      by_cases h3 : i = k
      · subst h3; simp
      · rw [if_neg h3]
        have h4 := tb 1 m 0 (i - k) (by decide)
        rw [Nat.pow_one, Nat.add_zero] at h4
        rw [h4, if_neg (by omega)]
        simp [h3]
  · have hle : 2 * m + 1 ≤ 2 ^ (64 - k) := by
      rcases Nat.lt_or_ge (2 ^ (64 - k)) (2 * m + 1) with h | h
      · have h5 : 2 ^ k * 2 ^ (64 - k) < 2 ^ k * (2 * m + 1) := Nat.mul_lt_mul_of_pos_left h (Nat.two_pow_pos k)
        rw [← Nat.pow_add, show k + (64 - k) = 64 by omega] at h5
        omega
      · exact h
    have h1 : 2 ^ 64 - 2 ^ k * (2 * m + 1) = 2 ^ k * (2 ^ (64 - k) - (2 * m + 1)) := by
      rw [Nat.mul_sub, ← Nat.pow_add, show k + (64 - k) = 64 by omega]
    rw [h1]
    apply Nat.eq_of_testBit_eq
    intro i
    rw [Nat.testBit_and, tb_odd, Nat.testBit_two_pow]
    have h2 := tb k (2 ^ (64 - k) - (2 * m + 1)) 0 i (Nat.two_pow_pos k)
    rw [Nat.add_zero] at h2
    rw [h2]
    by_cases h3 : i < k
    · rw [if_pos h3, if_pos h3]; simp; omega
    · rw [if_neg h3, if_neg h3]
      have h4 : (2 ^ (64 - k) - (2 * m + 1)).testBit (i - k) = (decide (i - k < 64 - k) && !(2 * m).testBit (i - k)) := Nat.testBit_two_pow_sub_succ (by omega) _
      rw [h4]
      by_cases h5 : i = k
      · subst h5
        simp
        omega
      · rw [if_neg h5]
        have h6 := tb 1 m 0 (i - k) (by decide)
        rw [Nat.pow_one, Nat.add_zero] at h6
        rw [h6, if_neg (by omega)]
        have : ¬ k = i := fun h => h5 h.symm
        simp [this]
        exact fun h _ => h

/-- The numbers of a set, rising. -/
def list (s : BitVec 64) : List Nat := (List.range 64).filter fun i => s.getLsbD i

def has (s : BitVec 64) (i : Int) : Bool := decide (0 ≤ i) && decide (i < 64) && s.getLsbD i.toNat
def bit (i : Int) : BitVec 64 := if 0 ≤ i ∧ i < 64 then 1#64 <<< i.toNat else 0#64
def least (s : BitVec 64) : Int := match list s with | [] => -1 | i :: _ => i
def ctz (s : BitVec 64) : Nat := match list s with | [] => 64 | i :: _ => i

theorem mem_list {s : BitVec 64} {i : Nat} : i ∈ list s ↔ s.getLsbD i = true := by
  simp only [list, List.mem_filter, List.mem_range]
  constructor
  · exact fun h => h.2
  · intro h
    refine ⟨?_, h⟩
    rcases Nat.lt_or_ge i 64 with h1 | h1
    · exact h1
    · rw [BitVec.getLsbD_of_ge _ _ h1] at h; cases h

theorem list_sorted (s : BitVec 64) : (list s).Pairwise (· < ·) := (List.pairwise_lt_range).filter _

theorem list_zero : list 0#64 = [] := by decide

/-- Lists that rise and hold the same are the same. -/
theorem sorted_ext : ∀ {l m : List Nat}, l.Pairwise (· < ·) → m.Pairwise (· < ·) → (∀ i, i ∈ l ↔ i ∈ m) → l = m
  | [], [], _, _, _ => rfl
  | [], y :: m, _, _, h => by have := (h y).2 (List.mem_cons_self ..); cases this
  | x :: l, [], _, _, h => by have := (h x).1 (List.mem_cons_self ..); cases this
  | x :: l, y :: m, hl, hm, h => by
    rw [List.pairwise_cons] at hl hm
    have hxy : x = y := by
      have h1 := (h x).1 (List.mem_cons_self ..)
      have h2 := (h y).2 (List.mem_cons_self ..)
      rcases List.mem_cons.1 h1 with h1 | h1
      · exact h1
      · rcases List.mem_cons.1 h2 with h2 | h2
        · exact h2.symm
        · have := hl.1 y h2; have := hm.1 x h1; omega
    subst hxy
    rw [sorted_ext hl.2 hm.2 (fun i => ?_)]
    constructor
    · intro hi
      rcases List.mem_cons.1 ((h i).1 (List.mem_cons_of_mem _ hi)) with rfl | h1
      · exact absurd (hl.1 i hi) (Nat.lt_irrefl _)
      · exact h1
    · intro hi
      rcases List.mem_cons.1 ((h i).2 (List.mem_cons_of_mem _ hi)) with rfl | h1
      · exact absurd (hm.1 i hi) (Nat.lt_irrefl _)
      · exact h1

theorem low_bv (s : BitVec 64) (h : s ≠ 0#64) : ∃ k, k < 64 ∧ s.getLsbD k = true ∧ (∀ i, i < k → s.getLsbD i = false) ∧ (∀ i, (s &&& (s - 1#64)).getLsbD i = (s.getLsbD i && decide (i ≠ k))) ∧ s &&& -s = 1#64 <<< k := by
  have hx : 0 < s.toNat := by
    rcases Nat.eq_zero_or_pos s.toNat with h1 | h1
    · exact absurd (BitVec.eq_of_toNat_eq (by simpa using h1)) h
    · exact h1
  obtain ⟨k, h1, h2, h3, h4, h5⟩ := low s.toNat hx s.isLt
  have e1 : (s - 1#64).toNat = s.toNat - 1 := by
    rw [BitVec.toNat_sub]
    have := s.isLt
    simp
    omega
  refine ⟨k, h1, by rw [← BitVec.testBit_toNat]; exact h2, fun i hi => by rw [← BitVec.testBit_toNat]; exact h3 i hi, fun i => ?_, ?_⟩
  · rw [← BitVec.testBit_toNat, BitVec.toNat_and, e1, h4, BitVec.testBit_toNat]
  · apply BitVec.eq_of_toNat_eq
    have e2 : (-s).toNat = 2 ^ 64 - s.toNat := by
      rw [BitVec.toNat_neg, Nat.mod_eq_of_lt (by omega)]
    rw [BitVec.toNat_and, e2, h5]
    have : 2 ^ k < 2 ^ 64 := Nat.pow_lt_pow_right (by decide) h1
    simp [Nat.shiftLeft_eq]
    omega

/-- A set's least number, and the rest. -/
theorem list_cons (s : BitVec 64) (h : s ≠ 0#64) : list s = ctz s :: list (s &&& (s - 1#64)) ∧ ctz s < 64 ∧ s &&& -s = 1#64 <<< ctz s := by
  obtain ⟨k, h1, h2, h3, h4, h5⟩ := low_bv s h
  have key : list s = k :: list (s &&& (s - 1#64)) := by
    refine sorted_ext (list_sorted s) ?_ (fun i => ?_)
    · rw [List.pairwise_cons]
      refine ⟨fun i hi => ?_, list_sorted _⟩
      rw [mem_list, h4] at hi
      simp only [Bool.and_eq_true, decide_eq_true_eq] at hi
      rcases Nat.lt_or_ge i k with h6 | h6
      · rw [h3 i h6] at hi; cases hi.1
      · omega
    · rw [mem_list, List.mem_cons, mem_list, h4]
      simp only [Bool.and_eq_true, decide_eq_true_eq]
      constructor
      · intro hi
        by_cases hik : i = k
        · exact .inl hik
        · exact .inr ⟨hi, hik⟩
      · rintro (rfl | hi)
        · exact h2
        · exact hi.1
  have hc : ctz s = k := by simp [ctz, key]
  exact ⟨by rw [hc]; exact key, by rw [hc]; exact h1, by rw [hc]; exact h5⟩

theorem list_nil {s : BitVec 64} (h : list s = []) : s = 0#64 := by
  by_cases hs : s = 0#64
  · exact hs
  · have := (list_cons s hs).1
    rw [h] at this; cases this

theorem least_ctz (s : BitVec 64) (h : s ≠ 0#64) : least s = ctz s := by
  have := (list_cons s h).1
  unfold least
  rw [this]

theorem list_length_le (s : BitVec 64) : (list s).length ≤ 64 := by
  have := List.length_filter_le (fun i => s.getLsbD i) (List.range 64)
  simpa [list] using this

theorem ext {s t : BitVec 64} (h : ∀ i, i < 64 → s.getLsbD i = t.getLsbD i) : s = t := BitVec.eq_of_getLsbD_eq (fun i hi => h i hi)

def dB : BitVec 64 := 0x03f79d71b4ca8b09#64
def tab : List Nat := [0, 1, 56, 2, 57, 49, 28, 3, 61, 58, 42, 50, 38, 29, 17, 4, 62, 47, 59, 36, 45, 43, 51, 22, 53, 39, 33, 30, 24, 18, 12, 5, 63, 55, 48, 27, 60, 41, 37, 16, 46, 35, 44, 21, 52, 32, 23, 11, 54, 26, 40, 15, 34, 20, 31, 10, 25, 14, 19, 9, 13, 8, 7, 6]
theorem tab_ok : ∀ k : Fin 64, tab[(((1#64 <<< k.val) * dB) >>> 58).toNat]? = some k.val := by decide

end Bv
