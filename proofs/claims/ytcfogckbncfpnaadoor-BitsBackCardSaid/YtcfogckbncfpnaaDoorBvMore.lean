/- More plain facts of sets as bits. -/
import Derived.Test.YtcfogckbncfpnaaDoorBvMath
namespace Bv

theorem has_of {s : BitVec 64} {k : Nat} (h : k < 64) : has s (k : Int) = s.getLsbD k := by
  have h1 : (0 : Int) ≤ (k : Int) := by omega
  have h2 : (k : Int) < 64 := by omega
  simp [has, h1, h2]
theorem has_out {s : BitVec 64} {i : Int} (h : ¬ (0 ≤ i ∧ i ≤ 63)) : has s i = false := by
  unfold has
  by_cases h0 : 0 ≤ i
  · have : ¬ i < 64 := by omega
    simp [this]
  · simp [h0]
theorem bit_out {i : Int} (h : ¬ (0 ≤ i ∧ i ≤ 63)) : bit i = 0#64 := if_neg (by omega)
theorem bit_of {k : Nat} (h : k < 64) : bit (k : Int) = 1#64 <<< k := by
  unfold bit
  rw [if_pos (by omega)]
  rfl
theorem bit_get {k : Nat} (h : k < 64) (j : Nat) : (1#64 <<< k).getLsbD j = decide (j = k) := by
  simp only [BitVec.getLsbD_shiftLeft]
  by_cases hj : j = k
  · subst hj; simp [h]
  · by_cases h1 : j < k
    · simp [h1, hj]
    · have : j - k ≠ 0 := by omega
      simp [hj, h1, this]
theorem one_shl_toNat {k : Nat} (h : k < 64) : (1#64 <<< k).toNat = 2 ^ k := by
  have : 2 ^ k < 2 ^ 64 := Nat.pow_lt_pow_right (by decide) h
  simp [Nat.shiftLeft_eq]
  omega
theorem shl_ne {k : Nat} (h : k < 64) : 1#64 <<< k ≠ 0#64 := fun he => by
  have := one_shl_toNat h
  rw [he] at this
  have h2 : 0 < 2 ^ k := Nat.two_pow_pos k
  simp at this; omega

theorem quo_rem {s : BitVec 64} {k : Nat} (h : k < 64) : (s / (1#64 <<< k)) % 2#64 = 1#64 ↔ s.getLsbD k = true := by
  rw [← BitVec.testBit_toNat, Nat.testBit_eq_decide_div_mod_eq, decide_eq_true_eq]
  constructor
  · intro he
    have := congrArg BitVec.toNat he
    rw [BitVec.toNat_umod, BitVec.toNat_udiv, one_shl_toNat h] at this
    simpa using this
  · intro he
    apply BitVec.eq_of_toNat_eq
    rw [BitVec.toNat_umod, BitVec.toNat_udiv, one_shl_toNat h]
    simpa using he

theorem add_bit {s : BitVec 64} {k : Nat} (h : k < 64) (hs : s.getLsbD k = false) : s + 1#64 <<< k = s ||| 1#64 <<< k :=
  BitVec.add_eq_or_of_and_eq_zero _ _ (BitVec.eq_of_getLsbD_eq fun i hi => by
    rw [BitVec.getLsbD_and, bit_get h]
    by_cases hik : i = k
    · subst hik; simp [hs]
    · simp [hik])
theorem or_bit {s : BitVec 64} {k : Nat} (h : k < 64) (hs : s.getLsbD k = true) : s ||| 1#64 <<< k = s :=
  BitVec.eq_of_getLsbD_eq fun i hi => by
    rw [BitVec.getLsbD_or, bit_get h]
    by_cases hik : i = k
    · subst hik; simp [hs]
    · simp [hik]

/-- A set's numbers below k. -/
def pre (s : BitVec 64) (k : Nat) : List Nat := (List.range k).filter fun i => s.getLsbD i
theorem pre_t {s : BitVec 64} {k : Nat} (h : s.getLsbD k = true) : pre s (k + 1) = pre s k ++ [k] := by simp [pre, List.range_succ, List.filter_append, h]
theorem pre_f {s : BitVec 64} {k : Nat} (h : s.getLsbD k = false) : pre s (k + 1) = pre s k := by simp [pre, List.range_succ, List.filter_append, h]
theorem pre_len (s : BitVec 64) (k : Nat) : (pre s k).length ≤ k := by
  have := List.length_filter_le (fun i => s.getLsbD i) (List.range k)
  simpa [pre] using this

def joinB (l : List (BitVec 64)) : BitVec 64 := l.foldl (· ||| ·) 0#64
theorem take_join (l : List (BitVec 64)) (k : Nat) (h : k < l.length) : joinB (l.take (k+1)) = joinB (l.take k) ||| l[k] := by
  unfold joinB
  rw [List.take_succ_eq_append_getElem h, List.foldl_append]; rfl

theorem foldl_or_get : ∀ (l : List Nat) (a : BitVec 64) (i : Nat), (∀ k ∈ l, k < 64) → (l.foldl (fun (s : BitVec 64) (k : Nat) => s ||| bit (k : Int)) a).getLsbD i = (a.getLsbD i || decide (i ∈ l))
  | [], a, i, _ => by simp
  | k :: l, a, i, h => by
    rw [List.foldl_cons, foldl_or_get l _ i (fun q hq => h q (List.mem_cons_of_mem _ hq)), BitVec.getLsbD_or, bit_of (h k (List.mem_cons_self ..)), bit_get (h k (List.mem_cons_self ..))]
    by_cases hik : i = k
    · subst hik; simp
    · simp [hik]
theorem list_lt {s : BitVec 64} : ∀ k ∈ list s, k < 64 := fun k hk => by
  have := mem_list.1 hk
  rcases Nat.lt_or_ge k 64 with h | h
  · exact h
  · rw [BitVec.getLsbD_of_ge _ _ h] at this; cases this
theorem foldl_list (a t : BitVec 64) : (list t).foldl (fun (s : BitVec 64) (k : Nat) => s ||| bit (k : Int)) a = a ||| t :=
  BitVec.eq_of_getLsbD_eq fun i _ => by
    rw [foldl_or_get _ _ _ list_lt, BitVec.getLsbD_or]
    congr 1
    by_cases h : t.getLsbD i = true
    · rw [h]; simp [mem_list, h]
    · simp only [Bool.not_eq_true] at h
      rw [h]; simp [mem_list, h]

theorem sub_iff (a b : BitVec 64) : a &&& ~~~b = 0#64 ↔ ∀ k ∈ list a, has b (k : Int) = true := by
  constructor
  · intro h k hk
    have hlt := list_lt k hk
    rw [has_of hlt]
    have := congrArg (fun x => BitVec.getLsbD x k) h
    simp only [BitVec.getLsbD_and, BitVec.getLsbD_not, mem_list.1 hk, hlt, decide_true, Bool.true_and, BitVec.getLsbD_zero] at this
    simpa using this
  · intro h
    refine BitVec.eq_of_getLsbD_eq fun i hi => ?_
    rw [BitVec.getLsbD_and, BitVec.getLsbD_not]
    by_cases ha : a.getLsbD i = true
    · have := h i (mem_list.2 ha)
      rw [has_of hi] at this
      simp [this]
    · simp only [Bool.not_eq_true] at ha
      simp [ha]
theorem sub_join (a b : BitVec 64) : a &&& ~~~b = 0#64 ↔ a ||| b = b := by
  constructor
  · intro h
    refine BitVec.eq_of_getLsbD_eq fun i hi => ?_
    have := congrArg (fun x => BitVec.getLsbD x i) h
    simp only [BitVec.getLsbD_and, BitVec.getLsbD_not, hi, decide_true, Bool.true_and, BitVec.getLsbD_zero] at this
    rw [BitVec.getLsbD_or]
    cases ha : a.getLsbD i <;> cases hb : b.getLsbD i <;> simp_all
  · intro h
    refine BitVec.eq_of_getLsbD_eq fun i hi => ?_
    have := congrArg (fun x => BitVec.getLsbD x i) h
    rw [BitVec.getLsbD_or] at this
    rw [BitVec.getLsbD_and, BitVec.getLsbD_not]
    cases ha : a.getLsbD i <;> cases hb : b.getLsbD i <;> simp_all

theorem foldl_or (l : List (BitVec 64)) : ∀ a, l.foldl (· ||| ·) a = a ||| joinB l := by
  induction l with
  | nil => intro a; simp [joinB]
  | cons x l ih => intro a; unfold joinB; rw [List.foldl_cons, List.foldl_cons, ih, ih (0#64 ||| x)]; simp [BitVec.or_assoc]
theorem joinB_cons (x : BitVec 64) (l : List (BitVec 64)) : joinB (x :: l) = x ||| joinB l := by
  show (x :: l).foldl (· ||| ·) 0#64 = _; rw [List.foldl_cons, foldl_or]; simp
theorem joinB_append (l m : List (BitVec 64)) : joinB (l ++ m) = joinB l ||| joinB m := by
  unfold joinB; rw [List.foldl_append, foldl_or]; rfl
theorem joinB_reverse (l : List (BitVec 64)) : joinB l.reverse = joinB l := by
  induction l with
  | nil => rfl
  | cons x l ih => rw [List.reverse_cons, joinB_append, ih, joinB_cons, joinB_cons x l, show joinB [] = 0#64 from rfl, BitVec.or_zero, BitVec.or_comm]
theorem sub_joinB {l : List (BitVec 64)} {x : BitVec 64} (h : x ∈ l) : x &&& ~~~(joinB l) = 0#64 := by
  rw [sub_join]
  induction l with
  | nil => cases h
  | cons y l ih =>
    rw [joinB_cons]
    rcases List.mem_cons.1 h with rfl | h
    · rw [← BitVec.or_assoc, BitVec.or_self]
    · rw [← BitVec.or_assoc, BitVec.or_comm x y, BitVec.or_assoc, ih h]
theorem shl_succ (k : Nat) : 1#64 <<< (k + 1) = 1#64 <<< k + 1#64 <<< k := by
  apply BitVec.eq_of_toNat_eq
  rw [BitVec.toNat_add]
  simp [Nat.shiftLeft_eq, Nat.pow_succ]
  omega
theorem with3 (s : BitVec 64) (i : Int) : has s i = true ∨ (has s i = false ∧ ¬ (0 ≤ i ∧ i ≤ 63)) ∨ ∃ k : Nat, k < 64 ∧ has s i = false ∧ i = (k : Int) ∧ s.getLsbD k = false := by
  cases h : has s i
  · by_cases ho : 0 ≤ i ∧ i ≤ 63
    · obtain ⟨k, rfl⟩ := Int.eq_ofNat_of_zero_le ho.1
      have hk : k < 64 := by omega
      exact .inr (.inr ⟨k, hk, rfl, rfl, by rw [← has_of hk]; exact h⟩)
    · exact .inr (.inl ⟨rfl, ho⟩)
  · exact .inl rfl
theorem has_or {s : BitVec 64} {i : Int} (h : has s i = true) : s ||| bit i = s := by
  by_cases ho : 0 ≤ i ∧ i ≤ 63
  · obtain ⟨k, rfl⟩ := Int.eq_ofNat_of_zero_le ho.1
    have hk : k < 64 := by omega
    rw [bit_of hk]
    exact or_bit hk (by rw [← has_of hk]; exact h)
  · rw [has_out ho] at h; cases h
theorem list_pre (s : BitVec 64) : list s = pre s 64 := rfl
theorem shr_lt (x : BitVec 64) : (x >>> 58).toNat < 64 := by
  rw [BitVec.toNat_ushiftRight, Nat.shiftRight_eq_div_pow]
  have := x.isLt
  omega
theorem acc_len {l : List Nat} {r s : BitVec 64} (h : l ++ list r = list s) : l.length ≤ 64 := by
  have h1 := congrArg List.length h
  have h2 := list_length_le s
  simp only [List.length_append] at h1
  omega
def orAll (l : List Int) : BitVec 64 := l.foldl (fun (s : BitVec 64) (i : Int) => s ||| bit i) 0#64
def ofS (l : List Int) : BitVec 64 × Int := if l.all (fun i => decide (bit i ≠ 0#64)) = true then (orAll l, 0) else (0#64, 1)
theorem orAll_take (l : List Int) (k : Nat) (h : k < l.length) : orAll (l.take (k+1)) = orAll (l.take k) ||| bit l[k] := by
  unfold orAll
  rw [List.take_succ_eq_append_getElem h, List.foldl_append]; rfl
theorem ofS_ok {l : List Int} (h : ∀ j, (hj : j < l.length) → bit l[j] ≠ 0#64) : ofS l = (orAll l, 0) := by
  unfold ofS
  rw [if_pos]
  rw [List.all_eq_true]
  intro x hx
  obtain ⟨j, hj, rfl⟩ := List.mem_iff_getElem.1 hx
  exact decide_eq_true (h j hj)
theorem ofS_no {l : List Int} {k : Nat} (hk : k < l.length) (h : bit l[k] = 0#64) : ofS l = (0#64, 1) := by
  unfold ofS
  rw [if_neg]
  intro ha
  have := List.all_eq_true.1 ha _ (List.getElem_mem hk)
  exact of_decide_eq_true this h
theorem rev_take {l : List (BitVec 64)} {k : Nat} (h : k < l.length) : l.reverse.take (k + 1) = l.reverse.take k ++ [l[l.length - 1 - k]] := by
  rw [List.take_succ_eq_append_getElem (by simpa using h), List.getElem_reverse]
theorem sub_two (a b : BitVec 64) : a &&& ~~~b = 0#64 ↔ joinB [a, b] = b := by
  rw [sub_join]
  show _ ↔ (0#64 ||| a) ||| b = b
  rw [BitVec.zero_or]
end Bv
