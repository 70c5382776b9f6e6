/- How many numbers a set has: the sum of the bits, by fields that grow. -/
import Derived.Test.YtcfogckbncfpnaaDoorBvMore
namespace Bv

def num (b : Nat) : List Nat → Nat
  | [] => 0
  | d :: ds => d + 2 ^ b * num b ds

def numP (b : Nat) : List (Nat × Nat) → Nat
  | [] => 0
  | p :: ps => (p.1 + 2 ^ b * p.2) + 2 ^ (2 * b) * numP b ps

def mask (b : Nat) : Nat → Nat
  | 0 => 0
  | n + 1 => (2 ^ b - 1) + 2 ^ (2 * b) * mask b n

theorem and_split {k a c x y : Nat} (ha : a < 2 ^ k) (hc : c < 2 ^ k) : (a + 2 ^ k * x) &&& (c + 2 ^ k * y) = (a &&& c) + 2 ^ k * (x &&& y) := by
  apply Nat.eq_of_testBit_eq
  intro i
  have hac : a &&& c < 2 ^ k := Nat.lt_of_le_of_lt Nat.and_le_left ha
  rw [Nat.testBit_and, Nat.add_comm a, Nat.add_comm c, Nat.add_comm (a &&& c), tb k x a i ha, tb k y c i hc, tb k (x &&& y) (a &&& c) i hac]
  split
  · rw [Nat.testBit_and]
  · rw [Nat.testBit_and]

theorem mod_low {b p q : Nat} (hp : p < 2 ^ b) : (p + 2 ^ b * q) &&& (2 ^ b - 1) = p := by
  rw [Nat.and_two_pow_sub_one_eq_mod, Nat.add_mul_mod_self_left, Nat.mod_eq_of_lt hp]

theorem two_b (b : Nat) : 2 ^ (2 * b) = 2 ^ b * 2 ^ b := by rw [Nat.two_mul, Nat.pow_add]

theorem pair_lt {b p q : Nat} (hp : p < 2 ^ b) (hq : q < 2 ^ b) : p + 2 ^ b * q < 2 ^ (2 * b) := by
  rw [two_b]
  have : 2 ^ b * q + 2 ^ b ≤ 2 ^ b * 2 ^ b := by
    rw [← Nat.mul_succ]
    exact Nat.mul_le_mul_left _ hq
  omega

theorem mask_lt (b : Nat) : 2 ^ b - 1 < 2 ^ (2 * b) := by
  rw [two_b]
  have h1 : 0 < 2 ^ b := Nat.two_pow_pos b
  have : 2 ^ b * 1 ≤ 2 ^ b * 2 ^ b := Nat.mul_le_mul_left _ h1
  omega

theorem pick_low {b n p q S : Nat} (hp : p < 2 ^ b) (hq : q < 2 ^ b) : ((p + 2 ^ b * q) + 2 ^ (2 * b) * S) &&& mask b (n + 1) = p + 2 ^ (2 * b) * (S &&& mask b n) := by
  show _ &&& ((2 ^ b - 1) + 2 ^ (2 * b) * mask b n) = _
  rw [and_split (pair_lt hp hq) (mask_lt b), mod_low hp]

def Small (b : Nat) (ps : List (Nat × Nat)) : Prop := ∀ p ∈ ps, p.1 < 2 ^ b ∧ p.2 < 2 ^ b

theorem even_digits {b : Nat} : ∀ ps : List (Nat × Nat), Small b ps → numP b ps &&& mask b ps.length = num (2 * b) (ps.map (·.1))
  | [], _ => by simp [numP, num]
  | p :: ps, h => by
    show ((p.1 + 2 ^ b * p.2) + 2 ^ (2 * b) * numP b ps) &&& mask b (ps.length + 1) = p.1 + 2 ^ (2 * b) * num (2 * b) (ps.map (·.1))
    obtain ⟨h1, h2⟩ := h p (List.mem_cons_self ..)
    rw [pick_low h1 h2, even_digits ps (fun q hq => h q (List.mem_cons_of_mem _ hq))]

theorem shr_cons {b : Nat} {p : Nat × Nat} {R : Nat} (h1 : p.1 < 2 ^ b) : ((p.1 + 2 ^ b * p.2) + 2 ^ (2 * b) * R) >>> b = (p.2 + 2 ^ b * (R % 2 ^ b)) + 2 ^ (2 * b) * (R >>> b) := by
  rw [Nat.shiftRight_eq_div_pow, Nat.shiftRight_eq_div_pow, two_b, Nat.mul_assoc, Nat.add_assoc, ← Nat.mul_add, Nat.add_mul_div_left _ _ (Nat.two_pow_pos b), Nat.div_eq_of_lt h1, Nat.zero_add, Nat.mul_assoc, Nat.add_assoc, ← Nat.mul_add, Nat.mod_add_div]

theorem odd_digits {b : Nat} : ∀ ps : List (Nat × Nat), Small b ps → numP b ps >>> b &&& mask b ps.length = num (2 * b) (ps.map (·.2))
  | [], _ => by simp [numP, num]
  | p :: ps, h => by
    show ((p.1 + 2 ^ b * p.2) + 2 ^ (2 * b) * numP b ps) >>> b &&& mask b (ps.length + 1) = p.2 + 2 ^ (2 * b) * num (2 * b) (ps.map (·.2))
    obtain ⟨h1, h2⟩ := h p (List.mem_cons_self ..)
    rw [shr_cons h1, pick_low h2 (Nat.mod_lt _ (Nat.two_pow_pos b)), odd_digits ps (fun q hq => h q (List.mem_cons_of_mem _ hq))]

theorem num_add {b : Nat} : ∀ ps : List (Nat × Nat), num b (ps.map (·.2)) + num b (ps.map (·.1)) = num b (ps.map fun p => p.1 + p.2)
  | [] => rfl
  | p :: ps => by
    show (p.2 + 2 ^ b * num b (ps.map (·.2))) + (p.1 + 2 ^ b * num b (ps.map (·.1))) = (p.1 + p.2) + 2 ^ b * num b (ps.map fun p => p.1 + p.2)
    rw [← num_add ps, Nat.mul_add]
    omega

/-- One round: the fields' sums, in fields twice as wide. -/
theorem round {b : Nat} (ps : List (Nat × Nat)) (h : Small b ps) : (numP b ps >>> b &&& mask b ps.length) + (numP b ps &&& mask b ps.length) = num (2 * b) (ps.map fun p => p.1 + p.2) := by
  rw [even_digits ps h, odd_digits ps h, num_add]

theorem mod_first {b : Nat} : ∀ ps : List (Nat × Nat), Small b ps → ∀ c, (∀ p ∈ ps, p.1 ≤ c) → numP b ps % 2 ^ b ≤ c
  | [], _, c, _ => by simp [numP]
  | p :: ps, h, c, hc => by
    show ((p.1 + 2 ^ b * p.2) + 2 ^ (2 * b) * numP b ps) % 2 ^ b ≤ c
    rw [two_b, Nat.mul_assoc, Nat.add_assoc, ← Nat.mul_add, Nat.add_mul_mod_self_left, Nat.mod_eq_of_lt (h p (List.mem_cons_self ..)).1]
    exact hc p (List.mem_cons_self ..)

/-- The same where the sum is taken first. -/
theorem round' {b c : Nat} (hc : 2 * c < 2 ^ b) : ∀ ps : List (Nat × Nat), (∀ p ∈ ps, p.1 ≤ c ∧ p.2 ≤ c) → (numP b ps >>> b + numP b ps) &&& mask b ps.length = num (2 * b) (ps.map fun p => p.1 + p.2)
  | [], _ => by simp [numP, num]
  | p :: ps, h => by
    have hs : ∀ q ∈ p :: ps, q.1 < 2 ^ b ∧ q.2 < 2 ^ b := fun q hq => by have := h q hq; omega
    obtain ⟨h1, h2⟩ := h p (List.mem_cons_self ..)
    have hm := mod_first ps (fun q hq => hs q (List.mem_cons_of_mem _ hq)) c (fun q hq => (h q (List.mem_cons_of_mem _ hq)).1)
    show (((p.1 + 2 ^ b * p.2) + 2 ^ (2 * b) * numP b ps) >>> b + ((p.1 + 2 ^ b * p.2) + 2 ^ (2 * b) * numP b ps)) &&& mask b (ps.length + 1) = (p.1 + p.2) + 2 ^ (2 * b) * num (2 * b) (ps.map fun p => p.1 + p.2)
    rw [shr_cons (hs p (List.mem_cons_self ..)).1, ← round' hc ps (fun q hq => h q (List.mem_cons_of_mem _ hq))]
    have e : p.2 + 2 ^ b * (numP b ps % 2 ^ b) + 2 ^ (2 * b) * numP b ps >>> b + (p.1 + 2 ^ b * p.2 + 2 ^ (2 * b) * numP b ps) = ((p.1 + p.2) + 2 ^ b * (p.2 + numP b ps % 2 ^ b)) + 2 ^ (2 * b) * (numP b ps >>> b + numP b ps) := by
      rw [Nat.mul_add, Nat.mul_add]; omega
    rw [e, pick_low (by omega) (by omega)]

/-- The pairs of a list. -/
def two : List Nat → List (Nat × Nat)
  | a :: b :: l => (a, b) :: two l
  | [a] => [(a, 0)]
  | [] => []

theorem num_two (b : Nat) : ∀ l : List Nat, num b l = numP b (two l)
  | [] => rfl
  | [a] => by simp [num, numP, two]
  | a :: c :: l => by
    show a + 2 ^ b * (c + 2 ^ b * num b l) = (a + 2 ^ b * c) + 2 ^ (2 * b) * numP b (two l)
    rw [num_two b l, two_b, Nat.mul_add, Nat.mul_assoc]; omega
theorem two_le {c : Nat} : ∀ l : List Nat, (∀ x ∈ l, x ≤ c) → ∀ p ∈ two l, p.1 ≤ c ∧ p.2 ≤ c
  | [], _, p, h => by cases h
  | [a], h, p, hp => by
    simp only [two, List.mem_singleton] at hp
    subst hp
    exact ⟨h a (List.mem_cons_self ..), Nat.zero_le _⟩
  | a :: b :: l, h, p, hp => by
    rcases List.mem_cons.1 hp with rfl | hp
    · exact ⟨h a (List.mem_cons_self ..), h b (List.mem_cons_of_mem _ (List.mem_cons_self ..))⟩
    · exact two_le l (fun x hx => h x (List.mem_cons_of_mem _ (List.mem_cons_of_mem _ hx))) p hp
def sums (l : List Nat) : List Nat := (two l).map fun p => p.1 + p.2
theorem sums_sum : ∀ l : List Nat, (sums l).sum = l.sum
  | [] => rfl
  | [a] => by simp [sums, two]
  | a :: b :: l => by
    have := sums_sum l
    simp only [sums, two, List.map_cons, List.sum_cons] at this ⊢
    omega
theorem sums_le {c : Nat} {l : List Nat} (h : ∀ x ∈ l, x ≤ c) : ∀ x ∈ sums l, x ≤ 2 * c := fun x hx => by
  simp only [sums, List.mem_map] at hx
  obtain ⟨p, hp, rfl⟩ := hx
  have := two_le l h p hp
  omega
theorem two_length : ∀ l : List Nat, (two l).length = (l.length + 1) / 2
  | [] => rfl
  | [a] => by simp [two]
  | a :: b :: l => by simp only [two, List.length_cons, two_length l]; omega
theorem sums_length (l : List Nat) : (sums l).length = (l.length + 1) / 2 := by simp [sums, two_length]

/-- The bits of a number. -/
def digits : Nat → Nat → List Nat
  | 0, _ => []
  | n + 1, x => x % 2 :: digits n (x / 2)
theorem digits_length : ∀ n x, (digits n x).length = n
  | 0, _ => rfl
  | n + 1, x => by simp [digits, digits_length n]
theorem digits_le : ∀ n x, ∀ d ∈ digits n x, d ≤ 1
  | 0, _, d, h => by cases h
  | n + 1, x, d, h => by
    rcases List.mem_cons.1 h with rfl | h
    · omega
    · exact digits_le n _ d h
theorem digits_num : ∀ n x, x < 2 ^ n → num 1 (digits n x) = x
  | 0, x, h => by simp at h; subst h; rfl
  | n + 1, x, h => by
    show x % 2 + 2 ^ 1 * num 1 (digits n (x / 2)) = x
    rw [digits_num n (x / 2) (by rw [Nat.pow_succ] at h; omega)]
    omega

theorem digits_sum : ∀ n x, (digits n x).sum = ((List.range n).filter fun i => x.testBit i).length
  | 0, _ => rfl
  | n + 1, x => by
    have ih := digits_sum n (x / 2)
    rw [List.range_succ_eq_map, List.filter_cons, List.filter_map, Function.comp_def]
    have e : (fun i => x.testBit (i + 1)) = fun i => (x / 2).testBit i := by funext i; rw [Nat.testBit_succ]
    simp only [digits, List.sum_cons, ih]
    rw [show (fun i => x.testBit (Nat.succ i)) = fun i => (x / 2).testBit i from e]
    have hz : x.testBit 0 = decide (x % 2 = 1) := Nat.testBit_zero x
    rw [hz]
    by_cases h : x % 2 = 1
    · simp [h]; omega
    · have : x % 2 = 0 := by omega
      simp [this]

theorem list_sum (s : BitVec 64) : (digits 64 s.toNat).sum = (list s).length := by
  rw [digits_sum]
  show _ = ((List.range 64).filter fun i => s.getLsbD i).length
  congr 2

theorem num_bound {b c : Nat} : ∀ l : List Nat, (∀ x ∈ l, x ≤ c) → (2 ^ b - 1) * num b l + c ≤ c * 2 ^ (b * l.length)
  | [], _ => by simp [num]
  | d :: l, h => by
    have ih := num_bound (b := b) l (fun x hx => h x (List.mem_cons_of_mem _ hx))
    have hd := h d (List.mem_cons_self ..)
    show (2 ^ b - 1) * (d + 2 ^ b * num b l) + c ≤ c * 2 ^ (b * (l.length + 1))
    rw [Nat.mul_succ, Nat.pow_add, Nat.mul_add]
    have h1 : (2 ^ b - 1) * d ≤ (2 ^ b - 1) * c := Nat.mul_le_mul_left _ hd
    have h2 : (2 ^ b - 1) * (2 ^ b * num b l) = 2 ^ b * ((2 ^ b - 1) * num b l) := by rw [Nat.mul_left_comm]
    have h3 : 2 ^ b * ((2 ^ b - 1) * num b l + c) ≤ 2 ^ b * (c * 2 ^ (b * l.length)) := Nat.mul_le_mul_left _ ih
    have h4 : (2 ^ b - 1) * c + c = 2 ^ b * c := by
      have : 0 < 2 ^ b := Nat.two_pow_pos b
      obtain ⟨m, hm⟩ : ∃ m, 2 ^ b = m + 1 := ⟨2 ^ b - 1, by omega⟩
      rw [hm, Nat.add_sub_cancel, Nat.succ_mul]
    have h5 : c * (2 ^ (b * l.length) * 2 ^ b) = 2 ^ b * (c * 2 ^ (b * l.length)) := by rw [← Nat.mul_assoc, Nat.mul_comm]
    rw [Nat.mul_add] at h3
    omega

theorem tail_sum {c0 c1 c2 c3 c4 c5 c6 c7 : Nat} (h0 : c0 ≤ 8) (h1 : c1 ≤ 8) (h2 : c2 ≤ 8) (h3 : c3 ≤ 8) (h4 : c4 ≤ 8) (h5 : c5 ≤ 8) (h6 : c6 ≤ 8) (h7 : c7 ≤ 8) :
    ∃ y3 y4 y5 y6, y3 = num 8 [c0, c1, c2, c3, c4, c5, c6, c7] ∧ y3 < 2 ^ 60 ∧ y4 = y3 + y3 / 256 ∧ y4 < 2 ^ 61 ∧ y5 = y4 + y4 / 65536 ∧ y5 < 2 ^ 62 ∧ y6 = y5 + y5 / 4294967296 ∧ y6 < 2 ^ 63 ∧ y6 % 128 = c0 + c1 + c2 + c3 + c4 + c5 + c6 + c7 := by
  obtain ⟨M6, e6, b6⟩ : ∃ M, M = c6 + 256 * c7 ∧ M < 2304 := ⟨_, rfl, by omega⟩
  obtain ⟨M5, e5, b5⟩ : ∃ M, M = c5 + 256 * M6 ∧ M < 589824 := ⟨_, rfl, by omega⟩
  obtain ⟨M4, e4, b4⟩ : ∃ M, M = c4 + 256 * M5 ∧ M < 150994944 := ⟨_, rfl, by omega⟩
  obtain ⟨M3, e3, b3⟩ : ∃ M, M = c3 + 256 * M4 ∧ M < 38654705664 := ⟨_, rfl, by omega⟩
  obtain ⟨M2, e2, b2⟩ : ∃ M, M = c2 + 256 * M3 ∧ M < 9895604649984 := ⟨_, rfl, by omega⟩
  obtain ⟨M1, e1, b1⟩ : ∃ M, M = c1 + 256 * M2 ∧ M < 2533274790395904 := ⟨_, rfl, by omega⟩
  obtain ⟨M0, e0, b0⟩ : ∃ M, M = c0 + 256 * M1 ∧ M < 648518346341351424 := ⟨_, rfl, by omega⟩
  have g3 : M0 = num 8 [c0, c1, c2, c3, c4, c5, c6, c7] := by
    show M0 = c0 + 2 ^ 8 * (c1 + 2 ^ 8 * (c2 + 2 ^ 8 * (c3 + 2 ^ 8 * (c4 + 2 ^ 8 * (c5 + 2 ^ 8 * (c6 + 2 ^ 8 * (c7 + 2 ^ 8 * 0)))))))
    rw [e0, e1, e2, e3, e4, e5, e6]; simp only [Nat.reducePow, Nat.mul_zero, Nat.add_zero]
  have g4 : M0 / 256 = M1 := by rw [e0]; clear e0 e1 e2 e3 e4 e5 e6 g3; omega
  have g5 : (M0 + M1) / 65536 = M2 + M3 := by
    have : M0 + M1 = ((c0 + c1) + 256 * (c1 + c2)) + 65536 * (M2 + M3) := by clear g3 g4; omega
    rw [this]; clear this e0 e1 e2 e3 e4 e5 e6 g3 g4; omega
  have g6 : (M0 + M1 + (M2 + M3)) / 4294967296 = c7 + M6 + M5 + M4 := by
    have : M0 + M1 + (M2 + M3) = ((c0 + c1 + c2 + c3) + 256 * (c1 + c2 + c3 + c4) + 65536 * (c2 + c3 + c4 + c5) + 16777216 * (c3 + c4 + c5 + c6)) + 4294967296 * (c7 + M6 + M5 + M4) := by clear g3 g4 g5; omega
    rw [this]; clear this e0 e1 e2 e3 e4 e5 e6 g3 g4 g5; omega
  refine ⟨M0, M0 + M1, M0 + M1 + (M2 + M3), M0 + M1 + (M2 + M3) + (c7 + M6 + M5 + M4), g3, ?_, by rw [g4], ?_, by rw [g5], ?_, by rw [g6], ?_, ?_⟩
  · clear e0 e1 e2 e3 e4 e5 e6 g3 g4 g5 g6; omega
  · clear e0 e1 e2 e3 e4 e5 e6 g3 g4 g5 g6; omega
  · clear e0 e1 e2 e3 e4 e5 e6 g3 g4 g5 g6; omega
  · clear e0 e1 e2 e3 e4 e5 e6 g3 g4 g5 g6; omega
  · have : M0 + M1 + (M2 + M3) + (c7 + M6 + M5 + M4) = (c0 + c1 + c2 + c3 + c4 + c5 + c6 + c7) + 128 * (2 * (M1 + M2 + M3 + M4 + M5 + M6 + c7)) := by clear g3 g4 g5 g6; omega
    rw [this, Nat.add_mul_mod_self_left, Nat.mod_eq_of_lt (by clear this e0 e1 e2 e3 e4 e5 e6 g3 g4 g5 g6; omega)]

def m0 : BitVec 64 := 6148914691236517205#64
def m1 : BitVec 64 := 3689348814741910323#64
def m2 : BitVec 64 := 1085102592571150095#64
def p1 (s : BitVec 64) : BitVec 64 := ((s >>> 1) &&& m0) + (s &&& m0)
def p2 (s : BitVec 64) : BitVec 64 := ((s >>> 2) &&& m1) + (s &&& m1)
def p3 (s : BitVec 64) : BitVec 64 := ((s >>> 4) + s) &&& m2
def p4 (s : BitVec 64) : BitVec 64 := s + (s >>> 8)
def p5 (s : BitVec 64) : BitVec 64 := s + (s >>> 16)
def p6 (s : BitVec 64) : BitVec 64 := s + (s >>> 32)

theorem pop (s : BitVec 64) : (p6 (p5 (p4 (p3 (p2 (p1 s)))))).toNat < 2 ^ 63 ∧ (p6 (p5 (p4 (p3 (p2 (p1 s)))))).toNat % 128 = (list s).length := by
  -- the fields, four times
  have l0 := digits_le 64 s.toNat
  have n0 := digits_length 64 s.toNat
  have q0 := digits_num 64 s.toNat s.isLt
  have s0 := list_sum s
  generalize digits 64 s.toNat = L0 at l0 n0 q0 s0
  have l1 := sums_le l0
  have n1 := sums_length L0
  have s1 := sums_sum L0
  have hp0 := two_le L0 l0
  have r0 := round (b := 1) (two L0) (fun p hp => by have := hp0 p hp; omega)
  rw [← num_two, q0, two_length, n0, show mask 1 ((64 + 1) / 2) = 6148914691236517205 by decide] at r0
  have e1 : (p1 s).toNat = num 2 (sums L0) := by
    unfold p1 m0
    rw [BitVec.toNat_add, BitVec.toNat_and, BitVec.toNat_and, BitVec.toNat_ushiftRight]
    show ((s.toNat >>> 1 &&& 6148914691236517205) + (s.toNat &&& 6148914691236517205)) % _ = _
    rw [r0]
    refine Nat.mod_eq_of_lt ?_
    have := num_bound (b := 2) (sums L0) l1
    rw [n1, n0] at this
    show num 2 (sums L0) < _
    simp only [Nat.reduceMul, Nat.reduceAdd, Nat.reduceDiv, Nat.reducePow, Nat.reduceSub] at this
    omega
  generalize sums L0 = L1 at l1 n1 s1 e1
  have l2 := sums_le l1
  have n2 := sums_length L1
  have s2 := sums_sum L1
  have hp1 := two_le L1 l1
  have r1 := round (b := 2) (two L1) (fun p hp => by have := hp1 p hp; omega)
  rw [← num_two, ← e1, two_length, n1, n0, show mask 2 (((64 + 1) / 2 + 1) / 2) = 3689348814741910323 by decide] at r1
  have e2 : (p2 (p1 s)).toNat = num 4 (sums L1) ∧ num 4 (sums L1) < 2 ^ 63 := by
    have hb : num 4 (sums L1) < 2 ^ 63 := by
      have := num_bound (b := 4) (sums L1) l2
      rw [n2, n1, n0] at this
      simp only [Nat.reduceMul, Nat.reduceAdd, Nat.reduceDiv, Nat.reducePow, Nat.reduceSub] at this
      omega
    refine ⟨?_, hb⟩
    generalize p1 s = t at r1
    unfold p2 m1
    rw [BitVec.toNat_add, BitVec.toNat_and, BitVec.toNat_and, BitVec.toNat_ushiftRight]
    show ((t.toNat >>> 2 &&& 3689348814741910323) + (t.toNat &&& 3689348814741910323)) % _ = _
    rw [r1]
    refine Nat.mod_eq_of_lt ?_
    show num 4 (sums L1) < _
    omega
  obtain ⟨e2, b2⟩ := e2
  generalize sums L1 = L2 at l2 n2 s2 e2 b2
  have l3 := sums_le l2
  have n3 := sums_length L2
  have s3 := sums_sum L2
  have hp2 := two_le L2 l2
  have r2 := round' (b := 4) (c := 4) (by decide) (two L2) (fun p hp => by have := hp2 p hp; omega)
  rw [← num_two, ← e2, two_length, n2, n1, n0, show mask 4 ((((64 + 1) / 2 + 1) / 2 + 1) / 2) = 1085102592571150095 by decide] at r2
  have e3 : (p3 (p2 (p1 s))).toNat = num 8 (sums L2) := by
    rw [← e2] at b2
    generalize p2 (p1 s) = t at r2 b2
    unfold p3 m2
    rw [BitVec.toNat_and, BitVec.toNat_add, BitVec.toNat_ushiftRight, Nat.mod_eq_of_lt]
    · show (t.toNat >>> 4 + t.toNat) &&& 1085102592571150095 = _
      rw [r2]; rfl
    · rw [Nat.shiftRight_eq_div_pow]; omega
  generalize sums L2 = L3 at l3 n3 s3 e3
  rw [n2, n1, n0] at n3
  match L3, n3 with
  | [c0, c1, c2, c3, c4, c5, c6, c7], _ =>
  have hc : ∀ c ∈ [c0, c1, c2, c3, c4, c5, c6, c7], c ≤ 8 := fun c h => by have := l3 c h; omega
  simp only [List.mem_cons, List.not_mem_nil, or_false, forall_eq_or_imp, forall_eq] at hc
  obtain ⟨h0, h1, h2, h3, h4, h5, h6, h7⟩ := hc
  obtain ⟨y3, y4, y5, y6, g3, b3, g4, b4, g5, b5, g6, b6, g7⟩ := tail_sum h0 h1 h2 h3 h4 h5 h6 h7
  generalize p3 (p2 (p1 s)) = t3 at e3
  have e3' : t3.toNat = y3 := e3.trans g3.symm
  have e4 : (p4 t3).toNat = y4 := by
    unfold p4
    rw [BitVec.toNat_add, BitVec.toNat_ushiftRight, e3', Nat.shiftRight_eq_div_pow, Nat.mod_eq_of_lt (by omega), g4]
  generalize p4 t3 = t4 at e4
  have e5 : (p5 t4).toNat = y5 := by
    unfold p5
    rw [BitVec.toNat_add, BitVec.toNat_ushiftRight, e4, Nat.shiftRight_eq_div_pow, Nat.mod_eq_of_lt (by omega), g5]
  generalize p5 t4 = t5 at e5
  have e6 : (p6 t5).toNat = y6 := by
    unfold p6
    rw [BitVec.toNat_add, BitVec.toNat_ushiftRight, e5, Nat.shiftRight_eq_div_pow, Nat.mod_eq_of_lt (by omega), g6]
  rw [e6]
  refine ⟨b6, ?_⟩
  rw [g7, ← s0, ← s1, ← s2, ← s3]
  simp; omega

theorem has_bit (s : BitVec 64) (i : Int) : decide (s &&& bit i ≠ 0#64) = has s i := by
  by_cases ho : 0 ≤ i ∧ i ≤ 63
  · obtain ⟨k, rfl⟩ := Int.eq_ofNat_of_zero_le ho.1
    have hk : k < 64 := by omega
    rw [bit_of hk, has_of hk]
    cases hb : s.getLsbD k
    · refine decide_eq_false fun h => h (BitVec.eq_of_getLsbD_eq fun j hj => ?_)
      rw [BitVec.getLsbD_and, bit_get hk]
      by_cases hjk : j = k
      · subst hjk; simp [hb]
      · simp [hjk]
    · refine decide_eq_true fun h => ?_
      have := congrArg (fun x => BitVec.getLsbD x k) h
      simp only [BitVec.getLsbD_and, bit_get hk, hb] at this
      simp at this
  · rw [bit_out ho, has_out ho]; simp
theorem bit_in {i : Int} (h : 0 ≤ i ∧ i ≤ 63) : bit i ≠ 0#64 := by
  obtain ⟨k, rfl⟩ := Int.eq_ofNat_of_zero_le h.1
  rw [bit_of (by omega)]
  exact shl_ne (by omega)
theorem without2 (s : BitVec 64) (i : Int) : has s i = false ∨ ∃ k : Nat, k < 64 ∧ has s i = true ∧ i = (k : Int) ∧ s.getLsbD k = true := by
  cases h : has s i
  · exact .inl rfl
  · by_cases ho : 0 ≤ i ∧ i ≤ 63
    · obtain ⟨k, rfl⟩ := Int.eq_ofNat_of_zero_le ho.1
      have hk : k < 64 := by omega
      exact .inr ⟨k, hk, rfl, rfl, by rw [← has_of hk]; exact h⟩
    · rw [has_out ho] at h; cases h
theorem not_has_and {s : BitVec 64} {i : Int} (h : has s i = false) : s &&& ~~~ bit i = s := by
  by_cases ho : 0 ≤ i ∧ i ≤ 63
  · obtain ⟨k, rfl⟩ := Int.eq_ofNat_of_zero_le ho.1
    have hk : k < 64 := by omega
    rw [has_of hk] at h
    rw [bit_of hk]
    refine BitVec.eq_of_getLsbD_eq fun j hj => ?_
    rw [BitVec.getLsbD_and, BitVec.getLsbD_not, bit_get hk]
    by_cases hjk : j = k
    · subst hjk; simp [h]
    · simp [hjk, hj]
  · rw [bit_out ho]
    refine BitVec.eq_of_getLsbD_eq fun j hj => ?_
    rw [BitVec.getLsbD_and, BitVec.getLsbD_not]; simp [hj]
theorem sub_bit {s : BitVec 64} {k : Nat} (h : k < 64) (hb : s.getLsbD k = true) : s - 1#64 <<< k = s &&& ~~~ (1#64 <<< k) := by
  have e : s = (s &&& ~~~ (1#64 <<< k)) + 1#64 <<< k := by
    rw [add_bit h (by rw [BitVec.getLsbD_and, BitVec.getLsbD_not, bit_get h]; simp)]
    refine BitVec.eq_of_getLsbD_eq fun j hj => ?_
    rw [BitVec.getLsbD_or, BitVec.getLsbD_and, BitVec.getLsbD_not, bit_get h]
    by_cases hjk : j = k
    · subst hjk; simp [hb]
    · simp [hjk, hj]
  generalize hw : s &&& ~~~ (1#64 <<< k) = w at e
  rw [e]
  exact BitVec.add_sub_cancel w _
theorem least_nil {s : BitVec 64} (h : (list s).length = 0) : least s = -1 := by
  unfold least
  rw [List.eq_nil_of_length_eq_zero h]
def leastL : List Nat → Int
  | [] => -1
  | i :: _ => i
theorem least_L (s : BitVec 64) : least s = leastL (list s) := rfl
theorem leastL_first : ∀ {l : List Nat} (h : 0 < l.length), leastL l = ((l[0] : Nat) : Int)
  | [], h => by cases h
  | i :: l, _ => rfl
theorem least_first {s : BitVec 64} (h : 0 < (list s).length) : least s = ((list s)[0] : Nat) := by rw [least_L, leastL_first h]
end Bv
namespace Bv
theorem ofS_list (s : BitVec 64) : ofS ((list s).map fun (k : Nat) => (k : Int)) = (s, 0) := by
  rw [ofS_ok]
  · unfold orAll
    rw [List.foldl_map, foldl_list]
    simp
  · intro j hj
    rw [List.getElem_map]
    have hlt := list_lt _ (List.getElem_mem (by simpa using hj : j < (list s).length))
    exact bit_in (by omega)
theorem w1 (s : BitVec 64) (i : Int) : (s ||| bit i) &&& ~~~ bit i = s &&& ~~~ bit i := by
  refine BitVec.eq_of_getLsbD_eq fun j hj => ?_
  simp only [BitVec.getLsbD_and, BitVec.getLsbD_or, BitVec.getLsbD_not, hj, decide_true, Bool.true_and]
  cases s.getLsbD j <;> cases (bit i).getLsbD j <;> rfl
theorem w2 (s : BitVec 64) (i : Int) : (s &&& ~~~ bit i) ||| bit i = s ||| bit i := by
  refine BitVec.eq_of_getLsbD_eq fun j hj => ?_
  simp only [BitVec.getLsbD_and, BitVec.getLsbD_or, BitVec.getLsbD_not, hj, decide_true, Bool.true_and]
  cases s.getLsbD j <;> cases (bit i).getLsbD j <;> rfl
theorem w3 (s : BitVec 64) (i k : Int) : (s ||| bit i) ||| bit k = (s ||| bit k) ||| bit i := by
  rw [BitVec.or_assoc, BitVec.or_comm (bit i), BitVec.or_assoc]
theorem i3 (i : Int) : i < 0 ∨ (¬ i < 0 ∧ i > 63) ∨ (¬ i < 0 ∧ ¬ i > 63 ∧ ∃ j : Nat, i = (j : Int) ∧ j < 64) := by
  by_cases h0 : i < 0
  · exact .inl h0
  · by_cases h1 : i > 63
    · exact .inr (.inl ⟨h0, h1⟩)
    · exact .inr (.inr ⟨h0, h1, i.toNat, by omega, by omega⟩)
theorem o1 {s : BitVec 64} {i : Int} (h : ¬ (0 ≤ i ∧ i ≤ 63)) : (s ||| bit i) &&& ~~~ bit i = s := by
  rw [w1]; exact not_has_and (has_out h)
theorem o2 {s : BitVec 64} {i : Int} (h : ¬ (0 ≤ i ∧ i ≤ 63)) : (s &&& ~~~ bit i) ||| bit i = s := by
  rw [w2, bit_out h, BitVec.or_zero]
theorem q1 {s : BitVec 64} {j : Nat} (h : j < 64) : has ((s &&& ~~~ bit (j : Int)) ||| bit (j : Int)) (j : Int) = true := by
  rw [has_of h, BitVec.getLsbD_or, bit_of h, bit_get h]; simp
theorem q2 {s : BitVec 64} {j : Nat} (h : j < 64) : has ((s ||| bit (j : Int)) &&& ~~~ bit (j : Int)) (j : Int) = false := by
  rw [has_of h, BitVec.getLsbD_and, BitVec.getLsbD_not, bit_of h, bit_get h]; simp
/-- A number more. -/
theorem filter_or {p : Nat → Bool} {j : Nat} : ∀ {l : List Nat}, l.Pairwise (· < ·) → j ∈ l → p j = false → (l.filter fun i => p i || decide (i = j)).length = (l.filter p).length + 1
  | [], _, h, _ => by cases h
  | x :: l, hp, hj, hn => by
    rw [List.pairwise_cons] at hp
    rcases List.mem_cons.1 hj with rfl | hj
    · have : l.filter (fun i => p i || decide (i = j)) = l.filter p := List.filter_congr fun y hy => by
        have := hp.1 y hy
        have : ¬ y = j := by omega
        simp [this]
      rw [List.filter_cons, List.filter_cons, this, hn]; simp
    · have := hp.1 j hj
      have hx : ¬ x = j := by omega
      have ih := filter_or hp.2 hj hn
      rw [List.filter_cons, List.filter_cons]
      cases p x <;> simp [hx, ih]
theorem len_or {s : BitVec 64} {j : Nat} (h : j < 64) (hs : s.getLsbD j = false) : (list (s ||| bit (j : Int))).length = (list s).length + 1 := by
  unfold list
  rw [← filter_or (p := fun i => s.getLsbD i) (j := j) List.pairwise_lt_range (List.mem_range.2 h) hs]
  congr 2
  funext i
  rw [BitVec.getLsbD_or, bit_of h, bit_get h]
theorem q3 (s : BitVec 64) {j : Nat} (h : j < 64) : ((list ((s &&& ~~~ bit (j : Int)) ||| bit (j : Int))).length : Int) = ((list ((s ||| bit (j : Int)) &&& ~~~ bit (j : Int))).length : Int) + 1 := by
  have := len_or (s := s &&& ~~~ bit (j : Int)) h (by rw [BitVec.getLsbD_and, BitVec.getLsbD_not, bit_of h, bit_get h]; simp)
  rw [w1, this]; simp
theorem q5 {s : BitVec 64} {j : Nat} (h : j < 64) (hb : s.getLsbD j = true) : (s &&& ~~~ bit (j : Int)) ||| bit (j : Int) = s := by
  rw [w2, bit_of h, or_bit h hb]
theorem q4 {s : BitVec 64} {j : Nat} (h : j < 64) (hb : s.getLsbD j = false) : (s ||| bit (j : Int)) &&& ~~~ bit (j : Int) = s := by
  rw [w1]; exact not_has_and (by rw [has_of h]; exact hb)
end Bv
namespace Bv
/-- Is a number one of the first k of a set's? -/
def seen (s : BitVec 64) (i : Int) (k : Nat) : Bool := ((list s).take k).any fun j => decide ((j : Int) = i)
theorem seen_succ {s : BitVec 64} {i : Int} {k : Nat} (h : k < (list s).length) : seen s i (k + 1) = (seen s i k || decide (((list s)[k] : Nat) = i)) := by
  unfold seen
  rw [List.take_succ_eq_append_getElem h, List.any_append]; simp
theorem seen_next {s : BitVec 64} {i : Int} {k : Nat} (h : k < (list s).length) (hb : seen s i k = false) : decide (((list s)[k] : Nat) = i) = seen s i (k + 1) := by
  rw [seen_succ h, hb, Bool.false_or]
theorem seen_stay {s : BitVec 64} {i : Int} {k : Nat} (hb : seen s i k = true) : seen s i (k + 1) = true := by
  unfold seen at hb ⊢
  rw [List.any_eq_true] at hb ⊢
  obtain ⟨x, h1, h2⟩ := hb
  exact ⟨x, (List.take_subset_take_left _ (Nat.le_succ k)) h1, h2⟩
theorem seen_all {s : BitVec 64} {i : Int} : has s i = seen s i (list s).length := by
  unfold seen
  rw [List.take_length]
  cases h : has s i
  · symm
    rw [List.any_eq_false]
    intro j hj hji
    have := of_decide_eq_true hji
    subst this
    rw [has_of (list_lt j hj), mem_list.1 hj] at h; cases h
  · symm
    rw [List.any_eq_true]
    by_cases ho : 0 ≤ i ∧ i ≤ 63
    · obtain ⟨k, rfl⟩ := Int.eq_ofNat_of_zero_le ho.1
      rw [has_of (by omega)] at h
      exact ⟨k, mem_list.2 h, decide_eq_true rfl⟩
    · rw [has_out ho] at h; cases h
theorem rise {s : BitVec 64} {k : Nat} (h : k < (list s).length) (h0 : 0 < k) : ¬ (((list s)[k] : Nat) : Int) ≤ (((list s)[k - 1]'(by omega) : Nat) : Int) := by
  have := List.pairwise_iff_getElem.1 (list_sorted s) (k - 1) k (by omega) h (by omega)
  omega
theorem has_at {s : BitVec 64} {k : Nat} (h : k < (list s).length) : has s ((list s)[k] : Nat) = true := by
  rw [has_of (list_lt _ (List.getElem_mem h)), mem_list.1 (List.getElem_mem h)]
theorem least_pos {s : BitVec 64} (h : 0 < (list s).length) : ¬ least s = -1 := by
  rw [least_first h]; omega
end Bv
