/- What the plain functions answer. -/
import Derived.Test.YtkiiigfefobdlaaDoorBase1
import Derived.Test.YtkiiigfefobdlaaDoorSh
import Derived.KernelRfl
set_option linter.unusedSimpArgs false
set_option linter.unusedVariables false
section
/- What is used to reason about the plain functions. -/
namespace Pl
open Go Go.Av

theorem w64_id {n : Int} (h1 : -9223372036854775808 ≤ n) (h2 : n < 9223372036854775808) : w64 n = n := i64_wrap h1 h2
theorem idx_at {α : Type} {l : List α} {k : Nat} (h : k < l.length) : Sh.idx l (k : Int) = some l[k] := by
  simp [Sh.idx, h]
theorem app_ok {α : Type} {b : Nat} {l m : List α} (h : (l.length + m.length) * b ≤ 140737488355328) : Sh.app b l m = some (l ++ m) := by
  simp [Sh.app, h]
theorem mk_ok {α : Type} {b m : Nat} {z : α} (h : b * m ≤ 140737488355328) (h2 : m ≤ 4611686018427387904) : Sh.mk b (m : Int) (m : Int) z = some (List.replicate m z) := by
  have : ((b : Int) * (m : Int)) ≤ 140737488355328 := by
    rw [← Int.natCast_mul]; omega
  unfold Sh.mk
  rw [if_pos ⟨by omega, by omega, this, by omega⟩]
  simp
theorem sub_ok {α : Type} {l : List α} {m k : Nat} (h1 : m ≤ k) (h2 : k ≤ l.length) : Sh.sub l (m : Int) (k : Int) = some ((l.drop m).take (k - m)) := by
  unfold Sh.sub
  rw [if_pos ⟨by omega, by omega, by omega⟩]
  simp
theorem set_at {α : Type} (l : List α) (k : Nat) (x : α) : Sh.set l (k : Int) x = l.set k x := by simp [Sh.set]
theorem count {σ α : Type} {b : σ × Int → Option ((σ × Int) ⊕ α)} (S : Nat → σ) (m : Nat) (r : α) (hm : m < Sh.FUEL) (h : ∀ k, k < m → b (S k, (k : Int)) = some (.inl (S (k + 1), ((k + 1 : Nat) : Int)))) (hr : b (S m, (m : Int)) = some (.inr r)) {s : σ} (hs : s = S 0) :
    Sh.loop b (s, 0) = some r := by
  subst hs
  exact Sh.loop_run (fun k => (S k, (k : Int))) m r hm h hr
theorem next_some {σ α : Type} (s : σ) : Sh.next (α := α) s = some (.inl s) := rfl
theorem exit_some {σ α : Type} (x : α) : Sh.exit (σ := σ) (some x) = some (.inr x) := rfl
theorem fuel_gt {n : Nat} (h : n < 9223372036854775808) : n < Sh.FUEL := h
theorem w64_succ {k : Nat} (h : k < 9223372036854775807) : w64 ((k : Int) + 1) = ((k + 1 : Nat) : Int) := by
  rw [w64_id (by omega) (by omega)]; omega
theorem len_eq {α : Type} (l : List α) : Sh.len l = (l.length : Int) := rfl
theorem dec_lt {k n : Nat} : decide ((k : Int) < (n : Int)) = decide (k < n) := by
  congr 1; exact propext (by omega)
end Pl
namespace Pl
open Go Go.Av
theorem scan {α : Type} {b : Int → Option (Int ⊕ α)} (s m : Nat) (p : Nat → Bool) (A B : α) (hsm : s ≤ m) (hm : m < Sh.FUEL) (h : ∀ k, s ≤ k → k < m → b (k : Int) = if p k then some (.inl ((k + 1 : Nat) : Int)) else some (.inr B)) (hr : b (m : Int) = some (.inr A)) :
    Sh.loop b (s : Int) = some (if ∀ k, k < m → s ≤ k → p k = true then A else B) := by
  by_cases hall : ∀ k, k < m → s ≤ k → p k = true
  · rw [if_pos hall]
    refine Sh.loop_run (fun k => ((s + k : Nat) : Int)) (m - s) A (by omega) (fun k hk => ?_) ?_
    · rw [h (s + k) (by omega) (by omega), if_pos (hall _ (by omega) (by omega))]; rfl
    · rw [show s + (m - s) = m by omega]; exact hr
  · rw [if_neg hall]
    have hex : ∃ k, s ≤ k ∧ k < m ∧ p k = false := by
      apply Classical.byContradiction
      intro hn
      exact hall (fun k h2 h1 => by
        cases hp : p k with
        | true => rfl
        | false => exact absurd ⟨k, h1, h2, hp⟩ hn)
    obtain ⟨k, hk, hmin⟩ := exists_least _ hex
    refine Sh.loop_run (fun q => ((s + q : Nat) : Int)) (k - s) B (by omega) (fun q hq => ?_) ?_
    · have : p (s + q) = true := by
        cases hp : p (s + q) with
        | true => rfl
        | false => have := hmin (s + q) ⟨by omega, by omega, hp⟩; omega
      rw [h (s + q) (by omega) (by omega), if_pos this]; rfl
    · rw [show s + (k - s) = k by omega, h k hk.1 hk.2.1, if_neg (by rw [hk.2.2]; simp)]
theorem scan0 {α : Type} {b : Int → Option (Int ⊕ α)} (m : Nat) (p : Nat → Bool) (A B : α) (hm : m < Sh.FUEL) (h : ∀ k, k < m → b (k : Int) = if p k then some (.inl ((k + 1 : Nat) : Int)) else some (.inr B)) (hr : b (m : Int) = some (.inr A)) :
    Sh.loop b 0 = some (if ∀ k, k < m → p k = true then A else B) := by
  have := scan 0 m p A B (by omega) hm (fun k _ hk => h k hk) hr
  simpa using this
end Pl
namespace Pl
open Go Go.Av
theorem run_exit {σ α : Type} {b : σ → Option (σ ⊕ α)} (S : Nat → σ) (m : Nat) (X : Option α) (hm : m < Sh.FUEL) (h : ∀ k, k < m → b (S k) = some (.inl (S (k + 1)))) (hr : b (S m) = Sh.exit X) {s : σ} (hs : s = S 0) : Sh.loop b s = X := by
  subst hs
  unfold Sh.loop
  rw [show Sh.FUEL = m + ((Sh.FUEL - m - 1) + 1) by omega, Sh.iter_go S m h]
  simp only [Sh.iter, hr]
  cases X <;> rfl
end Pl
end

section
/- Loops over lists. -/
namespace Pl
open Go Go.Av

theorem loop_step {σ β : Type} {b : σ → Option (σ ⊕ β)} {n : Nat} {s s' : σ} (h : b s = some (.inl s')) : Sh.iter b (n + 1) s = Sh.iter b n s' := by simp [Sh.iter, h]
theorem loop_exit {σ β : Type} {b : σ → Option (σ ⊕ β)} {n : Nat} {s : σ} {X : Option β} (h : b s = Sh.exit X) : Sh.iter b (n + 1) s = X := by cases X <;> simp [Sh.iter, h, Sh.exit]

def pos {α : Type} (l : List α) (p : α → Bool) : Int := (l.findIdx? p).elim (-1) (fun k => (k : Int))
end Pl
end

section
/- Arrays by what stands at each place. -/
namespace Pl
open Go Go.Av

def arT {α : Type} (N : Nat) (F : Nat → α) : List α := (List.range N).map F
section
variable {α : Type} {N : Nat}
@[simp] theorem arT_len (F : Nat → α) : (arT N F).length = N := by simp [arT]
theorem arT_ext {F G : Nat → α} (h : ∀ x, x < N → F x = G x) : arT N F = arT N G := List.map_congr_left fun x hx => h x (List.mem_range.1 hx)
theorem arT_get (F : Nat → α) {y : Nat} (h : y < N) : (arT N F)[y]? = some (F y) := by simp [arT, h]
theorem arT_idx (F : Nat → α) {y : Nat} (h : y < N) : Sh.idx (arT N F) (y : Int) = some (F y) := by
  unfold Sh.idx
  rw [if_pos (by omega), Int.toNat_natCast, arT_get F h]
theorem arT_set (F : Nat → α) {y : Nat} (c : α) : Sh.set (arT N F) (y : Int) c = arT N fun x => if x = y then c else F x := by
  rw [set_at]
  apply List.ext_getElem? fun i => ?_
  rw [List.getElem?_set]
  by_cases hi : i < N
  · rw [arT_get _ hi]
    by_cases e : y = i
    · subst e; rw [if_pos rfl, arT_len, if_pos hi, arT_get _ hi, if_pos rfl]
    · rw [if_neg e, arT_get _ hi, if_neg (Ne.symm e)]
  · have h1 : (arT N F)[i]? = none := List.getElem?_eq_none (by simp; omega)
    have h2 : (arT N fun x => if x = y then c else F x)[i]? = none := List.getElem?_eq_none (by simp; omega)
    rw [h1, h2]
    split <;> simp; omega
theorem arT_zero (c : α) : List.replicate N c = arT N (fun _ => c) := by
  apply List.ext_getElem (by simp) fun i h1 h2 => by simp [arT]
end
end Pl
end

section
/- A search that goes deep first: what holds at each of its steps. -/
namespace Pl

structure Rch (E R : Nat → Nat → Prop) : Prop where
  refl : ∀ x, R x x
  trans : ∀ x y z, R x y → R y z → R x z
  edge : ∀ x y, E x y → R x y
  closed : ∀ (P : Nat → Prop), (∀ x y, P x → E x y → P y) → ∀ x y, R x y → P x → P y

structure Ts where
  W : Nat → Nat
  L : Nat → Nat
  D : Nat → Bool
  A : Nat → Nat → Bool
  cs : List Nat
  os : List Nat
  met : Nat
  comps : List (List Nat)

def Ts.opn (s : Ts) (x : Nat) : Prop := s.W x ≠ 0 ∧ s.D x = false

structure Ti (n : Nat) (E R : Nat → Nat → Prop) (s : Ts) : Prop where
  lt : ∀ x, s.W x ≠ 0 → x < n
  le : ∀ x, s.W x ≤ s.met
  inj : ∀ x y, s.W x = s.W y → s.W x ≠ 0 → x = y
  done : ∀ x, s.D x = true → s.W x ≠ 0
  osort : s.os.Pairwise (fun a b => s.W b < s.W a)
  oiff : ∀ x, x ∈ s.os ↔ s.opn x
  csort : s.cs.Pairwise (fun a b => s.W b < s.W a)
  copen : ∀ x, x ∈ s.cs → s.opn x
  edges : ∀ x y, E x y → s.W x ≠ 0 → s.W y ≠ 0 ∨ (x ∈ s.cs ∧ s.A x y = true)
  dclosed : ∀ x y, E x y → s.D x = true → s.D y = true
  low : ∀ x, s.opn x → s.L x ≤ s.W x ∧ (∃ y, s.opn y ∧ s.W y = s.L x ∧ R x y) ∧ (x ∉ s.cs → s.L x < s.W x)
  reach : ∀ p x, p ∈ s.cs → s.opn x → s.W p ≤ s.W x → R p x
  back : ∀ x y, s.opn x → E x y → s.opn y → ¬ (x ∈ s.cs ∧ s.A x y = true) → s.L x ≤ s.W y
  seg : ∀ p x, p ∈ s.cs → s.opn x → x ∉ s.cs → s.W p < s.W x → (∀ q, q ∈ s.cs → s.W p < s.W q → s.W x < s.W q) → s.L p ≤ s.L x
  cdone : ∀ c, c ∈ s.comps → ∀ x, x ∈ c → s.D x = true
  cis : ∀ c, c ∈ s.comps → ∃ x, x ∈ c ∧ ∀ y, y ∈ c ↔ (R x y ∧ R y x)
  cnodup : ∀ c, c ∈ s.comps → c.Nodup
  call : ∀ x, s.D x = true → ∃ c, c ∈ s.comps ∧ x ∈ c
  cdis : s.comps.Pairwise (fun a b => ∀ x, x ∈ a → x ∉ b)

section
variable {n : Nat} {E R : Nat → Nat → Prop}

def Ts.start : Ts := ⟨fun _ => 0, fun _ => 0, fun _ => false, fun _ _ => false, [], [], 0, []⟩

theorem Ti.start : Ti n E R .start where
  lt := fun x h => absurd rfl h
  le := fun x => Nat.le_refl _
  inj := fun x y _ h => absurd rfl h
  done := fun x h => by cases h
  osort := .nil
  oiff := fun x => ⟨fun h => by simp [Ts.start] at h, fun h => absurd rfl h.1⟩
  csort := .nil
  copen := fun x h => by simp [Ts.start] at h
  edges := fun x y _ h => absurd rfl h
  dclosed := fun x y _ h => by cases h
  low := fun x h => absurd rfl h.1
  reach := fun p x h => by simp [Ts.start] at h
  back := fun x y h => absurd rfl h.1
  seg := fun p x h => by simp [Ts.start] at h
  cdone := fun c h => by simp [Ts.start] at h
  cis := fun c h => by simp [Ts.start] at h
  cnodup := fun c h => by simp [Ts.start] at h
  call := fun x h => by cases h
  cdis := .nil

def Ts.drop (s : Ts) (x y : Nat) : Ts := { s with A := fun a b => s.A a b && !(decide (a = x) && decide (b = y)) }
theorem Ti.drop {s : Ts} (h : Ti n E R s) {x y : Nat} (hy : s.W y ≠ 0) (hl : s.D y = false → s.L x ≤ s.W y) : Ti n E R (s.drop x y) :=
  { h with
    edges := fun a b he ha => by
      rcases h.edges a b he ha with h1 | ⟨h1, h2⟩
      · exact .inl h1
      · by_cases hab : a = x ∧ b = y
        · rw [hab.2]; exact .inl hy
        · refine .inr ⟨h1, ?_⟩
          simp only [Ts.drop, h2, Bool.true_and, Bool.not_eq_true', Bool.and_eq_false_iff, decide_eq_false_iff_not]
          exact Classical.not_and_iff_not_or_not.1 hab
    back := fun a b ha he hb hn => by
      by_cases hab : a = x ∧ b = y
      · rw [hab.1, hab.2]; exact hl (by rw [← hab.2]; exact hb.2)
      · refine h.back a b ha he hb fun hc => hn ⟨hc.1, ?_⟩
        have h2 : s.A a b = true := hc.2
        simp only [Ts.drop, h2, Bool.true_and, Bool.not_eq_true', Bool.and_eq_false_iff, decide_eq_false_iff_not]
        exact Classical.not_and_iff_not_or_not.1 hab }

def Ts.lower (s : Ts) (x v : Nat) : Ts := { s with L := fun a => if a = x then Nat.min (s.L x) v else s.L a }
theorem Ti.lower {s : Ts} (h : Ti n E R s) {x y : Nat} (hx : x ∈ s.cs) (hy : s.opn y) (hxy : R x y) : Ti n E R (s.lower x (s.W y)) := by
  have hle : ∀ a, (s.lower x (s.W y)).L a ≤ s.L a := fun a => by
    show (if a = x then _ else _) ≤ _
    split
    · rename_i h; rw [h]; exact Nat.min_le_left _ _
    · exact Nat.le_refl _
  have hne : ∀ a, a ≠ x → (s.lower x (s.W y)).L a = s.L a := fun a ha => by
    show (if a = x then _ else _) = _
    rw [if_neg ha]
  exact { h with
    low := fun a ha => by
      obtain ⟨h1, h2, h3⟩ := h.low a ha
      refine ⟨Nat.le_trans (hle a) h1, ?_, fun hc => Nat.lt_of_le_of_lt (hle a) (h3 hc)⟩
      by_cases hax : a = x
      · subst hax
        have e : (s.lower a (s.W y)).L a = Nat.min (s.L a) (s.W y) := by
          show (if a = a then _ else _) = _
          rw [if_pos rfl]
        rw [e]
        by_cases hm : s.L a ≤ s.W y
        · rw [show Nat.min (s.L a) (s.W y) = s.L a from Nat.min_eq_left hm]; exact h2
        · rw [show Nat.min (s.L a) (s.W y) = s.W y from Nat.min_eq_right (by omega)]; exact ⟨y, hy, rfl, hxy⟩
      · rw [hne a hax]; exact h2
    back := fun a b ha he hb hn => Nat.le_trans (hle a) (h.back a b ha he hb hn)
    seg := fun p a hp ha hc h1 h2 => by
      rw [hne a (fun e => hc (by rw [e]; exact hx))]
      exact Nat.le_trans (hle p) (h.seg p a hp ha hc h1 h2) }

def Ts.enter (s : Ts) (y : Nat) (r : Nat → Bool) : Ts :=
  { s with W := fun a => if a = y then s.met + 1 else s.W a, L := fun a => if a = y then s.met + 1 else s.L a, A := fun a => if a = y then r else s.A a, cs := y :: s.cs, os := y :: s.os, met := s.met + 1 }
theorem Ti.enter {s : Ts} (hR : Rch E R) (h : Ti n E R s) {y : Nat} {r : Nat → Bool} (hy : y < n) (hw : s.W y = 0) (hr : ∀ z, E y z → r z = true) (hp : ∀ p, p ∈ s.cs → R p y) : Ti n E R (s.enter y r) := by
  have wy : (s.enter y r).W y = s.met + 1 := if_pos rfl
  have wo : ∀ a, a ≠ y → (s.enter y r).W a = s.W a := fun a ha => if_neg ha
  have ly : (s.enter y r).L y = s.met + 1 := if_pos rfl
  have lo : ∀ a, a ≠ y → (s.enter y r).L a = s.L a := fun a ha => if_neg ha
  have ao : ∀ a, a ≠ y → (s.enter y r).A a = s.A a := fun a ha => if_neg ha
  have dy : s.D y = false := by
    cases hd : s.D y with
    | false => rfl
    | true => exact absurd hw (h.done y hd)
  have ne_of : ∀ a, s.W a ≠ 0 → a ≠ y := fun a ha e => ha (by rw [e]; exact hw)
  have lew : ∀ a, s.W a ≤ (s.enter y r).W a := fun a => by
    by_cases e : a = y
    · rw [e, hw]; exact Nat.zero_le _
    · rw [wo a e]; exact Nat.le_refl _
  have opi : ∀ a, (s.enter y r).opn a ↔ a = y ∨ s.opn a := fun a => by
    by_cases e : a = y
    · subst e
      exact ⟨fun _ => .inl rfl, fun _ => ⟨by rw [wy]; omega, dy⟩⟩
    · exact ⟨fun k => .inr ⟨by rw [← wo a e]; exact k.1, k.2⟩, fun k => by
        rcases k with k | k
        · exact absurd k e
        · exact ⟨by rw [wo a e]; exact k.1, k.2⟩⟩
  have small : ∀ a, a ≠ y → (s.enter y r).W a < (s.enter y r).W y := fun a ha => by
    rw [wy, wo a ha]; exact Nat.lt_succ_of_le (h.le a)
  have hcy : y ∉ s.cs := fun hm => (h.copen y hm).1 hw
  exact {
    lt := fun a ha => by
      by_cases e : a = y
      · rw [e]; exact hy
      · exact h.lt a (by rw [← wo a e]; exact ha)
    le := fun a => by
      show _ ≤ s.met + 1
      by_cases e : a = y
      · rw [e, wy]; exact Nat.le_refl _
      · rw [wo a e]; exact Nat.le_succ_of_le (h.le a)
    inj := fun a b hab ha => by
      by_cases ea : a = y <;> by_cases eb : b = y
      · rw [ea, eb]
      · rw [ea] at hab; have := small b eb; omega
      · rw [eb] at hab; have := small a ea; omega
      · rw [wo a ea, wo b eb] at hab; rw [wo a ea] at ha; exact h.inj a b hab ha
    done := fun a ha => by
      have := h.done a ha
      rw [wo a (ne_of a this)]; exact this
    osort := .cons (fun a ha => small a (ne_of a ((h.oiff a).1 ha).1)) (h.osort.imp_of_mem fun {a b} ha hb k => by
      rw [wo a (ne_of a ((h.oiff a).1 ha).1), wo b (ne_of b ((h.oiff b).1 hb).1)]; exact k)
    oiff := fun a => by
      rw [opi a, ← h.oiff a]; exact List.mem_cons
    csort := .cons (fun a ha => small a (ne_of a (h.copen a ha).1)) (h.csort.imp_of_mem fun {a b} ha hb k => by
      rw [wo a (ne_of a (h.copen a ha).1), wo b (ne_of b (h.copen b hb).1)]; exact k)
    copen := fun a ha => (opi a).2 (by
      rcases List.mem_cons.1 ha with k | k
      · exact .inl k
      · exact .inr (h.copen a k))
    edges := fun a b he ha => by
      by_cases e : a = y
      · subst e
        exact .inr ⟨List.mem_cons_self .., by show (if a = a then r else s.A a) b = true; rw [if_pos rfl]; exact hr b he⟩
      · rcases h.edges a b he (by rw [← wo a e]; exact ha) with k | ⟨k1, k2⟩
        · exact .inl (by rw [wo b (ne_of b k)]; exact k)
        · exact .inr ⟨List.mem_cons_of_mem _ k1, by rw [ao a e]; exact k2⟩
    dclosed := h.dclosed
    low := fun a ha => by
      rcases (opi a).1 ha with e | k
      · subst e
        refine ⟨by rw [ly, wy]; exact Nat.le_refl _, ⟨a, ha, by rw [ly, wy], hR.refl a⟩, fun hc => absurd (List.mem_cons_self ..) hc⟩
      · have e := ne_of a k.1
        obtain ⟨h1, ⟨z, z1, z2, z3⟩, h3⟩ := h.low a k
        rw [lo a e, wo a e]
        exact ⟨h1, ⟨z, (opi z).2 (.inr z1), by rw [wo z (ne_of z z1.1)]; exact z2, z3⟩, fun hc => h3 fun hm => hc (List.mem_cons_of_mem _ hm)⟩
    reach := fun p a hpm ha hpa => by
      rcases List.mem_cons.1 hpm with e | hpm
      · subst e
        by_cases e2 : a = p
        · rw [e2]; exact hR.refl p
        · have := small a e2; omega
      · rcases (opi a).1 ha with e | k
        · rw [e]; exact hp p hpm
        · rw [wo p (ne_of p (h.copen p hpm).1), wo a (ne_of a k.1)] at hpa
          exact h.reach p a hpm k hpa
    back := fun a b ha he hb hn => by
      rcases (opi a).1 ha with e | k
      · subst e
        exact absurd ⟨List.mem_cons_self .., by show (if a = a then r else s.A a) b = true; rw [if_pos rfl]; exact hr b he⟩ hn
      · have e := ne_of a k.1
        have hn' : ¬ (a ∈ s.cs ∧ s.A a b = true) := fun ⟨k1, k2⟩ => hn ⟨List.mem_cons_of_mem _ k1, by rw [ao a e]; exact k2⟩
        rcases (opi b).1 hb with e2 | k2
        · subst e2
          rcases h.edges a b he k.1 with q | q
          · exact absurd hw q
          · exact absurd q hn'
        · rw [lo a e, wo b (ne_of b k2.1)]
          exact h.back a b k he k2 hn'
    seg := fun p a hpm ha hc h1 h2 => by
      have ha' : a ≠ y ∧ a ∉ s.cs := ⟨fun e => hc (by rw [e]; exact List.mem_cons_self ..), fun k => hc (List.mem_cons_of_mem _ k)⟩
      rcases (opi a).1 ha with e | k
      · exact absurd e ha'.1
      rcases List.mem_cons.1 hpm with e | hpm
      · subst e
        have := small a ha'.1; omega
      · have hpo := ne_of p (h.copen p hpm).1
        rw [lo p hpo, lo a ha'.1]
        rw [wo p hpo, wo a ha'.1] at h1
        refine h.seg p a hpm k ha'.2 h1 fun q hq hpq => ?_
        have hqo := ne_of q (h.copen q hq).1
        have := h2 q (List.mem_cons_of_mem _ hq) (by rw [wo p hpo, wo q hqo]; exact hpq)
        rw [wo a ha'.1, wo q hqo] at this
        exact this
    cdone := h.cdone
    cis := h.cis
    cnodup := h.cnodup
    call := h.call
    cdis := h.cdis }

theorem Ti.finish {s : Ts} (h : Ti n E R s) {x : Nat} {cs' : List Nat} (hc : s.cs = x :: cs') (hA : ∀ z, E x z → s.A x z = false) (hl : s.L x < s.W x) (hu : ∀ u, cs'.head? = some u → s.L u ≤ s.L x) : Ti n E R { s with cs := cs' } := by
  have sub : ∀ a, a ∈ cs' → a ∈ s.cs := fun a ha => by rw [hc]; exact List.mem_cons_of_mem _ ha
  have hs := h.csort
  rw [hc] at hs
  have hx1 : ∀ a, a ∈ cs' → s.W a < s.W x := (List.pairwise_cons.1 hs).1
  have hs2 := (List.pairwise_cons.1 hs).2
  have notin : ∀ a, a ∉ cs' → a = x ∨ a ∉ s.cs := fun a ha => by
    by_cases e : a = x
    · exact .inl e
    · exact .inr fun k => by
        rw [hc] at k
        rcases List.mem_cons.1 k with k | k
        · exact e k
        · exact ha k
  -- the next one that calls
  have head : ∀ p, p ∈ cs' → ∀ w, (∀ q, q ∈ cs' → s.W p < s.W q → w < s.W q) → s.W x ≤ w → cs'.head? = some p := fun p hp w hq hw => by
    cases cs' with
    | nil => simp at hp
    | cons u t =>
      by_cases e : p = u
      · rw [e]; rfl
      · have hpt : p ∈ t := by
          rcases List.mem_cons.1 hp with k | k
          · exact absurd k e
          · exact k
        have := hq u (List.mem_cons_self ..) ((List.pairwise_cons.1 hs2).1 p hpt)
        have := hx1 u (List.mem_cons_self ..)
        omega
  exact { h with
    csort := hs2
    copen := fun a ha => h.copen a (sub a ha)
    edges := fun a b he ha => by
      rcases h.edges a b he ha with k | ⟨k1, k2⟩
      · exact .inl k
      · rw [hc] at k1
        rcases List.mem_cons.1 k1 with k1 | k1
        · subst k1; rw [hA b he] at k2; cases k2
        · exact .inr ⟨k1, k2⟩
    low := fun a ha => by
      obtain ⟨h1, h2, h3⟩ := h.low a ha
      refine ⟨h1, h2, fun hc' => ?_⟩
      rcases notin a hc' with e | e
      · show s.L a < s.W a; rw [e]; exact hl
      · exact h3 e
    reach := fun p a hp => h.reach p a (sub p hp)
    back := fun a b ha he hb hn => h.back a b ha he hb fun ⟨k1, k2⟩ => by
      rw [hc] at k1
      rcases List.mem_cons.1 k1 with k1 | k1
      · subst k1; rw [hA b he] at k2; cases k2
      · exact hn ⟨k1, k2⟩
    seg := fun p a hp ha hc' h1 h2 => by
      rcases notin a hc' with e | e
      · rw [e]
        exact hu p (head p hp (s.W a) h2 (by rw [e]; exact Nat.le_refl _))
      · by_cases hax : s.W a < s.W x
        · refine h.seg p a (sub p hp) ha e h1 fun q hq hpq => ?_
          rw [hc] at hq
          rcases List.mem_cons.1 hq with k | k
          · rw [k]; exact hax
          · exact h2 q k hpq
        · have hxa : s.W x < s.W a := by
            rcases Nat.lt_or_ge (s.W x) (s.W a) with k | k
            · exact k
            · exact absurd (h.inj a x (by omega) ha.1) (fun e2 => e (by rw [e2, hc]; exact List.mem_cons_self ..))
          have h3 := h.seg x a (by rw [hc]; exact List.mem_cons_self ..) ha e hxa fun q hq hxq => by
            rw [hc] at hq
            rcases List.mem_cons.1 hq with k | k
            · rw [k] at hxq; omega
            · have := hx1 q k; omega
          exact Nat.le_trans (hu p (head p hp (s.W a) h2 (by omega))) h3 }

theorem Ti.leads {s : Ts} (hR : Rch E R) (h : Ti n E R s) : ∀ (m x : Nat), s.W x ≤ m → s.opn x → ∃ p, p ∈ s.cs ∧ R x p := by
  intro m
  induction m with
  | zero => intro x hx ho; exact absurd (Nat.le_zero.1 hx) ho.1
  | succ m ih =>
    intro x hx ho
    by_cases hc : x ∈ s.cs
    · exact ⟨x, hc, hR.refl x⟩
    · obtain ⟨_, ⟨y, y1, y2, y3⟩, h3⟩ := h.low x ho
      obtain ⟨p, p1, p2⟩ := ih y (by have := h3 hc; omega) y1
      exact ⟨p, p1, hR.trans _ _ _ y3 p2⟩

def Ts.close (s : Ts) (x : Nat) (c cs' os' : List Nat) : Ts := { s with D := fun a => s.D a || decide (s.W x ≤ s.W a), cs := cs', os := os', comps := s.comps ++ [c] }
theorem Ti.close {s : Ts} (hR : Rch E R) (h : Ti n E R s) {x : Nat} {c S cs' os' : List Nat} (hc : s.cs = x :: cs') (hA : ∀ z, E x z → s.A x z = false) (hl : s.L x = s.W x) (ho : s.os = S ++ os')
    (hS : ∀ a, a ∈ S ↔ s.opn a ∧ s.W x ≤ s.W a) (hcS : ∀ a, a ∈ c ↔ a ∈ S) (hnd : c.Nodup) : Ti n E R (s.close x c cs' os') := by
  have sub : ∀ a, a ∈ cs' → a ∈ s.cs := fun a ha => by rw [hc]; exact List.mem_cons_of_mem _ ha
  have hxc : x ∈ s.cs := by rw [hc]; exact List.mem_cons_self ..
  have hxo := h.copen x hxc
  have hs := h.csort
  rw [hc] at hs
  have hx1 : ∀ a, a ∈ cs' → s.W a < s.W x := (List.pairwise_cons.1 hs).1
  have hle : ∀ p, p ∈ s.cs → s.W p ≤ s.W x := fun p hp => by
    rw [hc] at hp
    rcases List.mem_cons.1 hp with k | k
    · rw [k]; exact Nat.le_refl _
    · exact Nat.le_of_lt (hx1 p k)
  have metD : ∀ a, s.W x ≤ s.W a → s.W a ≠ 0 := fun a ha => by have := hxo.1; omega
  have dS : ∀ a, (s.close x c cs' os').D a = true ↔ s.D a = true ∨ a ∈ S := fun a => by
    show (s.D a || decide (s.W x ≤ s.W a)) = true ↔ _
    rw [Bool.or_eq_true, decide_eq_true_eq]
    constructor
    · rintro (k | k)
      · exact .inl k
      · cases hd : s.D a with
        | true => exact .inl rfl
        | false => exact .inr ((hS a).2 ⟨⟨metD a k, hd⟩, k⟩)
    · rintro (k | k)
      · exact .inl k
      · exact .inr ((hS a).1 k).2
  have op : ∀ a, (s.close x c cs' os').opn a ↔ s.opn a ∧ s.W a < s.W x := fun a => by
    show (s.W a ≠ 0 ∧ (s.D a || decide (s.W x ≤ s.W a)) = false) ↔ (s.W a ≠ 0 ∧ s.D a = false) ∧ _
    rw [Bool.or_eq_false_iff, decide_eq_false_iff_not]
    exact ⟨fun ⟨k1, k2, k3⟩ => ⟨⟨k1, k2⟩, by omega⟩, fun ⟨⟨k1, k2⟩, k3⟩ => ⟨k1, k2, by omega⟩⟩
  -- nothing leads out of what is done and the new component
  have hcl : ∀ z y, z ∈ S → E z y → s.D y = true ∨ y ∈ S := fun z y hz he => by
    obtain ⟨hzo, hzx⟩ := (hS z).1 hz
    have hnA : ¬ (z ∈ s.cs ∧ s.A z y = true) := fun ⟨k1, k2⟩ => by
      have : z = x := h.inj z x (Nat.le_antisymm (hle z k1) hzx) hzo.1
      subst this; rw [hA y he] at k2; cases k2
    have hym : s.W y ≠ 0 := by
      rcases h.edges z y he hzo.1 with k | k
      · exact k
      · exact absurd k hnA
    cases hd : s.D y with
    | true => exact .inl rfl
    | false =>
      refine .inr ((hS y).2 ⟨⟨hym, hd⟩, ?_⟩)
      have h1 := h.back z y hzo he ⟨hym, hd⟩ hnA
      have h2 : s.W x ≤ s.L z := by
        by_cases e : z = x
        · rw [e, hl]; exact Nat.le_refl _
        · have hlt : s.W x < s.W z := by
            rcases Nat.lt_or_ge (s.W x) (s.W z) with k | k
            · exact k
            · exact absurd (h.inj z x (by omega) hzo.1) e
          have hzc : z ∉ s.cs := fun k => by have := hle z k; omega
          have := h.seg x z hxc hzo hzc hlt fun q hq hxq => by have := hle q hq; omega
          omega
      omega
  have all : ∀ z y, R z y → (s.D z = true ∨ z ∈ S) → (s.D y = true ∨ y ∈ S) := hR.closed (fun z => s.D z = true ∨ z ∈ S) fun z y hz he => by
    rcases hz with k | k
    · exact .inl (h.dclosed z y he k)
    · exact hcl z y k he
  have dall : ∀ z y, R z y → s.D z = true → s.D y = true := hR.closed (fun z => s.D z = true) fun z y hz he => h.dclosed z y he hz
  have hxS : x ∈ S := (hS x).2 ⟨hxo, Nat.le_refl _⟩
  have same : ∀ y, y ∈ c ↔ (R x y ∧ R y x) := fun y => by
    rw [hcS y]
    constructor
    · intro hy
      obtain ⟨k1, k2⟩ := (hS y).1 hy
      refine ⟨h.reach x y hxc k1 k2, ?_⟩
      obtain ⟨p, p1, p2⟩ := h.leads hR (s.W y) y (Nat.le_refl _) k1
      exact hR.trans _ _ _ p2 (h.reach p x p1 hxo (hle p p1))
    · rintro ⟨k1, k2⟩
      rcases all x y k1 (.inr hxS) with k | k
      · have := dall y x k2 k
        rw [hxo.2] at this; cases this
      · exact k
  exact {
    lt := h.lt
    le := h.le
    inj := h.inj
    done := fun a ha => by
      rcases (dS a).1 ha with k | k
      · exact h.done a k
      · exact ((hS a).1 k).1.1
    osort := by
      have := h.osort
      rw [ho] at this
      exact (List.pairwise_append.1 this).2.1
    oiff := fun a => by
      rw [op a, ← h.oiff a]
      show a ∈ os' ↔ _
      rw [ho]
      constructor
      · intro ha
        refine ⟨List.mem_append_right _ ha, ?_⟩
        have := h.osort
        rw [ho] at this
        exact (List.pairwise_append.1 this).2.2 x hxS a ha
      · rintro ⟨ha, hw⟩
        rcases List.mem_append.1 ha with k | k
        · have := ((hS a).1 k).2; omega
        · exact k
    csort := (List.pairwise_cons.1 hs).2
    copen := fun a ha => (op a).2 ⟨h.copen a (sub a ha), hx1 a ha⟩
    edges := fun a b he ha => by
      rcases h.edges a b he ha with k | ⟨k1, k2⟩
      · exact .inl k
      · rw [hc] at k1
        rcases List.mem_cons.1 k1 with k1 | k1
        · subst k1; rw [hA b he] at k2; cases k2
        · exact .inr ⟨k1, k2⟩
    dclosed := fun a b he ha => (dS b).2 (by
      rcases (dS a).1 ha with k | k
      · exact .inl (h.dclosed a b he k)
      · exact hcl a b k he)
    low := fun a ha => by
      obtain ⟨k1, k2⟩ := (op a).1 ha
      obtain ⟨h1, ⟨y, y1, y2, y3⟩, h3⟩ := h.low a k1
      refine ⟨h1, ⟨y, (op y).2 ⟨y1, by rw [y2]; omega⟩, y2, y3⟩, fun hc' => h3 fun k => ?_⟩
      rw [hc] at k
      rcases List.mem_cons.1 k with k | k
      · rw [k] at k2; omega
      · exact hc' k
    reach := fun p a hp ha => h.reach p a (sub p hp) ((op a).1 ha).1
    back := fun a b ha he hb hn => by
      obtain ⟨k1, k2⟩ := (op a).1 ha
      refine h.back a b k1 he ((op b).1 hb).1 fun ⟨k3, k4⟩ => ?_
      rw [hc] at k3
      rcases List.mem_cons.1 k3 with k3 | k3
      · rw [k3] at k2; omega
      · exact hn ⟨k3, k4⟩
    seg := fun p a hp ha hc' h1 h2 => by
      obtain ⟨k1, k2⟩ := (op a).1 ha
      refine h.seg p a (sub p hp) k1 (fun k => ?_) h1 fun q hq hpq => ?_
      · rw [hc] at k
        rcases List.mem_cons.1 k with k | k
        · rw [k] at k2; omega
        · exact hc' k
      · rw [hc] at hq
        rcases List.mem_cons.1 hq with k | k
        · rw [k]; exact k2
        · exact h2 q k hpq
    cdone := fun d hd a ha => (dS a).2 (by
      rcases List.mem_append.1 hd with k | k
      · exact .inl (h.cdone d k a ha)
      · rw [List.mem_singleton.1 k] at ha; exact .inr ((hcS a).1 ha))
    cis := fun d hd => by
      rcases List.mem_append.1 hd with k | k
      · exact h.cis d k
      · rw [List.mem_singleton.1 k]; exact ⟨x, (hcS x).2 hxS, same⟩
    cnodup := fun d hd => by
      rcases List.mem_append.1 hd with k | k
      · exact h.cnodup d k
      · rw [List.mem_singleton.1 k]; exact hnd
    call := fun a ha => by
      rcases (dS a).1 ha with k | k
      · obtain ⟨d, d1, d2⟩ := h.call a k
        exact ⟨d, List.mem_append_left _ d1, d2⟩
      · exact ⟨c, List.mem_append_right _ (List.mem_singleton.2 rfl), (hcS a).2 k⟩
    cdis := by
      refine List.pairwise_append.2 ⟨h.cdis, List.pairwise_singleton _ _, fun d hd e he a ha hae => ?_⟩
      rw [List.mem_singleton.1 he] at hae
      have k := ((hS a).1 ((hcS a).1 hae)).1
      have := h.cdone d hd a ha
      rw [k.2] at this; cases this }

theorem Ti.idle {s : Ts} (hR : Rch E R) (h : Ti n E R s) (hc : s.cs = []) : s.os = [] := by
  cases ho : s.os with
  | nil => rfl
  | cons a l =>
    obtain ⟨p, p1, _⟩ := h.leads hR (s.W a) a (Nat.le_refl _) ((h.oiff a).1 (by rw [ho]; exact List.mem_cons_self ..))
    rw [hc] at p1; simp at p1
end
end Pl
end

section
/- What is left of sorted numbers when what comes twice is left out. -/
namespace Pl
open Go Go.Av

theorem asc_ext : ∀ {a b : List Int}, a.Pairwise (· < ·) → b.Pairwise (· < ·) → (∀ x, x ∈ a ↔ x ∈ b) → a = b
  | [], [], _, _, _ => rfl
  | [], y :: b, _, _, h => absurd ((h y).2 (List.mem_cons_self ..)) (by simp)
  | x :: a, [], _, _, h => absurd ((h x).1 (List.mem_cons_self ..)) (by simp)
  | x :: a, y :: b, ha, hb, h => by
    rw [List.pairwise_cons] at ha hb
    have hxy : x = y := by
      rcases List.mem_cons.1 ((h x).1 (List.mem_cons_self ..)) with e | e
      · exact e
      · rcases List.mem_cons.1 ((h y).2 (List.mem_cons_self ..)) with e2 | e2
        · exact e2.symm
        · have h1 := hb.1 x e
          have h2 := ha.1 y e2
          omega
    subst hxy
    have : a = b := asc_ext ha.2 hb.2 fun z => ⟨fun hz => by
      rcases List.mem_cons.1 ((h z).1 (List.mem_cons_of_mem _ hz)) with e | e
      · subst e; have := ha.1 z hz; omega
      · exact e, fun hz => by
      rcases List.mem_cons.1 ((h z).2 (List.mem_cons_of_mem _ hz)) with e | e
      · subst e; have := hb.1 z hz; omega
      · exact e⟩
    rw [this]

end Pl
end

section
/- Nodes that belong together, in the order of their least ones. -/
namespace Pl
open Go Go.Av

structure Eqv (n : Nat) (m : Nat → Nat → Bool) : Prop where
  refl : ∀ x, x < n → m x x = true
  symm : ∀ x y, m x y = true → m y x = true
  trans : ∀ x y z, m x y = true → m y z = true → m x z = true

def compL (n : Nat) (m : Nat → Nat → Bool) (x : Nat) : List Nat := (List.range n).filter (m x)
def isHd (m : Nat → Nat → Bool) (x : Nat) : Bool := (List.range x).all fun y => !(m x y)
def headsL (n : Nat) (m : Nat → Nat → Bool) : List Nat := (List.range n).filter (isHd m)
def cl (l : List Nat) : List Int := l.map fun k : Nat => (k : Int)
def canon (n : Nat) (m : Nat → Nat → Bool) : List (List Int) := (headsL n m).map fun x => cl (compL n m x)

section
variable {n : Nat} {m : Nat → Nat → Bool}
theorem mem_comp {x y : Nat} : y ∈ compL n m x ↔ y < n ∧ m x y = true := by simp [compL]
theorem isHd_iff {x : Nat} : isHd m x = true ↔ ∀ y, y < x → m x y = false := by simp [isHd]
theorem mem_heads {x : Nat} : x ∈ headsL n m ↔ x < n ∧ ∀ y, y < x → m x y = false := by
  unfold headsL
  rw [List.mem_filter, List.mem_range, isHd_iff]
theorem mem_cl {l : List Nat} {a : Int} : a ∈ cl l ↔ ∃ k : Nat, k ∈ l ∧ a = (k : Int) := by
  simp only [cl, List.mem_map]
  exact ⟨fun ⟨k, h1, h2⟩ => ⟨k, h1, h2.symm⟩, fun ⟨k, h1, h2⟩ => ⟨k, h1, h2.symm⟩⟩
theorem cl_inj {l r : List Nat} (h : cl l = cl r) : l = r := List.map_inj_right (fun _ _ h => Int.ofNat_inj.1 h) |>.1 h
theorem comp_sorted (x : Nat) : (compL n m x).Pairwise (· < ·) := List.Pairwise.filter _ List.pairwise_lt_range
theorem heads_sorted : (headsL n m).Pairwise (· < ·) := List.Pairwise.filter _ List.pairwise_lt_range
theorem cl_sorted {l : List Nat} (h : l.Pairwise (· < ·)) : (cl l).Pairwise (· < ·) := List.pairwise_map.2 (h.imp fun h => Int.ofNat_lt.2 h)
theorem comp_same (e : Eqv n m) {x y : Nat} (h : m x y = true) : compL n m x = compL n m y := by
  unfold compL
  refine List.filter_congr fun z _ => ?_
  cases h1 : m x z <;> cases h2 : m y z
  · rfl
  · rw [e.trans x y z h h2] at h1; cases h1
  · rw [e.trans y x z (e.symm x y h) h1] at h2; cases h2
  · rfl

def hdOf (n : Nat) (m : Nat → Nat → Bool) (x : Nat) : Nat := (compL n m x).headD x
theorem hd_spec (e : Eqv n m) {x : Nat} (hx : x < n) : ∃ r, compL n m x = hdOf n m x :: r ∧ hdOf n m x ∈ headsL n m ∧ m x (hdOf n m x) = true ∧ hdOf n m x ≤ x ∧ compL n m (hdOf n m x) = compL n m x := by
  cases hc : compL n m x with
  | nil =>
    have : x ∈ compL n m x := mem_comp.2 ⟨hx, e.refl x hx⟩
    rw [hc] at this; simp at this
  | cons y r =>
    have hy : hdOf n m x = y := by unfold hdOf; rw [hc]; rfl
    have hyc : y ∈ compL n m x := by rw [hc]; exact List.mem_cons_self ..
    have hs := comp_sorted (n := n) (m := m) x
    rw [hc] at hs
    have hle : ∀ z, z ∈ compL n m x → y ≤ z := fun z hz => by
      rw [hc] at hz
      rcases List.mem_cons.1 hz with h | h
      · omega
      · exact Nat.le_of_lt ((List.pairwise_cons.1 hs).1 z h)
    have hm := mem_comp.1 hyc
    rw [hy]
    refine ⟨r, rfl, mem_heads.2 ⟨hm.1, fun z hz => ?_⟩, hm.2, hle x (mem_comp.2 ⟨hx, e.refl x hx⟩), ?_⟩
    · cases h : m y z with
      | false => rfl
      | true =>
        have := hle z (mem_comp.2 ⟨by omega, e.trans x y z hm.2 h⟩)
        omega
    · rw [← hc]; exact (comp_same e hm.2).symm
theorem hd_head (e : Eqv n m) {x : Nat} (hx : x ∈ headsL n m) : hdOf n m x = x := by
  obtain ⟨h1, h2⟩ := mem_heads.1 hx
  obtain ⟨_, _, _, h3, h4, _⟩ := hd_spec e h1
  rcases Nat.lt_or_ge (hdOf n m x) x with h | h
  · rw [h2 _ h] at h3; cases h3
  · omega
theorem hd_same (e : Eqv n m) {x y : Nat} (hx : x < n) (hy : y < n) : hdOf n m x = hdOf n m y ↔ m x y = true := by
  obtain ⟨_, _, _, h1, _, _⟩ := hd_spec e hx
  obtain ⟨_, _, _, h2, _, _⟩ := hd_spec e hy
  constructor
  · intro h
    rw [h] at h1
    exact e.trans _ _ _ h1 (e.symm _ _ h2)
  · intro h
    have hc := comp_same e h
    obtain ⟨r, a1, _⟩ := hd_spec e hx
    obtain ⟨s, b1, _⟩ := hd_spec e hy
    rw [hc, b1] at a1
    exact (List.cons.inj a1).1.symm

def fst' (l : List Int) : Int := l.headD 0
theorem canon_of (e : Eqv n m) {L : List (List Int)} (h1 : ∀ l, l ∈ L → ∃ x, x < n ∧ l = cl (compL n m x)) (h2 : ∀ x, x < n → cl (compL n m x) ∈ L) (h3 : L.Pairwise fun a b => fst' a < fst' b) : L = canon n m := by
  have key : ∀ x, x < n → fst' (cl (compL n m x)) = (hdOf n m x : Int) := fun x hx => by
    obtain ⟨r, h, _⟩ := hd_spec e hx
    rw [h]; rfl
  have hf : L.map fst' = cl (headsL n m) := by
    refine asc_ext (List.pairwise_map.2 h3) (cl_sorted heads_sorted) fun a => ?_
    rw [mem_cl, List.mem_map]
    constructor
    · rintro ⟨l, hl, rfl⟩
      obtain ⟨x, hx, rfl⟩ := h1 l hl
      obtain ⟨_, _, h, _⟩ := hd_spec e hx
      exact ⟨_, h, key x hx⟩
    · rintro ⟨k, hk, rfl⟩
      have hkn := (mem_heads.1 hk).1
      exact ⟨_, h2 k hkn, by rw [key k hkn, hd_head e hk]⟩
  have hm : L = (L.map fst').map fun a => cl (compL n m a.toNat) := by
    rw [List.map_map]
    conv => lhs; rw [← List.map_id L]
    refine List.map_congr_left fun l hl => ?_
    obtain ⟨x, hx, rfl⟩ := h1 l hl
    obtain ⟨_, _, _, _, _, h⟩ := hd_spec e hx
    show _ = cl (compL n m (fst' (cl (compL n m x))).toNat)
    rw [key x hx, Int.toNat_natCast, h]; rfl
  rw [hm, hf]
  unfold canon cl
  rw [List.map_map]
  rfl

def rk (n : Nat) (m : Nat → Nat → Bool) (x : Nat) : Nat := ((List.range (hdOf n m x)).filter (isHd m)).length
theorem canon_len : (canon n m).length = (headsL n m).length := by simp [canon]
end
end Pl
end

section
/- Sets of numbers as bits: the program's functions, and the reference's, say the same. -/
namespace Pl
open Go Go.Av

@[simp] theorem bits_bit (i : Int) : G.bits_bit i = some (Bv.bit i) := by
  unfold G.bits_bit G.bits_bit_j1 Bv.bit
  by_cases h : i < 0
  · simp [h]; omega
  · by_cases h2 : 64 ≤ i
    · simp [h, h2]; omega
    · simp [h, h2, Sh.shl, show 0 ≤ i by omega, show i < 64 by omega]
@[simp] theorem bits_With (s : BitVec 64) (i : Int) : G.bits_With s i = some (s ||| Bv.bit i) := by simp [G.bits_With]
theorem has_bit (s : BitVec 64) (i : Int) : decide ((s &&& Bv.bit i) ≠ 0#64) = Bv.has s i := by
  unfold Bv.bit Bv.has
  by_cases h : 0 ≤ i ∧ i < 64
  · rw [if_pos h]
    simp only [h.1, h.2, decide_true, Bool.true_and]
    obtain ⟨k, rfl⟩ : ∃ k : Nat, i = k := ⟨i.toNat, by omega⟩
    have hk : k < 64 := by omega
    simp only [Int.toNat_natCast]
    cases hb : s.getLsbD k with
    | true =>
      rw [decide_eq_true_eq]
      intro h0
      have := congrArg (fun x : BitVec 64 => x.getLsbD k) h0
      simp only [BitVec.getLsbD_and, BitVec.getLsbD_shiftLeft, hk, hb, BitVec.getLsbD_zero] at this
      simp [BitVec.getLsbD_one] at this
    | false =>
      rw [decide_eq_false_iff_not]
      refine not_not_intro ?_
      apply Bv.ext
      intro j hj
      simp only [BitVec.getLsbD_and, BitVec.getLsbD_shiftLeft, hj, decide_true, Bool.true_and, BitVec.getLsbD_zero]
      by_cases hjk : j = k
      · subst hjk; simp [hb]
      · by_cases hlt : j < k
        · simp [hlt]
        · simp [hlt, BitVec.getLsbD_one]; omega
  · rw [if_neg h]
    simp only [BitVec.and_zero, ne_eq, not_true_eq_false, decide_false]
    by_cases h0 : 0 ≤ i
    · have : ¬ i < 64 := fun h1 => h ⟨h0, h1⟩
      simp [this]
    · simp [h0]
@[simp] theorem bits_Has (s : BitVec 64) (i : Int) : G.bits_Has s i = some (Bv.has s i) := by
  simp only [G.bits_Has, bits_bit, Option.bind_some, has_bit]
@[simp] theorem bits_Sub (a b : BitVec 64) : G.bits_Sub a b = some (decide (a &&& ~~~b = 0#64)) := rfl

def join (l : List (BitVec 64)) : BitVec 64 := l.foldl (· ||| ·) 0#64
theorem join_take (l : List (BitVec 64)) (k : Nat) (h : k < l.length) : join (l.take (k+1)) = join (l.take k) ||| l[k] := by
  unfold join
  rw [List.take_succ_eq_append_getElem h, List.foldl_append]; rfl
theorem bits_Join (l : List (BitVec 64)) (hl : l.length < 9223372036854775808) : G.bits_Join l = some (join l) := by
  unfold G.bits_Join
  refine count (fun k => join (l.take k)) l.length _ hl (fun k hk => ?_) ?_ rfl
  · simp only [G.bits_Join_b1, len_eq, dec_lt, hk, decide_true, if_true, idx_at hk, Option.bind_some, Sh.next, join_take l k hk, w64_succ (show k < 9223372036854775807 by omega)]
  · simp [G.bits_Join_b1, len_eq, G.bits_Join_j1, Sh.exit]
theorem join_two (a b : BitVec 64) : G.bits_Join [a, b] = some (a ||| b) := by
  rw [bits_Join _ (by simp)]; simp [join]

theorem shr_nat (a : BitVec 64) (n : Nat) : Sh.shr a (n : Int) = some (a >>> n) := by simp [Sh.shr]
theorem ctz_zero : Bv.ctz 0#64 = 64 := by decide
theorem tab_at (s : BitVec 64) (h2 : Bv.ctz s < 64) : Sh.idx Sh.tab8 ((((1#64 <<< Bv.ctz s) * Bv.dB) >>> 58).toNat : Int) = some ((Bv.ctz s : Nat) : Int) := by
  have h4 := Bv.tab_ok ⟨Bv.ctz s, h2⟩
  simp only [Sh.idx, Sh.tab8, List.getElem?_map]
  rw [if_pos (by omega), Int.toNat_natCast, h4]
  rfl
@[simp] theorem tz (s : BitVec 64) : G.bits_TrailingZeros64 s = some (Bv.ctz s : Int) := by
  unfold G.bits_TrailingZeros64
  by_cases h : s = 0#64
  · subst h
    rw [if_pos (decide_eq_true rfl), ctz_zero]; rfl
  · obtain ⟨_, h2, h3⟩ := Bv.list_cons s h
    rw [if_neg (by simpa using h), h3]
    have h5 : Sh.shr ((1#64 <<< Bv.ctz s) * 285870213051353865#64) ((58 : Nat) : Int) = some (((1#64 <<< Bv.ctz s) * 285870213051353865#64) >>> 58) := shr_nat _ _
    have e2 : (((58#64).toNat : Nat) : Int) = ((58 : Nat) : Int) := rfl
    rw [e2, h5]
    have h6 := tab_at s h2
    unfold Bv.dB at h6
    rw [Option.bind_some, h6, Option.bind_some]
    rw [w64_id (by omega) (by omega)]

def ilist (s : BitVec 64) : List Int := (Bv.list s).map fun (k : Nat) => (k : Int)
theorem ilist_len (s : BitVec 64) : (ilist s).length ≤ 64 := by simp [ilist, Bv.list_length_le]

theorem list_iter : ∀ (n : Nat) (s : BitVec 64) (acc : List Int), (Bv.list s).length < n → acc.length + (Bv.list s).length ≤ 64 →
    Sh.iter (fun (p : (BitVec 64) × (List Int)) => G.bits_List_b1 p.1 p.2) n (s, acc) = some (acc ++ ilist s) := by
  intro n
  induction n with
  | zero => intro s acc h; omega
  | succ n ih =>
    intro s acc h1 h2
    by_cases h : s = 0#64
    · subst h
      simp [Sh.iter, G.bits_List_b1, G.bits_List_j1, Sh.exit, ilist, Bv.list_zero]
    · obtain ⟨e, _, _⟩ := Bv.list_cons s h
      have hl : (Bv.list s).length = (Bv.list (s &&& (s - 1#64))).length + 1 := by rw [e]; simp
      have ha : Sh.app 8 acc [((Bv.ctz s : Nat) : Int)] = some (acc ++ [((Bv.ctz s : Nat) : Int)]) := app_ok (by simp; omega)
      have hb : G.bits_List_b1 s acc = some (.inl (s &&& (s - 1#64), acc ++ [((Bv.ctz s : Nat) : Int)])) := by
        simp only [G.bits_List_b1, h, ne_eq, not_false_eq_true, decide_true, if_true, tz, Option.bind_some, ha, Sh.next]
      simp only [Sh.iter, hb]
      rw [ih _ _ (by omega) (by simp; omega)]
      simp only [ilist, Option.some.injEq]
      rw [e]; simp
@[simp] theorem bits_List (s : BitVec 64) : G.bits_List s = some (ilist s) := by
  have := Bv.list_length_le s
  have h := list_iter Sh.FUEL s [] (Nat.lt_of_le_of_lt this (fuel_gt (by omega))) (by simpa using this)
  simpa [G.bits_List, Sh.loop] using h
theorem least_eq (s : BitVec 64) : Bv.least s = if s = 0#64 then -1 else (Bv.ctz s : Int) := by
  by_cases h : s = 0#64
  · subst h; decide
  · rw [if_neg h, Bv.least_ctz s h]
@[simp] theorem bits_Least (s : BitVec 64) : G.bits_Least s = some (Bv.least s) := by
  unfold G.bits_Least
  rw [least_eq]
  by_cases h : s = 0#64
  · simp [h]
  · simp only [h, decide_false, Bool.false_eq_true, if_false, tz, Option.bind_some]

@[simp] theorem r10_In (i : Int) : G.inquestref10_In i = some (decide (0 ≤ i ∧ i ≤ 63)) := by
  unfold G.inquestref10_In
  by_cases h : 0 ≤ i <;> simp [h]
theorem r10_Power (i : Nat) (h : i ≤ 63) : G.inquestref10_Power (i : Int) = some (1#64 <<< i) := by
  unfold G.inquestref10_Power
  refine count (fun k => 1#64 <<< k) i _ (fuel_gt (by omega)) (fun k hk => ?_) ?_ (by simp)
  · simp only [G.inquestref10_Power_b1, dec_lt, hk, decide_true, if_true, Sh.next, w64_succ (show k < 9223372036854775807 by omega)]
    congr 3
    apply BitVec.eq_of_toNat_eq
    simp only [BitVec.toNat_add, BitVec.toNat_shiftLeft, Nat.shiftLeft_eq, BitVec.toNat_ofNat]
    rw [Nat.pow_succ]; omega
  · simp [G.inquestref10_Power_b1, G.inquestref10_Power_j1, Sh.exit]
theorem div_mod_bit (s : BitVec 64) (k : Nat) (hk : k < 64) : decide (s / (1#64 <<< k) % 2#64 = 1#64) = s.getLsbD k := by
  have h1 : (1#64 <<< k).toNat = 2 ^ k := by
    have : 2 ^ k < 2 ^ 64 := Nat.pow_lt_pow_right (by omega) hk
    simp [Nat.shiftLeft_eq, Nat.mod_eq_of_lt this]
  have h2 : (s / (1#64 <<< k) % 2#64).toNat = s.toNat / 2 ^ k % 2 := by
    simp only [BitVec.toNat_umod, BitVec.toNat_udiv, h1, BitVec.toNat_ofNat]
  have h3 : s.getLsbD k = decide (s.toNat / 2 ^ k % 2 = 1) := by
    simp only [BitVec.getLsbD, Nat.testBit_eq_decide_div_mod_eq]
  rw [h3]
  congr 1
  apply propext
  rw [← h2]
  constructor
  · intro h; rw [h]; rfl
  · intro h; apply BitVec.eq_of_toNat_eq; rw [h]; rfl
@[simp] theorem r10_Has (s : BitVec 64) (i : Int) : G.inquestref10_Has s i = some (Bv.has s i) := by
  unfold G.inquestref10_Has Bv.has
  simp only [r10_In, Option.bind_some]
  by_cases h : 0 ≤ i ∧ i ≤ 63
  · obtain ⟨k, rfl⟩ : ∃ k : Nat, i = k := ⟨i.toNat, by omega⟩
    have hk : k < 64 := by omega
    have hne : (1#64 <<< k) ≠ 0#64 := by
      intro h0
      have := congrArg (fun x : BitVec 64 => x.getLsbD k) h0
      simp [hk] at this
    have e1 : Sh.udiv s (1#64 <<< k) = some (s / (1#64 <<< k)) := by simp only [Sh.udiv, hne, ne_eq, not_false_eq_true, if_true]
    simp only [h, decide_true, Bool.not_true, Bool.false_eq_true, if_false, r10_Power k (by omega), Option.bind_some, e1, Sh.umod]
    have e2 : (2#64 : BitVec 64) ≠ 0#64 := by decide
    simp only [e2, ne_eq, not_false_eq_true, if_true, Option.bind_some, div_mod_bit s k hk]
    have : ((k : Int) < 64) := by omega
    simp [this]
  · rw [decide_eq_false h]
    by_cases h0 : 0 ≤ i
    · have : ¬ i < 64 := by omega
      simp [h0, this]
    · simp [h0]
theorem has_nat (s : BitVec 64) {k : Nat} (hk : k < 64) : Bv.has s (k : Int) = s.getLsbD k := by
  unfold Bv.has
  have h1 : (0 : Int) ≤ (k : Int) := by omega
  have h2 : (k : Int) < 64 := by omega
  simp [h2]
theorem add_bit (s : BitVec 64) (k : Nat) (hk : k < 64) (hb : s.getLsbD k = false) : s + 1#64 <<< k = s ||| 1#64 <<< k := by
  rw [BitVec.add_eq_or_of_and_eq_zero]
  apply Bv.ext
  intro j hj
  simp only [BitVec.getLsbD_and, BitVec.getLsbD_shiftLeft, hj, decide_true, Bool.true_and, BitVec.getLsbD_zero]
  by_cases hjk : j = k
  · subst hjk; simp [hb]
  · by_cases hlt : j < k
    · simp [hlt]
    · simp [hlt, BitVec.getLsbD_one]; omega
theorem or_bit (s : BitVec 64) (k : Nat) (hk : k < 64) (hb : s.getLsbD k = true) : s ||| 1#64 <<< k = s := by
  apply Bv.ext
  intro j hj
  simp only [BitVec.getLsbD_or, BitVec.getLsbD_shiftLeft, hj, decide_true, Bool.true_and]
  by_cases hjk : j = k
  · subst hjk; simp [hb]
  · by_cases hlt : j < k
    · simp [hlt]
    · simp [hlt, BitVec.getLsbD_one]; omega
@[simp] theorem r10_With (s : BitVec 64) (i : Int) : G.inquestref10_With s i = some (s ||| Bv.bit i) := by
  unfold G.inquestref10_With G.inquestref10_With_j1
  simp only [r10_Has, r10_In, Option.bind_some]
  by_cases h : 0 ≤ i ∧ i ≤ 63
  · obtain ⟨k, rfl⟩ : ∃ k : Nat, i = k := ⟨i.toNat, by omega⟩
    have hk : k < 64 := by omega
    have hbit : Bv.bit (k : Int) = 1#64 <<< k := by unfold Bv.bit; rw [if_pos ⟨by omega, by omega⟩]; simp
    have hh : Bv.has s (k : Int) = s.getLsbD k := has_nat s hk
    rw [hh, hbit]
    cases hb : s.getLsbD k with
    | true => simp [or_bit s k hk hb]
    | false => simp [h, r10_Power k (by omega), add_bit s k hk hb]
  · have hbit : Bv.bit i = 0#64 := by unfold Bv.bit; rw [if_neg (by omega)]
    have hh : Bv.has s i = false := by
      unfold Bv.has
      by_cases h0 : 0 ≤ i
      · have : ¬ i < 64 := by omega
        simp [this]
      · simp [h0]
    simp [hh, hbit, h]
theorem sub_iff (a b : BitVec 64) : a &&& ~~~b = 0#64 ↔ ∀ i, a.getLsbD i = true → b.getLsbD i = true := by
  constructor
  · intro h i hi
    have hi64 : i < 64 := by
      rcases Nat.lt_or_ge i 64 with h | h
      · exact h
      · simp [BitVec.getLsbD_of_ge a i h] at hi
    have := congrArg (fun x : BitVec 64 => x.getLsbD i) h
    simp only [BitVec.getLsbD_and, BitVec.getLsbD_not, hi64, decide_true, Bool.true_and, BitVec.getLsbD_zero, hi] at this
    simpa using this
  · intro h
    apply Bv.ext
    intro i hi
    simp only [BitVec.getLsbD_and, BitVec.getLsbD_not, hi, decide_true, Bool.true_and, BitVec.getLsbD_zero]
    cases ha : a.getLsbD i with
    | true => simp [h i ha]
    | false => rfl
end Pl
namespace Pl
open Go Go.Av
end Pl
end

section
/- Graphs as rows of bits: the program's functions and the reference's, over the edges. -/
namespace Pl
open Go Go.Av

def row : Nat → (Nat → Bool) → BitVec 64
  | 0, _ => 0#64
  | n + 1, p => if p n then row n p ||| (1#64 <<< n) else row n p
theorem shift_get (k i : Nat) (hk : k < 64) : (1#64 <<< k).getLsbD i = decide (i = k) := by
  by_cases hi : i < 64
  · simp only [BitVec.getLsbD_shiftLeft, hi, decide_true, Bool.true_and]
    by_cases hik : i = k
    · subst hik; simp
    · by_cases hlt : i < k
      · simp [hlt, hik]
      · simp [hlt, hik, BitVec.getLsbD_one]; omega
  · have : ¬ i = k := by omega
    simp [BitVec.getLsbD_of_ge _ i (show 64 ≤ i by omega), this]
theorem row_get {n : Nat} (hn : n ≤ 64) (p : Nat → Bool) (i : Nat) : (row n p).getLsbD i = (decide (i < n) && p i) := by
  induction n with
  | zero => simp [row]
  | succ n ih =>
    have ih := ih (by omega)
    unfold row
    by_cases hp : p n = true
    · rw [if_pos hp, BitVec.getLsbD_or, ih, shift_get n i (by omega)]
      by_cases h : i = n
      · subst h; simp [hp]
      · by_cases h2 : i < n
        · simp [h, h2, show i < n + 1 by omega]
        · simp [h, h2, show ¬ i < n + 1 by omega]
    · rw [if_neg hp, ih]
      by_cases h : i = n
      · subst h; simp [hp]
      · by_cases h2 : i < n
        · simp [h2, show i < n + 1 by omega]
        · simp [h2, show ¬ i < n + 1 by omega]
def rows (n : Nat) (f : Nat → Nat → Bool) : List (BitVec 64) := (List.range n).map fun x => row n (f x)
@[simp] theorem rows_len (n : Nat) (f : Nat → Nat → Bool) : (rows n f).length = n := by simp [rows]
theorem rows_at {n : Nat} {f : Nat → Nat → Bool} {x : Nat} (h : x < (rows n f).length) : (rows n f)[x] = row n (f x) := by simp [rows]
theorem rows_idx {n : Nat} {f : Nat → Nat → Bool} {x : Nat} (h : x < n) : Sh.idx (rows n f) (x : Int) = some (row n (f x)) := by
  rw [idx_at (by simpa using h), rows_at]
abbrev gr (n : Nat) (f : Nat → Nat → Bool) : G.graph_Graph := ⟨(n : Int), rows n f⟩
theorem row_ext {n : Nat} (hn : n ≤ 64) {p q : Nat → Bool} : row n p = row n q ↔ ∀ i, i < n → p i = q i := by
  constructor
  · intro h i hi
    have := congrArg (fun x : BitVec 64 => x.getLsbD i) h
    simpa [row_get hn, hi] using this
  · intro h
    apply Bv.ext
    intro i _
    rw [row_get hn, row_get hn]
    by_cases hi : i < n
    · simp [hi, h i hi]
    · simp [hi]
theorem rows_ext {n : Nat} (hn : n ≤ 64) {f h : Nat → Nat → Bool} : rows n f = rows n h ↔ ∀ x y, x < n → y < n → f x y = h x y := by
  constructor
  · intro e x y hx hy
    have h1 : (rows n f)[x]? = (rows n h)[x]? := by rw [e]
    rw [List.getElem?_eq_getElem (by simpa using hx), List.getElem?_eq_getElem (by simpa using hx), rows_at, rows_at] at h1
    exact (row_ext hn).1 (Option.some.inj h1) y hy
  · intro e
    unfold rows
    apply List.map_congr_left
    intro x hx
    exact (row_ext hn).2 (fun y hy => e x y (by simpa using hx) hy)
theorem row_of {n : Nat} (hn : n ≤ 64) {r : BitVec 64} (h : ∀ i, n ≤ i → r.getLsbD i = false) : r = row n (fun i => r.getLsbD i) := by
  apply Bv.ext
  intro i _
  rw [row_get hn]
  by_cases hi : i < n
  · simp [hi]
  · simp [hi, h i (by omega)]

def rightB (N : Int) (R : List (BitVec 64)) : Bool := decide (0 ≤ N ∧ N ≤ 64 ∧ (R.length : Int) = N ∧ ∀ r ∈ R, ∀ i : Nat, i < 64 → N ≤ (i : Int) → r.getLsbD i = false)
theorem right_rows {n : Nat} (hn : n ≤ 64) (f : Nat → Nat → Bool) : rightB (n : Int) (rows n f) = true := by
  refine decide_eq_true ⟨by omega, by omega, by simp, fun r hr i _ hi => ?_⟩
  simp only [rows, List.mem_map] at hr
  obtain ⟨x, _, rfl⟩ := hr
  rw [row_get hn]
  have : ¬ i < n := by omega
  simp [this]
theorem right_is {N : Int} {R : List (BitVec 64)} (h : rightB N R = true) : ∃ n f, n ≤ 64 ∧ N = (n : Nat) ∧ R = rows n f := by
  obtain ⟨h1, h2, h3, h4⟩ := of_decide_eq_true h
  obtain ⟨n, rfl⟩ : ∃ n : Nat, N = n := ⟨N.toNat, by omega⟩
  have hl : R.length = n := by omega
  refine ⟨n, fun x y => (R.getD x 0#64).getLsbD y, by omega, rfl, ?_⟩
  apply List.ext_getElem (by simp [hl])
  intro x hx hx'
  rw [rows_at]
  have hg : R.getD x 0#64 = R[x] := by simp [List.getD, hx]
  rw [hg]
  refine row_of (by omega) (fun i hi => ?_)
  by_cases h64 : i < 64
  · exact h4 _ (List.getElem_mem hx) i h64 (by omega)
  · exact BitVec.getLsbD_of_ge _ i (by omega)
theorem right_g {g : G.graph_Graph} (h : rightB g.N g.Rows = true) : ∃ n f, n ≤ 64 ∧ g = gr n f := by
  obtain ⟨n, f, h1, h2, h3⟩ := right_is h
  exact ⟨n, f, h1, by cases g; simp_all⟩

theorem nodes_get (n : Nat) (hn : n ≤ 64) (i : Nat) (hi : i < 64) : ((1#64 <<< n) - 1#64).getLsbD i = decide (i < n) := by
  rcases Nat.lt_or_ge n 64 with h | h
  · have e : ((1#64 <<< n) - 1#64).toNat = 2 ^ n - 1 := by
      have h1 : 2 ^ n < 2 ^ 64 := Nat.pow_lt_pow_right (by omega) h
      have h2 : 0 < 2 ^ n := Nat.pow_pos (by omega)
      rw [BitVec.toNat_sub]
      simp only [BitVec.toNat_shiftLeft, BitVec.toNat_ofNat, Nat.shiftLeft_eq]
      omega
    simp only [BitVec.getLsbD, e, Nat.testBit_two_pow_sub_one]
  · have : n = 64 := by omega
    subst this
    have e : (1#64 <<< 64) - 1#64 = BitVec.allOnes 64 := by decide
    rw [e, BitVec.getLsbD_allOnes]
theorem join_get (l : List (BitVec 64)) (i : Nat) : (join l).getLsbD i = l.any (·.getLsbD i) := by
  have key : ∀ (l : List (BitVec 64)) (a : BitVec 64), (l.foldl (· ||| ·) a).getLsbD i = (a.getLsbD i || l.any (·.getLsbD i)) := by
    intro l
    induction l with
    | nil => intro a; simp
    | cons x l ih => intro a; simp [ih, Bool.or_assoc]
  simp [join, key]
theorem graph_Right (g : G.graph_Graph) (hl : g.Rows.length < 9223372036854775808) : G.graph_Right g = some (rightB g.N g.Rows) := by
  unfold G.graph_Right G.graph_nodes rightB
  by_cases h1 : 0 ≤ g.N
  · by_cases h2 : g.N ≤ 64
    · by_cases h3 : (g.Rows.length : Int) = g.N
      · have hs : Sh.shl 1#64 g.N = some (1#64 <<< g.N.toNat) := by simp [Sh.shl, h1]
        simp only [h1, h2, h3, decide_true, if_true, bits_Join _ hl, hs, Option.bind_some, bits_Sub, true_and, Option.some.injEq]
        congr 1
        apply propext
        rw [sub_iff]
        constructor
        · intro h r hr i hi hN
          cases hb : r.getLsbD i with
          | false => rfl
          | true =>
            have := h i (by rw [join_get, List.any_eq_true]; exact ⟨r, hr, hb⟩)
            rw [nodes_get _ (by omega) i hi] at this
            have := of_decide_eq_true this
            omega
        · intro h i hi
          have hi64 : i < 64 := by
            rcases Nat.lt_or_ge i 64 with h' | h'
            · exact h'
            · rw [BitVec.getLsbD_of_ge _ i h'] at hi; cases hi
          rw [nodes_get _ (by omega) i hi64]
          apply decide_eq_true
          rw [join_get, List.any_eq_true] at hi
          obtain ⟨r, hr, hb⟩ := hi
          rcases Nat.lt_or_ge i g.N.toNat with h' | h'
          · exact h'
          · rw [h r hr i hi64 (by omega)] at hb; cases hb
      · simp [h1, h2, h3]
    · simp [h1, h2]
  · simp [h1]
@[simp] theorem Right_gr {n : Nat} (hn : n ≤ 64) (f : Nat → Nat → Bool) : G.graph_Right (gr n f) = some true := by
  rw [graph_Right _ (by simp; omega)]
  exact congrArg some (right_rows hn f)
theorem graph_New (n : Nat) (hn : n ≤ 64) : G.graph_New (n : Int) = some (⟨(n : Int), List.replicate n 0#64⟩, 0) := by
  unfold G.graph_New G.graph_New_j1
  have h1 : ¬ (n : Int) < 0 := by omega
  have h2 : ¬ (64 : Int) < (n : Int) := by omega
  simp only [h1, h2, decide_false, Bool.false_eq_true, if_false, mk_ok (show 8 * n ≤ 140737488355328 by omega) (show n ≤ 4611686018427387904 by omega), Option.bind_some]
theorem zero_rows (n : Nat) : List.replicate n 0#64 = rows n (fun _ _ => false) := by
  unfold rows
  apply List.ext_getElem (by simp)
  intro x h1 h2
  simp only [List.getElem_replicate, List.getElem_map]
  have : ∀ m, row m (fun _ => false) = 0#64 := fun m => by
    induction m with
    | zero => rfl
    | succ m ih => simp [row, ih]
  rw [this]
theorem row_has {n : Nat} (hn : n ≤ 64) (p : Nat → Bool) {k : Nat} (hk : k < n) : Bv.has (row n p) (k : Int) = p k := by
  rw [has_nat _ (by omega), row_get hn]; simp [hk]
theorem row_has_out {n : Nat} (hn : n ≤ 64) (p : Nat → Bool) {b : Int} (hb : b < 0 ∨ (n : Int) ≤ b) : Bv.has (row n p) b = false := by
  unfold Bv.has
  rcases hb with hb | hb
  · have : ¬ 0 ≤ b := by omega
    simp [this]
  · rw [row_get hn]
    have : ¬ b.toNat < n := by omega
    simp [this]
def hasB (n : Nat) (f : Nat → Nat → Bool) (a b : Int) : Bool := decide (0 ≤ a ∧ a < n ∧ 0 ≤ b ∧ b < n) && f a.toNat b.toNat
theorem graph_Has {n : Nat} (hn : n ≤ 64) (f : Nat → Nat → Bool) (a b : Int) : G.graph_Has (gr n f) a b = some (hasB n f a b) := by
  unfold G.graph_Has hasB
  simp only [Right_gr hn, Option.bind_some, if_true]
  by_cases h1 : 0 ≤ a
  · by_cases h2 : a < n
    · obtain ⟨k, rfl⟩ : ∃ k : Nat, a = k := ⟨a.toNat, by omega⟩
      have hk : k < n := by omega
      simp only [h1, h2, decide_true, if_true, rows_idx hk, Option.bind_some, bits_Has]
      by_cases h3 : 0 ≤ b ∧ b < n
      · obtain ⟨j, rfl⟩ : ∃ j : Nat, b = j := ⟨b.toNat, by omega⟩
        rw [row_has hn _ (by omega)]
        simp [h3]
      · rw [row_has_out hn _ (by omega)]
        have : ¬ (True ∧ True ∧ 0 ≤ b ∧ b < n) := fun h => h3 h.2.2
        rw [decide_eq_false this]; rfl
    · simp [h1, h2]
  · simp [h1]
theorem hasB_nat {n : Nat} {f : Nat → Nat → Bool} {x y : Nat} (hx : x < n) (hy : y < n) : hasB n f (x : Int) (y : Int) = f x y := by
  simp [hasB, hx, hy]
theorem row_with {n : Nat} (hn : n ≤ 64) (p : Nat → Bool) {k : Nat} (hk : k < n) : row n p ||| Bv.bit (k : Int) = row n (fun i => p i || decide (i = k)) := by
  apply Bv.ext
  intro i hi
  rw [row_get hn, BitVec.getLsbD_or, row_get hn]
  have hb : Bv.bit (k : Int) = 1#64 <<< k := by unfold Bv.bit; rw [if_pos ⟨by omega, by omega⟩]; simp
  rw [hb]
  simp only [BitVec.getLsbD_shiftLeft, hi, decide_true, Bool.true_and]
  by_cases hik : i = k
  · subst hik; simp [hk]
  · by_cases hlt : i < k
    · simp [hlt, hik]
    · simp [hlt, hik, BitVec.getLsbD_one]; omega
theorem rows_set {n : Nat} (f : Nat → Nat → Bool) {x : Nat} (_hx : x < n) (p : Nat → Bool) : (rows n f).set x (row n p) = rows n (fun a => if a = x then p else f a) := by
  apply List.ext_getElem (by simp)
  intro a h1 h2
  rw [List.getElem_set, rows_at, rows_at]
  by_cases ha : x = a
  · subst ha; simp
  · simp [ha, Ne.symm ha]
theorem graph_Turn_bad (g : G.graph_Graph) (hl : g.Rows.length < 9223372036854775808) (h : rightB g.N g.Rows = false) : G.graph_Turn g = some (⟨0, []⟩, 1) := by
  unfold G.graph_Turn
  simp [graph_Right g hl, h]
theorem row_or {n : Nat} (hn : n ≤ 64) (p q : Nat → Bool) : row n p ||| row n q = row n (fun i => p i || q i) := by
  apply Bv.ext
  intro i _
  rw [BitVec.getLsbD_or, row_get hn, row_get hn, row_get hn]
  by_cases hi : i < n <;> simp [hi]

theorem ilist_at {s : BitVec 64} {k : Nat} (h : k < (Bv.list s).length) : Sh.idx (ilist s) (k : Int) = some (((Bv.list s)[k] : Nat) : Int) := by
  have h' : k < (ilist s).length := by simpa [ilist] using h
  rw [idx_at h']; simp [ilist]
theorem list_row {n : Nat} (hn : n ≤ 64) (p : Nat → Bool) {i : Nat} : i ∈ Bv.list (row n p) ↔ i < n ∧ p i = true := by
  rw [Bv.mem_list, row_get hn]; simp
theorem list_mem_lt {n : Nat} (hn : n ≤ 64) (p : Nat → Bool) {k : Nat} (h : k < (Bv.list (row n p)).length) : (Bv.list (row n p))[k] < n := ((list_row hn p).1 (List.getElem_mem h)).1
def edgesOf (n : Nat) (f : Nat → Nat → Bool) : List G.graph_Edge := (List.range n).flatMap fun x => (ilist (row n (f x))).map fun y => ⟨(x : Int), y⟩
theorem edges_take (n : Nat) (f : Nat → Nat → Bool) (k : Nat) (_h : k < n) : ((List.range (k + 1)).flatMap fun x => (ilist (row n (f x))).map fun y => (⟨(x : Int), y⟩ : G.graph_Edge)) = ((List.range k).flatMap fun x => (ilist (row n (f x))).map fun y => (⟨(x : Int), y⟩ : G.graph_Edge)) ++ (ilist (row n (f k))).map fun y => ⟨(k : Int), y⟩ := by
  rw [List.range_succ, List.flatMap_append]; simp
theorem edges_len (n : Nat) (f : Nat → Nat → Bool) (k : Nat) : ((List.range k).flatMap fun x => (ilist (row n (f x))).map fun y => (⟨(x : Int), y⟩ : G.graph_Edge)).length ≤ 64 * k := by
  induction k with
  | zero => simp
  | succ k ih =>
    rw [List.range_succ, List.flatMap_append, List.length_append]
    have := ilist_len (row n (f k))
    simp only [List.flatMap_cons, List.flatMap_nil, List.append_nil, List.length_map]
    omega
theorem edges_inner (x : Nat) (hx : x < 64) (s : BitVec 64) (acc : List G.graph_Edge) (hacc : acc.length ≤ 4096) :
    Sh.loop (fun (p : (List G.graph_Edge) × Int) => G.graph_Edges_b2 (x : Int) (ilist s) p.1 p.2) (acc, 0) = some (.inl (acc ++ (ilist s).map (fun y => ⟨(x : Int), y⟩), ((x + 1 : Nat) : Int))) := by
  have hl := ilist_len s
  refine count (fun k => acc ++ ((ilist s).take k).map (fun y => ⟨(x : Int), y⟩)) (ilist s).length _ (fuel_gt (by omega)) (fun k hk => ?_) ?_ (by simp)
  · simp only [G.graph_Edges_b2, len_eq, dec_lt, hk, decide_true, if_true, idx_at hk, Option.bind_some]
    rw [app_ok (by simp; omega)]
    simp only [Option.bind_some, Sh.next, w64_succ (show k < 9223372036854775807 by omega)]
    rw [List.take_succ_eq_append_getElem hk, List.map_append, List.append_assoc]
    rfl
  · simp only [G.graph_Edges_b2, len_eq, Int.lt_irrefl, decide_false, Bool.false_eq_true, if_false, G.graph_Edges_j2, next_some, exit_some, List.take_length, w64_succ (show x < 9223372036854775807 by omega)]
theorem graph_Edges {n : Nat} (hn : n ≤ 64) (f : Nat → Nat → Bool) : G.graph_Edges (gr n f) = some (edgesOf n f) := by
  unfold G.graph_Edges
  simp only [Right_gr hn, Option.bind_some, Bool.not_true, Bool.false_eq_true, if_false]
  refine count (fun k => (List.range k).flatMap fun x => (ilist (row n (f x))).map fun y => ⟨(x : Int), y⟩) n _ (fuel_gt (by omega)) (fun k hk => ?_) ?_ (by simp)
  · have hl := edges_len n f k
    simp only [G.graph_Edges_b1, len_eq, rows_len, dec_lt, hk, decide_true, if_true, rows_idx hk, Option.bind_some, bits_List]
    rw [edges_inner k (by omega) _ _ (by omega), edges_take n f k hk]
  · simp only [G.graph_Edges_b1, len_eq, rows_len, Int.lt_irrefl, decide_false, Bool.false_eq_true, if_false, G.graph_Edges_j1, exit_some]
    rfl
theorem mem_edges {n : Nat} (hn : n ≤ 64) (f : Nat → Nat → Bool) {e : G.graph_Edge} : e ∈ edgesOf n f ↔ ∃ x y : Nat, x < n ∧ y < n ∧ f x y = true ∧ e = ⟨(x : Int), (y : Int)⟩ := by
  simp only [edgesOf, List.mem_flatMap, List.mem_range, List.mem_map, ilist, list_row hn]
  constructor
  · rintro ⟨x, hx, _, ⟨y, ⟨hy, hf⟩, rfl⟩, rfl⟩
    exact ⟨x, y, hx, hy, hf, rfl⟩
  · rintro ⟨x, y, hx, hy, hf, rfl⟩
    exact ⟨x, hx, _, ⟨y, ⟨hy, hf⟩, rfl⟩, rfl⟩
theorem edges_le {n : Nat} (hn : n ≤ 64) (f : Nat → Nat → Bool) : (edgesOf n f).length ≤ 4096 := by
  have := edges_len n f n
  unfold edgesOf; omega

def turnF (f : Nat → Nat → Bool) : Nat → Nat → Bool := fun x y => f y x
def fromE (l : List G.graph_Edge) : Nat → Nat → Bool := fun x y => l.any fun e => decide (e.B = (x : Int)) && decide (e.A = (y : Int))
theorem from_set {n : Nat} (hn : n ≤ 64) (l : List G.graph_Edge) {x y : Nat} (hx : x < n) (hy : y < n) :
    (rows n (fromE l)).set x (row n (fromE l x) ||| Bv.bit (y : Int)) = rows n (fromE (l ++ [⟨(y : Int), (x : Int)⟩])) := by
  rw [row_with hn _ hy, rows_set _ hx, rows_ext hn]
  intro a b _ _
  unfold fromE
  rw [List.any_append]
  by_cases ha : a = x
  · subst ha
    by_cases hb : b = y
    · subst hb; simp
    · have : ¬ y = b := fun h => hb h.symm
      simp [hb, Int.ofNat_inj, this]
  · have : ¬ x = a := fun h => ha h.symm
    simp [ha, Int.ofNat_inj, this]
theorem graph_Turn {n : Nat} (hn : n ≤ 64) (f : Nat → Nat → Bool) : G.graph_Turn (gr n f) = some (gr n (turnF f), 0) := by
  unfold G.graph_Turn
  simp only [Right_gr hn, Option.bind_some, Bool.not_true, Bool.false_eq_true, if_false, graph_New n hn, graph_Edges hn]
  have hl := edges_le hn f
  refine count (fun k => rows n (fromE ((edgesOf n f).take k))) (edgesOf n f).length _ (fuel_gt (by omega)) (fun k hk => ?_) ?_ ?_
  · obtain ⟨x, y, hx, hy, _, he⟩ := (mem_edges hn f).1 (List.getElem_mem hk)
    simp only [G.graph_Turn_b1, len_eq, dec_lt, hk, decide_true, if_true, idx_at hk, Option.bind_some, he, rows_idx hy, bits_With, set_at, from_set hn _ hy hx, Sh.next, w64_succ (show k < 9223372036854775807 by omega)]
    rw [List.take_succ_eq_append_getElem hk, he]
  · simp only [G.graph_Turn_b1, len_eq, Int.lt_irrefl, decide_false, Bool.false_eq_true, if_false, G.graph_Turn_j1, exit_some, List.take_length]
    have : rows n (fromE (edgesOf n f)) = rows n (turnF f) := by
      rw [rows_ext hn]
      intro x y hx hy
      unfold fromE turnF
      rw [Bool.eq_iff_iff, List.any_eq_true]
      constructor
      · rintro ⟨e, h1, h2⟩
        obtain ⟨a, b, _, _, h5, rfl⟩ := (mem_edges hn f).1 h1
        simp only [Bool.and_eq_true, decide_eq_true_eq, Int.ofNat_inj] at h2
        obtain ⟨rfl, rfl⟩ := h2
        exact h5
      · intro h
        exact ⟨⟨(y : Int), (x : Int)⟩, (mem_edges hn f).2 ⟨y, x, hy, hx, h, rfl⟩, by simp⟩
    rw [this]
  · rw [zero_rows]; rfl
end Pl
end

section
/- The reference's graphs. -/
namespace Pl
open Go Go.Av

@[simp] theorem r12_Node (g : G.inquestref12_G) (a : Int) : G.inquestref12_Node g a = some (decide (0 ≤ a ∧ a < g.N)) := by
  unfold G.inquestref12_Node
  by_cases h : 0 ≤ a <;> simp [h]
end Pl
namespace Pl
open Go Go.Av
end Pl
end

section
/- Where ways lead. -/
namespace Pl
open Go Go.Av

inductive Way (n : Nat) (f : Nat → Nat → Bool) : Nat → Nat → Prop
  | edge {x y : Nat} : x < n → y < n → f x y = true → Way n f x y
  | cons {x y z : Nat} : x < n → y < n → f x y = true → Way n f y z → Way n f x z

theorem Way.trans {n : Nat} {f : Nat → Nat → Bool} {x y z : Nat} (h : Way n f x y) (k : Way n f y z) : Way n f x z := by
  induction h with
  | edge hx hy hf => exact .cons hx hy hf k
  | cons hx hy hf _ ih => exact .cons hx hy hf (ih k)
theorem Way.left {n : Nat} {f : Nat → Nat → Bool} {x y : Nat} (h : Way n f x y) : x < n := by cases h <;> assumption
theorem Way.right {n : Nat} {f : Nat → Nat → Bool} {x y : Nat} (h : Way n f x y) : y < n := by
  induction h with
  | edge _ hy _ => exact hy
  | cons _ _ _ _ ih => exact ih
theorem Way.snoc {n : Nat} {f : Nat → Nat → Bool} {x y z : Nat} (h : Way n f x y) (hz : z < n) (hf : f y z = true) : Way n f x z := h.trans (.edge h.right hz hf)
theorem Way.mono {n : Nat} {f h : Nat → Nat → Bool} (hm : ∀ x y, x < n → y < n → f x y = true → Way n h x y) {x y : Nat} (w : Way n f x y) : Way n h x y := by
  induction w with
  | edge hx hy hf => exact hm _ _ hx hy hf
  | cons hx hy hf _ ih => exact (hm _ _ hx hy hf).trans ih
theorem Way.last {n : Nat} {f : Nat → Nat → Bool} {x z : Nat} (h : Way n f x z) : ∃ y, y < n ∧ f y z = true ∧ (y = x ∨ Way n f x y) := by
  induction h with
  | edge hx hy hf => exact ⟨_, hx, hf, .inl rfl⟩
  | cons hx hy hf _ ih =>
    obtain ⟨y, h1, h2, h3⟩ := ih
    refine ⟨y, h1, h2, .inr ?_⟩
    rcases h3 with rfl | h3
    · exact .edge hx hy hf
    · exact .cons hx hy hf h3

noncomputable def wayF (n : Nat) (f : Nat → Nat → Bool) : Nat → Nat → Bool := fun x y => @decide (Way n f x y) (Classical.propDecidable _)
theorem way_iff {n : Nat} {f : Nat → Nat → Bool} {x y : Nat} : wayF n f x y = true ↔ Way n f x y := by
  unfold wayF; exact @decide_eq_true_iff _ (Classical.propDecidable _)

theorem filter_lt {α : Type} (l : List α) (p q : α → Bool) (hpq : ∀ x, q x = true → p x = true) {k : α} (hk : k ∈ l) (hp : p k = true) (hq : q k = false) : (l.filter q).length < (l.filter p).length := by
  induction l with
  | nil => cases hk
  | cons a l ih =>
    have hle : ∀ l : List α, (l.filter q).length ≤ (l.filter p).length := fun l => by
      induction l with
      | nil => simp
      | cons b l ih =>
        simp only [List.filter_cons]
        cases hb : q b with
        | true => simp [hpq b hb]; exact ih
        | false =>
          cases p b <;> simp <;> omega
    simp only [List.filter_cons]
    rcases List.mem_cons.1 hk with rfl | hk
    · simp only [hp, hq, if_true, Bool.false_eq_true, if_false, List.length_cons]
      have := hle l; omega
    · have := ih hk
      cases hb : q a with
      | true => simp [hpq a hb]; exact this
      | false => cases p a <;> simp <;> omega

structure FromInv (n : Nat) (f : Nat → Nat → Bool) (a : Nat) (seen left : BitVec 64) : Prop where
  way : ∀ y, (seen.getLsbD y = true ∨ left.getLsbD y = true) → Way n f a y
  first : ∀ y, y < n → f a y = true → seen.getLsbD y = true ∨ left.getLsbD y = true
  next : ∀ x y, seen.getLsbD x = true → y < n → f x y = true → seen.getLsbD y = true ∨ left.getLsbD y = true
  apart : ∀ y, seen.getLsbD y = true → left.getLsbD y = false

theorem getLsbD_andNot (a b : BitVec 64) (i : Nat) : (a &&& ~~~b).getLsbD i = (a.getLsbD i && !b.getLsbD i) := by
  by_cases h : i < 64
  · simp [h]
  · simp [BitVec.getLsbD_of_ge a i (by omega)]
theorem least_spec (s : BitVec 64) : (s = 0#64 ∧ Bv.least s = -1) ∨ ∃ k : Nat, s ≠ 0#64 ∧ Bv.least s = (k : Int) ∧ s.getLsbD k = true ∧ ∀ j, j < k → s.getLsbD j = false := by
  by_cases h : s = 0#64
  · left; subst h; exact ⟨rfl, by decide⟩
  · right
    obtain ⟨e, h2, _⟩ := Bv.list_cons s h
    refine ⟨Bv.ctz s, h, Bv.least_ctz s h, ?_, fun j hj => ?_⟩
    · rw [← Bv.mem_list, e]; simp
    · cases hb : s.getLsbD j with
      | false => rfl
      | true =>
        have h3 : j ∈ Bv.list s := Bv.mem_list.2 hb
        have h4 := Bv.list_sorted s
        rw [e] at h3 h4
        rcases List.mem_cons.1 h3 with rfl | h3
        · omega
        · have := List.rel_of_pairwise_cons h4 h3; omega
theorem bit_get (k i : Nat) (hk : k < 64) : (Bv.bit (k : Int)).getLsbD i = decide (i = k) := by
  have hb : Bv.bit (k : Int) = 1#64 <<< k := by unfold Bv.bit; rw [if_pos ⟨by omega, by omega⟩]; simp
  rw [hb, shift_get k i hk]
theorem from_step {n : Nat} (hn : n ≤ 64) (f : Nat → Nat → Bool) {a : Nat} {seen left : BitVec 64} (h : FromInv n f a seen left) {k : Nat} (hk : left.getLsbD k = true) :
    k < n ∧ FromInv n f a (seen ||| Bv.bit (k : Int)) ((left ||| row n (f k)) &&& ~~~(seen ||| Bv.bit (k : Int))) := by
  have hw := h.way k (.inr hk)
  have hkn := hw.right
  have hk64 : k < 64 := by omega
  have e1 : ∀ i, (seen ||| Bv.bit (k : Int)).getLsbD i = (seen.getLsbD i || decide (i = k)) := fun i => by rw [BitVec.getLsbD_or, bit_get k i hk64]
  have e2 : ∀ i, ((left ||| row n (f k)) &&& ~~~(seen ||| Bv.bit (k : Int))).getLsbD i = ((left.getLsbD i || (decide (i < n) && f k i)) && !(seen.getLsbD i || decide (i = k))) := fun i => by
    rw [getLsbD_andNot, BitVec.getLsbD_or, row_get hn, e1]
  have cover : ∀ y, (seen.getLsbD y = true ∨ left.getLsbD y = true ∨ (y < n ∧ f k y = true)) → (seen ||| Bv.bit (k : Int)).getLsbD y = true ∨ ((left ||| row n (f k)) &&& ~~~(seen ||| Bv.bit (k : Int))).getLsbD y = true := fun y hy => by
    rw [e1, e2]
    by_cases hs : seen.getLsbD y = true
    · simp [hs]
    · by_cases hyk : y = k
      · simp [hyk]
      · right
        simp only [Bool.not_eq_true] at hs
        rcases hy with hy | hy | hy
        · rw [hy] at hs; cases hs
        · simp [hs, hyk, hy]
        · simp [hs, hyk, hy.1, hy.2]
  refine ⟨hkn, ?_, ?_, ?_, ?_⟩
  · intro y hy
    rw [e1, e2] at hy
    simp only [Bool.or_eq_true, Bool.and_eq_true, decide_eq_true_eq] at hy
    rcases hy with (hy | rfl) | ⟨(hy | ⟨h1, h2⟩), _⟩
    · exact h.way y (.inl hy)
    · exact hw
    · exact h.way y (.inr hy)
    · exact hw.snoc h1 h2
  · intro y hy hf
    rcases h.first y hy hf with h1 | h1
    · exact cover y (.inl h1)
    · exact cover y (.inr (.inl h1))
  · intro x y hx hy hf
    rw [e1] at hx
    simp only [Bool.or_eq_true, decide_eq_true_eq] at hx
    rcases hx with hx | rfl
    · rcases h.next x y hx hy hf with h1 | h1
      · exact cover y (.inl h1)
      · exact cover y (.inr (.inl h1))
    · exact cover y (.inr (.inr ⟨hy, hf⟩))
  · intro y hy
    rw [e1] at hy
    rw [e2, hy]; simp
theorem from_end {n : Nat} (hn : n ≤ 64) (f : Nat → Nat → Bool) {a : Nat} {seen : BitVec 64} (h : FromInv n f a seen 0#64) : seen = row n (wayF n f a) := by
  apply Bv.ext
  intro i _
  rw [row_get hn, Bool.eq_iff_iff]
  simp only [Bool.and_eq_true, decide_eq_true_eq, way_iff]
  constructor
  · intro hs
    have := h.way i (.inl hs)
    exact ⟨this.right, this⟩
  · rintro ⟨_, hw⟩
    have key : ∀ x y, Way n f x y → (x = a ∨ seen.getLsbD x = true) → seen.getLsbD y = true := by
      intro x y w
      induction w with
      | edge hx hy hf =>
        rintro (rfl | hs)
        · rcases h.first _ hy hf with h1 | h1
          · exact h1
          · simp at h1
        · rcases h.next _ _ hs hy hf with h1 | h1
          · exact h1
          · simp at h1
      | cons hx hy hf _ ih =>
        rintro (rfl | hs)
        · rcases h.first _ hy hf with h1 | h1
          · exact ih (.inr h1)
          · simp at h1
        · rcases h.next _ _ hs hy hf with h1 | h1
          · exact ih (.inr h1)
          · simp at h1
    exact key a i hw (.inl rfl)
theorem from_iter {n : Nat} (hn : n ≤ 64) (f : Nat → Nat → Bool) (a : Nat) : ∀ (m : Nat) (seen left : BitVec 64), FromInv n f a seen left → ((List.range n).filter fun i => !seen.getLsbD i).length < m →
    Sh.iter (fun (p : (BitVec 64) × (BitVec 64)) => G.reach_From_b1 (gr n f) p.1 p.2) m (seen, left) = some (row n (wayF n f a)) := by
  intro m
  induction m with
  | zero => intro seen left _ h; omega
  | succ m ih =>
    intro seen left hI hm
    rcases least_spec left with ⟨rfl, h2⟩ | ⟨k, h1, h2, h3, _⟩
    · have hb : G.reach_From_b1 (gr n f) seen 0#64 = some (.inr seen) := by
        simp [G.reach_From_b1, h2, Sh.exit]
      simp only [Sh.iter, hb]
      rw [from_end hn f hI]
    · obtain ⟨hk, hI'⟩ := from_step hn f hI h3
      have hneg : ¬ ((k : Int) < 0) := by omega
      have hb : G.reach_From_b1 (gr n f) seen left = some (.inl (seen ||| Bv.bit (k : Int), (left ||| row n (f k)) &&& ~~~(seen ||| Bv.bit (k : Int)))) := by
        simp only [G.reach_From_b1, bits_Least, h2, Option.bind_some, hneg, decide_false, Bool.false_eq_true, if_false, bits_With, rows_idx hk, join_two, Sh.next]
      simp only [Sh.iter, hb]
      refine ih _ _ hI' ?_
      have hs : seen.getLsbD k = false := by
        cases hb : seen.getLsbD k with
        | false => rfl
        | true => have := hI.apart k hb; rw [h3] at this; cases this
      have := filter_lt (List.range n) (fun i => !seen.getLsbD i) (fun i => !(seen ||| Bv.bit (k : Int)).getLsbD i) (fun x hx => by
        rw [BitVec.getLsbD_or] at hx; simp at hx; simp [hx.1]) (k := k) (by simpa using hk) (by simp [hs]) (by rw [BitVec.getLsbD_or, bit_get k k (by omega)]; simp)
      omega
theorem from_start {n : Nat} (hn : n ≤ 64) (f : Nat → Nat → Bool) {a : Nat} (ha : a < n) : FromInv n f a 0#64 (row n (f a)) where
  way y hy := by
    rcases hy with hy | hy
    · simp at hy
    · rw [row_get hn] at hy
      simp only [Bool.and_eq_true, decide_eq_true_eq] at hy
      exact .edge ha hy.1 hy.2
  first y hy hf := by right; rw [row_get hn]; simp [hy, hf]
  next x y hx := by simp at hx
  apart y hy := by simp at hy
theorem reach_From {n : Nat} (hn : n ≤ 64) (f : Nat → Nat → Bool) {a : Nat} (ha : a < n) : G.reach_From (gr n f) (a : Int) = some (row n (wayF n f a)) := by
  unfold G.reach_From
  have h1 : ¬ (a : Int) < 0 := by omega
  have h2 : ¬ (n : Int) ≤ (a : Int) := by omega
  simp only [Right_gr hn, Option.bind_some, Bool.not_true, Bool.false_eq_true, if_false, h1, h2, decide_false, G.reach_From_j1, rows_idx ha, bits_Least]
  have h0 := from_start hn f ha
  rcases least_spec (row n (f a)) with ⟨e, h2⟩ | ⟨k, e1, h2, h3, _⟩
  · rw [h2]
    rw [e] at h0
    simp [from_end hn f h0]
  · obtain ⟨hk, hI'⟩ := from_step hn f h0 h3
    have hneg : ¬ ((k : Int) < 0) := by omega
    simp only [h2, hneg, decide_false, Bool.false_eq_true, if_false, bits_With, Option.bind_some, rows_idx hk, join_two]
    unfold Sh.loop
    refine from_iter hn f a Sh.FUEL _ _ hI' ?_
    have := List.length_filter_le (fun i => !(0#64 ||| Bv.bit (k : Int)).getLsbD i) (List.range n)
    rw [List.length_range] at this
    exact fuel_gt (by omega)
noncomputable def cycB (n : Nat) (f : Nat → Nat → Bool) : Bool := @decide (∃ x, Way n f x x) (Classical.propDecidable _)
theorem cyc_iff {n : Nat} {f : Nat → Nat → Bool} : cycB n f = true ↔ ∃ x, Way n f x x := by
  unfold cycB; exact @decide_eq_true_iff _ (Classical.propDecidable _)
theorem reach_Cyclic {n : Nat} (hn : n ≤ 64) (f : Nat → Nat → Bool) : G.reach_Cyclic (gr n f) = some (cycB n f) := by
  unfold G.reach_Cyclic
  refine (scan0 n (fun k => !wayF n f k k) false true (fuel_gt (by omega)) (fun k hk => ?_) ?_).trans ?_
  · simp only [G.reach_Cyclic_b1, Right_gr hn, Option.bind_some, if_true, dec_lt, hk, decide_true, G.reach_Cyclic_j2, reach_From hn f hk, bits_Has, row_has hn _ hk, exit_some, Sh.next, w64_succ (show k < 9223372036854775807 by omega)]
    cases wayF n f k k <;> rfl
  · simp only [G.reach_Cyclic_b1, Right_gr hn, Option.bind_some, if_true, Int.lt_irrefl, decide_false, G.reach_Cyclic_j2, Bool.false_eq_true, if_false, G.reach_Cyclic_j1, exit_some]
  · congr 1
    by_cases h : ∀ k, k < n → (!wayF n f k k) = true
    · rw [if_pos h]
      symm
      rw [← Bool.not_eq_true, cyc_iff]
      rintro ⟨x, hx⟩
      have := h x hx.left
      simp [way_iff.2 hx] at this
    · rw [if_neg h]
      symm
      rw [cyc_iff]
      apply Classical.byContradiction
      intro hno
      apply h
      intro k hk
      cases hb : wayF n f k k with
      | false => rfl
      | true => exact absurd ⟨k, way_iff.1 hb⟩ hno
theorem reach_Cyclic_bad (g : G.graph_Graph) (hl : g.Rows.length < 9223372036854775808) (h : rightB g.N g.Rows = false) : G.reach_Cyclic g = some false := by
  unfold G.reach_Cyclic
  exact Sh.loop_run (fun _ => 0) 0 false (fuel_gt (by omega)) (fun k hk => by omega) (by simp [G.reach_Cyclic_b1, graph_Right g hl, h, G.reach_Cyclic_j2, G.reach_Cyclic_j1, Sh.exit])
end Pl
end

section
/- Cycles: which lists are, and what is told of them. -/
namespace Pl
open Go Go.Av

theorem cbit_get (k i : Nat) (hk : k < 64) : (Bv.bit (k : Int)).getLsbD i = decide (i = k) := by
  have hb : Bv.bit (k : Int) = 1#64 <<< k := by unfold Bv.bit; rw [if_pos ⟨by omega, by omega⟩]; simp
  rw [hb, shift_get k i hk]
theorem shortC {l : List (BitVec 64)} (h : ¬ (70 : Int) < Sh.len l) : l.length ≤ 70 := by simp only [len_eq] at h; omega
def setOf (l : List Int) : BitVec 64 := l.foldl (fun s i => s ||| Bv.bit i) 0#64
theorem setOf_snoc (l : List Int) (i : Int) : setOf (l ++ [i]) = setOf l ||| Bv.bit i := by simp [setOf]
theorem setOf_get {n : Nat} (hn : n ≤ 64) : ∀ (l : List Int), (∀ a ∈ l, 0 ≤ a ∧ a < n) → ∀ i : Nat, (setOf l).getLsbD i = decide ((i : Int) ∈ l) := by
  have key : ∀ (l : List Int) (s : BitVec 64), (∀ a ∈ l, 0 ≤ a ∧ a < n) → ∀ i : Nat, (l.foldl (fun s i => s ||| Bv.bit i) s).getLsbD i = (s.getLsbD i || decide ((i : Int) ∈ l)) := by
    intro l
    induction l with
    | nil => intro s _ i; simp
    | cons a l ih =>
      intro s h i
      have ha := h a (by simp)
      obtain ⟨k, rfl⟩ : ∃ k : Nat, a = k := ⟨a.toNat, by omega⟩
      simp only [List.foldl_cons]
      rw [ih _ (fun b hb => h b (List.mem_cons_of_mem _ hb)), BitVec.getLsbD_or, cbit_get k i (by omega)]
      by_cases hi : i = k
      · subst hi; simp
      · have : ¬ (i : Int) = (k : Int) := by omega
        simp [hi, this]
  intro l h i
  have := key l 0#64 h i
  simpa [setOf] using this
theorem set_has {n : Nat} (hn : n ≤ 64) {l : List Int} (h : ∀ a ∈ l, 0 ≤ a ∧ a < n) (a : Int) (ha : 0 ≤ a ∧ a < n) : Bv.has (setOf l) a = decide (a ∈ l) := by
  obtain ⟨k, rfl⟩ : ∃ k : Nat, a = k := ⟨a.toNat, by omega⟩
  rw [has_nat _ (by omega), setOf_get hn l h]

theorem len_of_cover {n : Nat} : ∀ {l : List Int}, (∀ a ∈ l, 0 ≤ a ∧ a < n) → l.Nodup → l.length ≤ n := by
  induction n with
  | zero =>
    intro l h _
    cases l with
    | nil => simp
    | cons a l => have := h a (by simp); omega
  | succ n ih =>
    intro l h hd
    by_cases hm : (n : Int) ∈ l
    · have h1 := ih (l := l.erase (n : Int)) (fun a ha => by
        have ha' := (List.Nodup.mem_erase_iff hd).1 ha
        have := h a ha'.2
        have hne : a ≠ (n : Int) := ha'.1
        omega) (hd.erase _)
      rw [List.length_erase_of_mem hm] at h1
      omega
    · have := ih (l := l) (fun a ha => by
        have := h a ha
        have hne : a ≠ (n : Int) := fun e => hm (e ▸ ha)
        omega) hd
      omega
theorem cover {n : Nat} {l : List Int} (h : ∀ a ∈ l, 0 ≤ a ∧ a < n) (hd : l.Nodup) (hl : l.length = n) {k : Nat} (hk : k < n) : (k : Int) ∈ l := by
  apply Classical.byContradiction
  intro hno
  have := len_of_cover (n := n) (l := (k : Int) :: l) (fun a ha => by
    rcases List.mem_cons.1 ha with rfl | ha
    · omega
    · exact h a ha) (List.nodup_cons.2 ⟨hno, hd⟩)
  simp at this
  omega


theorem scanG {σ α : Type} {b : σ → Option (σ ⊕ α)} (S : Nat → σ) (m : Nat) (p : Nat → Bool) (A B : Option α) (hm : m < Sh.FUEL) (h : ∀ k, k < m → (∀ j, j < k → p j = true) → b (S k) = if p k then some (.inl (S (k + 1))) else Sh.exit B) (hr : (∀ j, j < m → p j = true) → b (S m) = Sh.exit A) {s : σ} (hs : s = S 0) :
    Sh.loop b s = if ∀ k, k < m → p k = true then A else B := by
  subst hs
  by_cases hall : ∀ k, k < m → p k = true
  · rw [if_pos hall]
    refine run_exit S m A hm (fun k hk => ?_) (hr hall) rfl
    rw [h k hk (fun j hj => hall j (by omega)), if_pos (hall k hk)]
  · rw [if_neg hall]
    have hex : ∃ k, k < m ∧ p k = false := by
      apply Classical.byContradiction
      intro hn
      exact hall (fun k h1 => by
        cases hp : p k with
        | true => rfl
        | false => exact absurd ⟨k, h1, hp⟩ hn)
    obtain ⟨k, hk, hmin⟩ := exists_least _ hex
    have before : ∀ j, j < k → p j = true := fun j hj => by
      cases hp : p j with
      | true => rfl
      | false => have := hmin j ⟨by omega, hp⟩; omega
    refine run_exit S k B (by omega) (fun q hq => ?_) ?_ rfl
    · rw [h q (by omega) (fun j hj => before j (by omega)), if_pos (before q hq)]
    · rw [h k hk.1 before, if_neg (by rw [hk.2]; simp)]

structure Cyc (n : Nat) (f : Nat → Nat → Bool) (l : List Int) : Prop where
  some : 0 < l.length
  nodes : ∀ a ∈ l, 0 ≤ a ∧ a < n
  nodup : l.Nodup
  edge : ∀ (i : Nat) (h : i < l.length), f l[i].toNat (l[(i + 1) % l.length]'(Nat.mod_lt _ (by omega))).toNat = true
noncomputable def cyB (n : Nat) (f : Nat → Nat → Bool) (l : List Int) : Bool := @decide (Cyc n f l) (Classical.propDecidable _)
theorem cy_iff {n : Nat} {f : Nat → Nat → Bool} {l : List Int} : cyB n f l = true ↔ Cyc n f l := by
  unfold cyB; exact @decide_eq_true_iff _ (Classical.propDecidable _)
theorem hasB_iff {n : Nat} {f : Nat → Nat → Bool} {a b : Int} : hasB n f a b = true ↔ (0 ≤ a ∧ a < n ∧ 0 ≤ b ∧ b < n) ∧ f a.toNat b.toNat = true := by
  unfold hasB; simp only [Bool.and_eq_true, decide_eq_true_eq]

def prevOf (l : List Int) (k : Nat) : Int := (l[(k + l.length - 1) % l.length]?).getD 0
def cycAt (n : Nat) (f : Nat → Nat → Bool) (l : List Int) (k : Nat) : Bool := match l[k]? with
  | some a => hasB n f (prevOf l k) a && !decide (a ∈ l.take k)
  | none => false
theorem prev_zero {l : List Int} (h : 0 < l.length) : prevOf l 0 = l[l.length - 1] := by
  unfold prevOf
  have e : (0 + l.length - 1) % l.length = l.length - 1 := by rw [Nat.zero_add]; exact Nat.mod_eq_of_lt (by omega)
  rw [e, List.getElem?_eq_getElem (by omega)]; rfl
theorem prev_succ {l : List Int} {k : Nat} (h : k < l.length) : prevOf l (k + 1) = l[k] := by
  unfold prevOf
  have e : (k + 1 + l.length - 1) % l.length = k := by
    rw [show k + 1 + l.length - 1 = k + l.length by omega, Nat.add_mod_right]; exact Nat.mod_eq_of_lt h
  rw [e, List.getElem?_eq_getElem h]; rfl
theorem mem_take {l : List Int} {k : Nat} (hk : k ≤ l.length) {a : Int} : a ∈ l.take k ↔ ∃ (j : Nat) (hj : j < k), l[j] = a := by
  constructor
  · intro h
    obtain ⟨j, hj, rfl⟩ := List.getElem_of_mem h
    have hj' : j < k := by rw [List.length_take] at hj; omega
    exact ⟨j, hj', by rw [List.getElem_take]⟩
  · rintro ⟨j, hj, rfl⟩
    rw [← List.getElem_take (j := k) (h := by rw [List.length_take]; omega)]
    exact List.getElem_mem _
theorem cycAt_iff {n : Nat} {f : Nat → Nat → Bool} {l : List Int} {k : Nat} (hk : k < l.length) : cycAt n f l k = true ↔ hasB n f (prevOf l k) l[k] = true ∧ ∀ (j : Nat) (hj : j < k), l[j] ≠ l[k] := by
  unfold cycAt
  rw [List.getElem?_eq_getElem hk]
  simp only [Bool.and_eq_true, Bool.not_eq_true', decide_eq_false_iff_not]
  rw [mem_take (by omega)]
  constructor
  · rintro ⟨h1, h2⟩; exact ⟨h1, fun j hj e => h2 ⟨j, hj, e⟩⟩
  · rintro ⟨h1, h2⟩; exact ⟨h1, fun ⟨j, hj, e⟩ => h2 j hj e⟩
theorem cyc_all {n : Nat} {f : Nat → Nat → Bool} {l : List Int} (h0 : 0 < l.length) : (∀ k, k < l.length → cycAt n f l k = true) ↔ Cyc n f l := by
  constructor
  · intro h
    have h' : ∀ k (hk : k < l.length), _ := fun k hk => (cycAt_iff hk).1 (h k hk)
    refine ⟨h0, fun a ha => ?_, List.pairwise_iff_getElem.2 fun i j hi hj hij => (h' j hj).2 i hij, fun i hi => ?_⟩
    · obtain ⟨k, hk, rfl⟩ := List.getElem_of_mem ha
      have := (hasB_iff.1 (h' k hk).1).1
      exact ⟨this.2.2.1, this.2.2.2⟩
    · by_cases hl : i + 1 = l.length
      · have e : (i + 1) % l.length = 0 := by rw [hl, Nat.mod_self]
        have := (h' 0 h0).1
        rw [prev_zero h0] at this
        have e2 : l[l.length - 1] = l[i] := by congr 1; omega
        rw [e2] at this
        simp only [e]
        exact (hasB_iff.1 this).2
      · have e : (i + 1) % l.length = i + 1 := Nat.mod_eq_of_lt (by omega)
        have := (h' (i + 1) (by omega)).1
        rw [prev_succ hi] at this
        simp only [e]
        exact (hasB_iff.1 this).2
  · intro c k hk
    rw [cycAt_iff hk]
    refine ⟨hasB_iff.2 ?_, fun j hj => List.pairwise_iff_getElem.1 c.nodup j k (by omega) hk hj⟩
    have hn := c.nodes _ (List.getElem_mem hk)
    cases k with
    | zero =>
      have := c.edge (l.length - 1) (by omega)
      have e : (l.length - 1 + 1) % l.length = 0 := by rw [show l.length - 1 + 1 = l.length by omega, Nat.mod_self]
      simp only [e] at this
      rw [prev_zero h0]
      have hm := c.nodes _ (List.getElem_mem (show l.length - 1 < l.length by omega))
      exact ⟨⟨hm.1, hm.2, hn.1, hn.2⟩, this⟩
    | succ k =>
      have := c.edge k (by omega)
      have e : (k + 1) % l.length = k + 1 := Nat.mod_eq_of_lt hk
      simp only [e] at this
      rw [prev_succ (by omega)]
      have hm := c.nodes _ (List.getElem_mem (show k < l.length by omega))
      exact ⟨⟨hm.1, hm.2, hn.1, hn.2⟩, this⟩
theorem cyc_le {n : Nat} {f : Nat → Nat → Bool} {l : List Int} (c : Cyc n f l) : l.length ≤ n := len_of_cover c.nodes c.nodup
theorem cy_false {n : Nat} {f : Nat → Nat → Bool} {l : List Int} (h : ¬ Cyc n f l) : cyB n f l = false := by
  cases e : cyB n f l with
  | false => rfl
  | true => exact absurd (cy_iff.1 e) h
theorem if_cy {n : Nat} {f : Nat → Nat → Bool} {l : List Int} (h0 : 0 < l.length) : (if ∀ k, k < l.length → cycAt n f l k = true then some true else some false) = some (cyB n f l) := by
  by_cases h : ∀ k, k < l.length → cycAt n f l k = true
  · rw [if_pos h, cy_iff.2 ((cyc_all h0).1 h)]
  · rw [if_neg h, cy_false (fun c => h ((cyc_all h0).2 c))]

theorem cycle_Is {n : Nat} (hn : n ≤ 64) (f : Nat → Nat → Bool) (l : List Int) (hl : l.length < 9223372036854775808) : G.cycle_Is (gr n f) l = some (cyB n f l) := by
  unfold G.cycle_Is
  by_cases h0 : l.length = 0
  · have : (l.length : Int) = 0 := by omega
    simp only [len_eq, this, decide_true, if_true, G.cycle_Is_j1]
    rw [cy_false (fun c => by have := c.some; omega)]
  · have h0' : ¬ (l.length : Int) = 0 := by omega
    simp only [len_eq, h0', decide_false, Bool.false_eq_true, if_false]
    by_cases hle : (n : Int) < (l.length : Int)
    · simp only [hle, decide_true, G.cycle_Is_j1, if_true]
      rw [cy_false (fun c => by have := cyc_le c; omega)]
    · have e1 : w64 ((l.length : Int) - 1) = ((l.length - 1 : Nat) : Int) := by rw [w64_id (by omega) (by omega)]; omega
      simp only [hle, decide_false, G.cycle_Is_j1, Bool.false_eq_true, if_false, len_eq, e1]
      rw [idx_at (show l.length - 1 < l.length by omega)]
      simp only [Option.bind_some]
      rw [← if_cy (by omega)]
      refine scanG (fun k => (setOf (l.take k), prevOf l k, (k : Int))) l.length (cycAt n f l) (some true) (some false) (fuel_gt (by omega)) (fun k hk hbef => ?_) (fun _ => ?_) ?_
      · have hnodes : ∀ a ∈ l.take k, 0 ≤ a ∧ a < n := fun a ha => by
          obtain ⟨j, hj, rfl⟩ := (mem_take (by omega)).1 ha
          have := (hasB_iff.1 ((cycAt_iff (by omega)).1 (hbef j hj)).1).1
          exact ⟨this.2.2.1, this.2.2.2⟩
        simp only [G.cycle_Is_b1, len_eq, dec_lt, hk, decide_true, if_true, idx_at hk, Option.bind_some, graph_Has hn]
        have hat : cycAt n f l k = (hasB n f (prevOf l k) l[k] && !decide (l[k] ∈ l.take k)) := by
          unfold cycAt; rw [List.getElem?_eq_getElem hk]
        rw [hat]
        cases hh : hasB n f (prevOf l k) l[k] with
        | false => simp [G.cycle_Is_j3]
        | true =>
          have hnk := (hasB_iff.1 hh).1
          have hs : Bv.has (setOf (l.take k)) l[k] = decide (l[k] ∈ l.take k) := set_has hn hnodes l[k] ⟨hnk.2.2.1, hnk.2.2.2⟩
          simp only [Bool.not_true, Bool.false_eq_true, if_false, bits_Has, Option.bind_some, hs, Bool.true_and]
          by_cases hm : l[k] ∈ l.take k
          · simp [hm, G.cycle_Is_j3]
          · simp only [hm, decide_false, G.cycle_Is_j3, Bool.false_eq_true, if_false, bits_With, Option.bind_some, Bool.not_false, if_true, Sh.next, w64_succ (show k < 9223372036854775807 by omega), prev_succ hk]
            rw [List.take_succ_eq_append_getElem hk, setOf_snoc]
      · simp only [G.cycle_Is_b1, len_eq, Int.lt_irrefl, decide_false, Bool.false_eq_true, if_false, G.cycle_Is_j2]
      · simp only [List.take_zero, prev_zero (show 0 < l.length by omega)]
        rfl
end Pl
end

section
/- The search for components: that the program does what the search does. -/
namespace Pl
open Go Go.Av

def eF (n : Nat) (f : Nat → Nat → Bool) (x y : Nat) : Prop := x < n ∧ y < n ∧ f x y = true
def rF (n : Nat) (f : Nat → Nat → Bool) (x y : Nat) : Prop := x = y ∨ Way n f x y
theorem rch (n : Nat) (f : Nat → Nat → Bool) : Rch (eF n f) (rF n f) where
  refl x := .inl rfl
  trans x y z h k := by
    rcases h with rfl | h
    · exact k
    · rcases k with rfl | k
      · exact .inr h
      · exact .inr (h.trans k)
  edge x y h := .inr (.edge h.1 h.2.1 h.2.2)
  closed P hP x y h hx := by
    rcases h with rfl | h
    · exact hx
    · induction h with
      | edge a b c => exact hP _ _ hx ⟨a, b, c⟩
      | cons a b c _ ih => exact ih (hP _ _ hx ⟨a, b, c⟩)
noncomputable def tog (n : Nat) (f : Nat → Nat → Bool) (x y : Nat) : Bool := decide (x = y) || (wayF n f x y && wayF n f y x)
theorem tog_iff {n : Nat} {f : Nat → Nat → Bool} {x y : Nat} : tog n f x y = true ↔ rF n f x y ∧ rF n f y x := by
  unfold tog rF
  rw [Bool.or_eq_true, decide_eq_true_eq, Bool.and_eq_true, way_iff, way_iff]
  constructor
  · rintro (h | ⟨h1, h2⟩)
    · exact ⟨.inl h, .inl h.symm⟩
    · exact ⟨.inr h1, .inr h2⟩
  · rintro ⟨h1, h2⟩
    rcases h1 with h1 | h1
    · exact .inl h1
    · rcases h2 with h2 | h2
      · exact .inl h2.symm
      · exact .inr ⟨h1, h2⟩
theorem tog_eqv (n : Nat) (f : Nat → Nat → Bool) : Eqv n (tog n f) where
  refl x _ := tog_iff.2 ⟨.inl rfl, .inl rfl⟩
  symm x y h := tog_iff.2 (tog_iff.1 h).symm
  trans x y z h k := by
    have h := tog_iff.1 h
    have k := tog_iff.1 k
    exact tog_iff.2 ⟨(rch n f).trans _ _ _ h.1 k.1, (rch n f).trans _ _ _ k.2 h.2⟩

abbrev Tn (n : Nat) (f : Nat → Nat → Bool) (s : Ts) : Prop := Ti n (eF n f) (rF n f) s
def wI (n : Nat) (W : Nat → Nat) : List Int := arT n fun x => (W x : Int)
def openE (s : Ts) : List Int := cl s.os.reverse
def compE (s : Ts) : List (List Int) := s.comps.map cl
theorem cl_len (l : List Nat) : (cl l).length = l.length := by simp [cl]
theorem dec_le {n : Nat} {W : Nat → Nat} {l : List Nat} (hs : l.Pairwise (fun a b => W b < W a)) (hl : ∀ a ∈ l, a < n) : l.length ≤ n := by
  have h1 := len_of_cover (n := n) (l := cl l) (fun a ha => by
    obtain ⟨k, hk, rfl⟩ := mem_cl.1 ha
    have := hl k hk
    omega) (List.pairwise_map.2 (hs.imp fun {a b} h e => by
      have : a = b := Int.ofNat_inj.1 e
      subst this; omega))
  rwa [cl_len] at h1
theorem cs_le {n : Nat} {f : Nat → Nat → Bool} {s : Ts} (h : Tn n f s) : s.cs.length ≤ n := dec_le h.csort fun a ha => h.lt a (h.copen a ha).1
theorem os_le {n : Nat} {f : Nat → Nat → Bool} {s : Ts} (h : Tn n f s) : s.os.length ≤ n := dec_le h.osort fun a ha => h.lt a ((h.oiff a).1 ha).1

theorem pushP {n : Nat} (hn : n ≤ 64) (x : G.scc_place) {l : List G.scc_place} (hl : l.length ≤ n) : G.stack_Stack_scc_place_Push__1 x ((n + 1 : Nat) : Int) l = some (l ++ [x], true) := by
  unfold G.stack_Stack_scc_place_Push__1
  have : ¬ ((n + 1 : Nat) : Int) ≤ Sh.len l := by simp only [Sh.len]; omega
  rw [decide_eq_false this, app_ok (by simp only [List.length_cons, List.length_nil]; omega)]; rfl
theorem pushI {n : Nat} (hn : n ≤ 64) (x : Int) {l : List Int} (hl : l.length ≤ n) : G.stack_Stack_int_Push__1 x ((n + 1 : Nat) : Int) l = some (l ++ [x], true) := by
  unfold G.stack_Stack_int_Push__1
  have : ¬ ((n + 1 : Nat) : Int) ≤ Sh.len l := by simp only [Sh.len]; omega
  rw [decide_eq_false this, app_ok (by simp only [List.length_cons, List.length_nil]; omega)]; rfl
theorem topP (m : Int) (l : List G.scc_place) (x : G.scc_place) (hl : l.length < 1000) : G.stack_Stack_scc_place_Top__1 m (l ++ [x]) = some (x, true) := by
  unfold G.stack_Stack_scc_place_Top__1
  have h1 : ¬ (Sh.len (l ++ [x])) = 0 := by simp [Sh.len]; omega
  have h2 : w64 (Sh.len (l ++ [x]) - 1) = (l.length : Int) := by simp only [Sh.len, List.length_append, List.length_cons, List.length_nil]; rw [w64_id (by omega) (by omega)]; omega
  rw [decide_eq_false h1, h2, idx_at (by simp)]
  simp
theorem topI (m : Int) (l : List Int) (x : Int) (hl : l.length < 1000) : G.stack_Stack_int_Top__1 m (l ++ [x]) = some (x, true) := by
  unfold G.stack_Stack_int_Top__1
  have h1 : ¬ (Sh.len (l ++ [x])) = 0 := by simp [Sh.len]; omega
  have h2 : w64 (Sh.len (l ++ [x]) - 1) = (l.length : Int) := by simp only [Sh.len, List.length_append, List.length_cons, List.length_nil]; rw [w64_id (by omega) (by omega)]; omega
  rw [decide_eq_false h1, h2, idx_at (by simp)]
  simp
theorem popP (m : Int) (l : List G.scc_place) (x : G.scc_place) (hl : l.length < 1000) : G.stack_Stack_scc_place_Pop__1 m (l ++ [x]) = some (x, true, l) := by
  unfold G.stack_Stack_scc_place_Pop__1
  have h2 : w64 (Sh.len (l ++ [x]) - 1) = ((l.length : Nat) : Int) := by simp only [Sh.len, List.length_append, List.length_cons, List.length_nil]; rw [w64_id (by omega) (by omega)]; omega
  rw [topP m l x hl]
  simp only [Option.bind_some, if_true, h2]
  rw [show (0 : Int) = ((0 : Nat) : Int) from rfl, sub_ok (Nat.zero_le _) (by simp)]
  simp [G.stack_Stack_scc_place_Pop__1_j1]
theorem popI (m : Int) (l : List Int) (x : Int) (hl : l.length < 1000) : G.stack_Stack_int_Pop__1 m (l ++ [x]) = some (x, true, l) := by
  unfold G.stack_Stack_int_Pop__1
  have h2 : w64 (Sh.len (l ++ [x]) - 1) = ((l.length : Nat) : Int) := by simp only [Sh.len, List.length_append, List.length_cons, List.length_nil]; rw [w64_id (by omega) (by omega)]; omega
  rw [topI m l x hl]
  simp only [Option.bind_some, if_true, h2]
  rw [show (0 : Int) = ((0 : Nat) : Int) from rfl, sub_ok (Nat.zero_le _) (by simp)]
  simp [G.stack_Stack_int_Pop__1_j1]

theorem pEnter {n : Nat} (hn : n ≤ 64) (f : Nat → Nat → Bool) {y : Nat} (hy : y < n) (W L : Nat → Nat) (D : List Bool) (met : Int) (C : List (List Int)) {c : List G.scc_place} {o : List Int} (hc : c.length ≤ n) (ho : o.length ≤ n) :
    G.scc_walk_enter__1 (y : Int) (n : Int) (rows n f) met (wI n W) (wI n L) D ((n + 1 : Nat) : Int) ((n + 1 : Nat) : Int) C c o = some (c ++ [⟨(y : Int), row n (f y)⟩], o ++ [(y : Int)]) := by
  unfold G.scc_walk_enter__1 wI
  simp only [arT_idx _ hy, Option.bind_some, rows_idx hy, pushP hn _ hc, pushI hn _ ho]
theorem wI_set {n : Nat} (W : Nat → Nat) {y : Nat} (m : Nat) : Sh.set (wI n W) (y : Int) (m : Int) = wI n fun a => if a = y then m else W a := by
  unfold wI
  rw [arT_set]
  refine arT_ext fun x _ => ?_
  by_cases e : x = y
  · simp [e]
  · simp [e]
theorem wI_idx {n : Nat} (W : Nat → Nat) {y : Nat} (hy : y < n) : Sh.idx (wI n W) (y : Int) = some (W y : Int) := arT_idx _ hy
theorem wI_ext {n : Nat} {W V : Nat → Nat} (h : ∀ x, x < n → W x = V x) : wI n W = wI n V := arT_ext fun x hx => by rw [h x hx]

theorem pop_loop {n : Nat} (hn : n ≤ 64) (low : List Int) (comps : List (List Int)) (calls : List G.scc_place) (D : Nat → Bool) (x : Nat) (hx : x < n) (os' : List Nat) (hos : os'.length ≤ n) : ∀ (S : List Nat) (done : List Nat), (∀ a ∈ S, a < n ∧ a ≠ x) → S.length + done.length ≤ n →
    ∀ (m : Nat), S.length < m → Sh.iter (fun (p : (List Bool) × (List Int) × (List Int)) => G.scc_walk_leave__1_b1 (x : Int) low ((n + 1 : Nat) : Int) ((n + 1 : Nat) : Int) comps calls p.1 p.2.1 p.2.2) m (arT n (fun a => D a || decide (a ∈ done)), cl (S ++ x :: os').reverse, cl done) =
      G.scc_walk_leave__1_j2 (x : Int) low ((n + 1 : Nat) : Int) comps calls (cl (done ++ S ++ [x])) (arT n (fun a => D a || decide (a ∈ done ++ S ++ [x]))) (cl os'.reverse) := by
  intro S
  induction S with
  | nil =>
    intro done _ hl m hm
    obtain ⟨m, rfl⟩ : ∃ k, m = k + 1 := ⟨m - 1, by simp at hm; omega⟩
    refine loop_exit ?_
    have e : cl ([] ++ x :: os').reverse = cl os'.reverse ++ [(x : Int)] := by simp [cl]
    simp only [G.scc_walk_leave__1_b1, e, popI _ (cl os'.reverse) (x : Int) (by simp [cl]; omega), Option.bind_some, arT_idx _ hx, decide_true, if_true]
    rw [app_ok (by simp only [cl_len, List.length_cons, List.length_nil]; simp at hl; omega)]
    simp only [Option.bind_some, arT_set, List.append_nil]
    congr 2
    · simp [cl]
    · refine arT_ext fun a _ => ?_
      by_cases ha : a = x
      · subst ha; simp
      · simp [ha]
  | cons z S ih =>
    intro done hS hl m hm
    obtain ⟨m, rfl⟩ : ∃ k, m = k + 1 := ⟨m - 1, by simp at hm; omega⟩
    obtain ⟨hz, hzx⟩ := hS z (List.mem_cons_self ..)
    have e : cl ((z :: S) ++ x :: os').reverse = cl (S ++ x :: os').reverse ++ [(z : Int)] := by simp [cl]
    have hne : ¬ (z : Int) = (x : Int) := fun h => hzx (Int.ofNat_inj.1 h)
    simp only [List.length_cons] at hl
    rw [loop_step (s' := (arT n (fun a => D a || decide (a ∈ done ++ [z])), cl (S ++ x :: os').reverse, cl (done ++ [z]))) ?_, ih (done ++ [z]) (fun a ha => hS a (List.mem_cons_of_mem _ ha)) (by simp; omega) m (by simp at hm; omega)]
    · simp
    · simp only [G.scc_walk_leave__1_b1, e, popI _ (cl (S ++ x :: os').reverse) (z : Int) (by simp only [cl_len, List.length_reverse, List.length_append, List.length_cons]; omega), Option.bind_some, arT_idx _ hz, hne, decide_false, Bool.false_eq_true, if_false]
      rw [app_ok (by simp only [cl_len, List.length_cons, List.length_nil]; omega)]
      simp only [Option.bind_some, arT_set, Sh.next]
      congr 3
      · refine arT_ext fun a _ => ?_
        by_cases ha : a = z
        · subst ha; simp
        · simp [ha]
      · simp [cl]

def callL (n : Nat) (A : Nat → Nat → Bool) (cs : List Nat) : List G.scc_place := cs.reverse.map fun x : Nat => ⟨(x : Int), row n (A x)⟩
theorem callL_cons (n : Nat) (A : Nat → Nat → Bool) (x : Nat) (cs : List Nat) : callL n A (x :: cs) = callL n A cs ++ [⟨(x : Int), row n (A x)⟩] := by simp [callL]
theorem callL_len (n : Nat) (A : Nat → Nat → Bool) (cs : List Nat) : (callL n A cs).length = cs.length := by simp [callL]
theorem callL_ext {n : Nat} {A B : Nat → Nat → Bool} {cs : List Nat} (h : ∀ x ∈ cs, A x = B x) : callL n A cs = callL n B cs := List.map_congr_left fun x hx => by rw [h x (List.mem_reverse.1 hx)]
theorem min_nat (a b : Nat) : Sh.min (a : Int) (b : Int) = ((Nat.min a b : Nat) : Int) := by
  unfold Sh.min
  by_cases h : b < a
  · rw [if_pos (by omega), show Nat.min a b = b from Nat.min_eq_right (by omega)]
  · rw [if_neg (by omega), show Nat.min a b = a from Nat.min_eq_left (by omega)]
theorem comps_le {n : Nat} {f : Nat → Nat → Bool} {s : Ts} (h : Tn n f s) : s.comps.length ≤ n := by
  have hne : ∀ c ∈ s.comps, ∃ a r, c = a :: r := fun c hc => by
    obtain ⟨x, hx, _⟩ := h.cis c hc
    cases c with
    | nil => simp at hx
    | cons a r => exact ⟨a, r, rfl⟩
  have h1 := len_of_cover (n := n) (l := s.comps.map fun c => ((c.headD 0 : Nat) : Int)) (fun a ha => by
    obtain ⟨c, hc, rfl⟩ := List.mem_map.1 ha
    obtain ⟨a, r, rfl⟩ := hne c hc
    have := h.lt a (h.done a (h.cdone _ hc a (List.mem_cons_self ..)))
    simp only [List.headD_cons]; omega) (List.pairwise_map.2 (h.cdis.imp_of_mem fun {c d} hc hd hcd e => by
    obtain ⟨a, r, rfl⟩ := hne c hc
    obtain ⟨b, q, rfl⟩ := hne d hd
    have e : a = b := Int.ofNat_inj.1 e
    subst e
    exact hcd a (List.mem_cons_self ..) (List.mem_cons_self ..)))
  simpa using h1
theorem sort_set {n : Nat} {l : List Nat} (hd : l.Nodup) (hl : l.length ≤ 64) {c : List Nat} (hc : c.Pairwise (· < ·)) (hm : ∀ a, a ∈ c ↔ a ∈ l) (_hn : ∀ a ∈ l, a < n) : Sh.sort (cl l) = some (cl c) := by
  have hcd : (cl c).Nodup := List.pairwise_map.2 (hc.imp fun {a b} h e => by
    have : a = b := Int.ofNat_inj.1 e
    omega)
  have hld : (cl l).Nodup := List.pairwise_map.2 (hd.imp fun {a b} h e => h (Int.ofNat_inj.1 e))
  have hp : (Sh.isort (cl l)).Perm (cl c) := (Sh.isort_perm _).trans ((List.perm_ext_iff_of_nodup hld hcd).2 fun a => by
    rw [mem_cl, mem_cl]
    exact ⟨fun ⟨k, h1, h2⟩ => ⟨k, (hm k).2 h1, h2⟩, fun ⟨k, h1, h2⟩ => ⟨k, (hm k).1 h1, h2⟩⟩)
  unfold Sh.sort
  rw [if_pos (by rw [cl_len]; omega), Sh.sorted_one hp (Sh.isort_sorted _) ((cl_sorted hc).imp fun h => Int.le_of_lt h)]

theorem pLeave {n : Nat} (hn : n ≤ 64) {f : Nat → Nat → Bool} {s : Ts} (h : Tn n f s) {x : Nat} {cs' : List Nat} (hc : s.cs = x :: cs') (hA : ∀ z, eF n f x z → s.A x z = false) (met : Int) :
    ∃ s', Tn n f s' ∧ s'.cs = cs' ∧ s'.W = s.W ∧ s'.met = s.met ∧ s'.A = s.A ∧ (∀ c ∈ s'.comps, c ∈ s.comps ∨ c.Pairwise (· < ·)) ∧
      G.scc_walk_leave__1 (x : Int) (n : Int) (rows n f) met (wI n s.W) (wI n s.L) (arT n s.D) ((n + 1 : Nat) : Int) ((n + 1 : Nat) : Int) (compE s) (callL n s.A cs') (openE s) = some (wI n s'.L, arT n s'.D, openE s', compE s') := by
  have hxc : x ∈ s.cs := by rw [hc]; exact List.mem_cons_self ..
  have hxo := h.copen x hxc
  have hxn := h.lt x hxo.1
  have hcl := cs_le h
  rw [hc, List.length_cons] at hcl
  have hol := os_le h
  have hlow := h.low x hxo
  unfold G.scc_walk_leave__1
  simp only [wI_idx _ hxn, Option.bind_some]
  by_cases he : s.L x = s.W x
  · -- a component
    have e1 : (s.L x : Int) = (s.W x : Int) := by rw [he]
    rw [decide_eq_true e1]
    simp only [if_true]
    obtain ⟨S, os', hos⟩ := List.append_of_mem ((h.oiff x).2 hxo)
    have hso := h.osort
    rw [hos] at hso
    obtain ⟨_, hso2, hso3⟩ := List.pairwise_append.1 hso
    have hSx : ∀ a ∈ S, s.W x < s.W a := fun a ha => hso3 a ha x (List.mem_cons_self ..)
    have hbx : ∀ a ∈ os', s.W a < s.W x := (List.pairwise_cons.1 hso2).1
    have hS : ∀ a, a ∈ S ++ [x] ↔ s.opn a ∧ s.W x ≤ s.W a := fun a => by
      rw [← h.oiff a, hos]
      simp only [List.mem_append, List.mem_cons, List.not_mem_nil, or_false]
      constructor
      · rintro (k | k)
        · exact ⟨.inl k, Nat.le_of_lt (hSx a k)⟩
        · exact ⟨.inr (.inl k), by rw [k]; exact Nat.le_refl _⟩
      · rintro ⟨k | k | k, hw⟩
        · exact .inl k
        · exact .inr k
        · have := hbx a k; omega
    have hSn : ∀ a ∈ S ++ [x], a < n := fun a ha => h.lt a ((hS a).1 ha).1.1
    have hSl : (S ++ [x]).length + os'.length ≤ n := by
      have := hol
      rw [hos] at this
      simp only [List.length_append, List.length_cons, List.length_nil] at this ⊢
      omega
    have hnd : (S ++ [x]).Nodup := by
      have h1 : (S ++ [x]).Pairwise (fun a b => s.W b < s.W a) := by
        refine List.pairwise_append.2 ⟨(List.pairwise_append.1 hso).1, List.pairwise_singleton _ _, fun a ha b hb => ?_⟩
        rw [List.mem_singleton.1 hb]; exact hSx a ha
      exact h1.imp fun {a b} k e => by subst e; omega
    let c := (List.range n).filter fun a => decide (a ∈ S ++ [x])
    have hcS : ∀ a, a ∈ c ↔ a ∈ S ++ [x] := fun a => by
      simp only [c, List.mem_filter, List.mem_range, decide_eq_true_eq]
      exact ⟨fun k => k.2, fun k => ⟨hSn a k, k⟩⟩
    have hcs : c.Pairwise (· < ·) := List.Pairwise.filter _ List.pairwise_lt_range
    have hcn : c.Nodup := hcs.imp fun h => Nat.ne_of_lt h
    have T := h.close (rch n f) hc hA he (os' := os') (S := S ++ [x]) (by rw [hos]; simp) hS hcS hcn
    refine ⟨_, T, rfl, rfl, rfl, rfl, fun d hd => by
      rcases List.mem_append.1 hd with k | k
      · exact .inl k
      · rw [List.mem_singleton.1 k]; exact .inr hcs, ?_⟩
    have hD : arT n (fun a => s.D a || decide (a ∈ [] ++ S ++ [x])) = arT n (s.close x c cs' os').D := by
      refine arT_ext fun a _ => ?_
      show _ = (s.D a || decide (s.W x ≤ s.W a))
      rw [List.nil_append]
      cases hd : s.D a with
      | true => rfl
      | false =>
        simp only [Bool.false_or]
        refine decide_eq_decide.2 ((hS a).trans ⟨fun k => k.2, fun k => ⟨⟨by have := hxo.1; omega, hd⟩, k⟩⟩)
    have hpop := pop_loop hn (wI n s.L) (compE s) (callL n s.A cs') s.D x hxn os' (by omega) S [] (fun a ha => ⟨hSn a (List.mem_append_left _ ha), fun e => by have := hSx a ha; rw [e] at this; omega⟩) (by simp only [List.length_append, List.length_cons, List.length_nil] at hSl ⊢; omega) Sh.FUEL (fuel_gt (by simp only [List.length_append, List.length_cons, List.length_nil] at hSl; omega))
    have hin : (arT n s.D, openE s, ([] : List Int)) = (arT n (fun a => s.D a || decide (a ∈ ([] : List Nat))), cl (S ++ x :: os').reverse, cl []) := by
      rw [openE, hos]
      congr 1
      exact arT_ext fun a _ => by simp
    unfold Sh.loop
    rw [hin, hpop, hD]
    unfold G.scc_walk_leave__1_j2
    rw [List.nil_append, sort_set hnd (by simp only [List.length_append, List.length_cons, List.length_nil] at hSl ⊢; omega) hcs hcS hSn]
    have hcm := comps_le h
    simp only [Option.bind_some]
    rw [app_ok (by simp only [compE, List.length_map, List.length_cons, List.length_nil]; omega)]
    simp only [Option.bind_some]
    have hcomp : compE s ++ [cl c] = compE (s.close x c cs' os') := by simp [compE, Ts.close]
    rw [hcomp]
    unfold G.scc_walk_leave__1_j1
    cases hcs' : cs' with
    | nil => rfl
    | cons u r =>
      have hu : u ∈ s.cs := by rw [hc, hcs']; simp
      have huo := h.copen u hu
      have hun := h.lt u huo.1
      rw [callL_cons, topP _ _ _ (by rw [callL_len]; rw [hcs', List.length_cons] at hcl; omega)]
      simp only [Option.bind_some, if_true, wI_idx _ hun, wI_idx _ hxn, min_nat, wI_set]
      have hlt : s.L u ≤ s.L x := by
        have h1 := (h.low u huo).1
        have h2 := h.csort
        rw [hc] at h2
        have := (List.pairwise_cons.1 h2).1 u (by rw [hcs']; exact List.mem_cons_self ..)
        omega
      have e : wI n (fun a => if a = u then Nat.min (s.L u) (s.L x) else s.L a) = wI n s.L := wI_ext fun a _ => by
        by_cases ha : a = u
        · rw [if_pos ha, ha]; exact Nat.min_eq_left hlt
        · rw [if_neg ha]
      rw [e]; rfl
  · have hlt : s.L x < s.W x := by omega
    have e1 : ¬ (s.L x : Int) = (s.W x : Int) := fun e => he (Int.ofNat_inj.1 e)
    rw [decide_eq_false e1]
    simp only [Bool.false_eq_true, if_false]
    unfold G.scc_walk_leave__1_j1
    cases hcs' : cs' with
    | nil =>
      refine ⟨{ s with cs := [] }, h.finish (by rw [hc, hcs']) hA hlt (fun u hu => by cases hu), rfl, rfl, rfl, rfl, fun _ hd => .inl hd, rfl⟩
    | cons u r =>
      have hu : u ∈ s.cs := by rw [hc, hcs']; simp
      have huo := h.copen u hu
      have hun := h.lt u huo.1
      have h2 := h.csort
      rw [hc] at h2
      have hux : s.W u < s.W x := (List.pairwise_cons.1 h2).1 u (by rw [hcs']; exact List.mem_cons_self ..)
      obtain ⟨z, z1, z2, z3⟩ := hlow.2.1
      have T1 := h.lower hu z1 ((rch n f).trans _ _ _ (h.reach u x hu hxo (by omega)) z3)
      have hxu : x ≠ u := fun e => by subst e; omega
      have hLx : (s.lower u (s.W z)).L x = s.L x := if_neg hxu
      have hLu : (s.lower u (s.W z)).L u = Nat.min (s.L u) (s.W z) := if_pos rfl
      have T2 : Tn n f { s.lower u (s.W z) with cs := u :: r } := T1.finish (x := x) (cs' := u :: r) (by show s.cs = _; rw [hc, hcs']) hA (by rw [hLx]; exact hlt) (fun v hv => by
        cases hv
        rw [hLu, hLx, z2]; exact Nat.min_le_right _ _)
      refine ⟨_, T2, rfl, rfl, rfl, rfl, fun _ hd => .inl hd, ?_⟩
      rw [callL_cons, topP _ _ _ (by rw [callL_len]; rw [hcs', List.length_cons] at hcl; omega)]
      simp only [Option.bind_some, if_true, wI_idx _ hun, wI_idx _ hxn, min_nat, wI_set]
      rw [← z2]; rfl

def unm (n : Nat) (s : Ts) : Nat := ((List.range n).filter fun y => decide (s.W y = 0)).length
structure Ok (n : Nat) (f : Nat → Nat → Bool) (s : Ts) : Prop where
  t : Tn n f s
  sub : ∀ a y, s.A a y = true → f a y = true
  met : s.met + unm n s ≤ n
  asc : ∀ c ∈ s.comps, c.Pairwise (· < ·)
abbrev Est : Type := (List Int) × (List Int) × (List Bool) × Int × (List G.scc_place) × (List Int) × (List (List Int))
def eS (n : Nat) (s : Ts) : Est := (wI n s.W, wI n s.L, arT n s.D, (s.met : Int), callL n s.A s.cs, openE s, compE s)
theorem row_without {n : Nat} (hn : n ≤ 64) (p : Nat → Bool) {k : Nat} (hk : k < n) : row n p &&& ~~~(Bv.bit (k : Int)) = row n (fun i => p i && !decide (i = k)) := by
  apply BitVec.eq_of_getLsbD_eq
  intro i hi
  rw [getLsbD_andNot, row_get hn, row_get hn, cbit_get k i (by omega), Bool.and_assoc]
theorem row_bit {n : Nat} (hn : n ≤ 64) {p : Nat → Bool} {k : Nat} (h : (row n p).getLsbD k = true) : k < n ∧ p k = true := by
  rw [row_get hn, Bool.and_eq_true, decide_eq_true_eq] at h; exact h
theorem unm_enter {n : Nat} {s : Ts} {y : Nat} {r : Nat → Bool} (hy : y < n) (hw : s.W y = 0) : unm n (s.enter y r) < unm n s :=
  filter_lt (List.range n) (fun y => decide (s.W y = 0)) (fun a => decide ((s.enter y r).W a = 0)) (fun a ha => by
    have ha : (if a = y then s.met + 1 else s.W a) = 0 := of_decide_eq_true ha
    by_cases e : a = y
    · rw [if_pos e] at ha; omega
    · rw [if_neg e] at ha; exact decide_eq_true ha) (k := y) (List.mem_range.2 hy) (decide_eq_true hw) (decide_eq_false (by
    show ¬ (if y = y then s.met + 1 else s.W y) = 0
    rw [if_pos rfl]; omega))
theorem Ok.enter {n : Nat} {f : Nat → Nat → Bool} {s : Ts} (h : Ok n f s) {y : Nat} (hy : y < n) (hw : s.W y = 0) (hp : ∀ p, p ∈ s.cs → rF n f p y) : Ok n f (s.enter y (f y)) where
  t := h.t.enter (rch n f) hy hw (fun z hz => hz.2.2) hp
  sub a b hab := by
    have hab : (if a = y then f y else s.A a) b = true := hab
    by_cases e : a = y
    · rw [if_pos e] at hab; rw [e]; exact hab
    · rw [if_neg e] at hab; exact h.sub a b hab
  met := by
    have := unm_enter (r := f y) hy hw
    have := h.met
    show s.met + 1 + _ ≤ n
    omega
  asc := h.asc
theorem Ok.drop {n : Nat} {f : Nat → Nat → Bool} {s : Ts} (h : Ok n f s) {x y : Nat} (hy : s.W y ≠ 0) (hl : s.D y = false → s.L x ≤ s.W y) : Ok n f (s.drop x y) where
  t := h.t.drop hy hl
  sub a b hab := h.sub a b (by
    have hab : (s.A a b && !(decide (a = x) && decide (b = y))) = true := hab
    rw [Bool.and_eq_true] at hab; exact hab.1)
  met := h.met
  asc := h.asc
theorem Ok.lower {n : Nat} {f : Nat → Nat → Bool} {s : Ts} (h : Ok n f s) {x y : Nat} (hx : x ∈ s.cs) (hy : s.opn y) (hxy : rF n f x y) : Ok n f (s.lower x (s.W y)) where
  t := h.t.lower hx hy hxy
  sub := h.sub
  met := h.met
  asc := h.asc
theorem drop_row {s : Ts} {x y : Nat} : (s.drop x y).A x = fun i => s.A x i && !decide (i = y) := by
  funext i
  show (s.A x i && !(decide (x = x) && decide (i = y))) = _
  simp
theorem drop_other {s : Ts} {x y a : Nat} (h : a ≠ x) : (s.drop x y).A a = s.A a := by
  funext i
  show (s.A a i && !(decide (a = x) && decide (i = y))) = _
  simp [h]

structure Same (s0 s : Ts) (x : Nat) : Prop where
  W : s.W = s0.W
  D : s.D = s0.D
  met : s.met = s0.met
  cs : s.cs = s0.cs
  os : s.os = s0.os
  comps : s.comps = s0.comps
  A : ∀ a, a ≠ x → s.A a = s0.A a
def mu (n : Nat) (s : Ts) : Nat := 2 * unm n s + s.cs.length
theorem pInner {n : Nat} (hn : n ≤ 64) {f : Nat → Nat → Bool} {s0 : Ts} (h0 : Ok n f s0) {x : Nat} {cs' : List Nat} (hc0 : s0.cs = x :: cs') (p0 : G.scc_place) :
    ∃ s', Ok n f s' ∧ (∀ y, s0.W y ≠ 0 → s'.W y ≠ 0) ∧ mu n s' < mu n s0 ∧
      Sh.loop (fun (p : (List Int) × G.scc_place) => G.scc_walk_from__1_b2 (n : Int) (rows n f) ((n + 1 : Nat) : Int) ((n + 1 : Nat) : Int) (wI n s0.W) (arT n s0.D) (s0.met : Int) (openE s0) (compE s0) (p0, true, callL n s0.A cs') p.1 p.2) (wI n s0.L, ⟨(x : Int), row n (s0.A x)⟩) = some (.inl (eS n s')) := by
  have key := Sh.loop_fam (b := fun (p : (List Int) × G.scc_place) => G.scc_walk_from__1_b2 (n : Int) (rows n f) ((n + 1 : Nat) : Int) ((n + 1 : Nat) : Int) (wI n s0.W) (arT n s0.D) (s0.met : Int) (openE s0) (compE s0) (p0, true, callL n s0.A cs') p.1 p.2)
    (fun s : Ts => (wI n s.L, (⟨(x : Int), row n (s.A x)⟩ : G.scc_place))) (fun s => Ok n f s ∧ Same s0 s x) (fun s => ((List.range n).filter (s.A x)).length) (fun r => ∃ s', Ok n f s' ∧ (∀ y, s0.W y ≠ 0 → s'.W y ≠ 0) ∧ mu n s' < mu n s0 ∧ r = .inl (eS n s')) (i0 := s0)
    ⟨h0, rfl, rfl, rfl, rfl, rfl, rfl, fun _ _ => rfl⟩ (fuel_gt (Nat.lt_of_le_of_lt (List.length_filter_le _ _) (by simp; omega))) (fun s ⟨hs, hS⟩ => ?_)
  · obtain ⟨r, h1, s', h2, h3, h4, h5⟩ := key
    exact ⟨s', h2, h3, h4, by rw [h1, h5]⟩
  have hc : s.cs = x :: cs' := hS.cs.trans hc0
  have hxc : x ∈ s.cs := by rw [hc]; exact List.mem_cons_self ..
  have hxo := hs.t.copen x hxc
  have hxn := hs.t.lt x hxo.1
  have hxcs : x ∉ cs' := fun hm => by
    have h2 := hs.t.csort
    rw [hc] at h2
    have := (List.pairwise_cons.1 h2).1 x hm
    omega
  have hcl := cs_le hs.t
  rw [hc, List.length_cons] at hcl
  have hol := os_le hs.t
  have hmet := hs.met
  have hrest : callL n s0.A cs' = callL n s.A cs' := callL_ext fun a ha => (hS.A a (fun e => hxcs (e ▸ ha))).symm
  rw [← hS.W, ← hS.D, ← hS.met, show openE s0 = openE s by unfold openE; rw [hS.os], show compE s0 = compE s by unfold compE; rw [hS.comps], hrest]
  simp only [G.scc_walk_from__1_b2]
  rcases least_spec (row n (s.A x)) with ⟨hz, _⟩ | ⟨k, hne, hk, hb, _⟩
  · -- all edges done
    right
    have hnz : ¬ (row n (s.A x) ≠ 0#64) := fun h => h hz
    rw [decide_eq_false hnz]
    simp only [Bool.false_eq_true, if_false]
    obtain ⟨s', T, q1, q2, q3, q4, q5, q6⟩ := pLeave hn hs.t hc (fun z hz' => by
      cases hAz : s.A x z with
      | false => rfl
      | true =>
        have : (row n (s.A x)).getLsbD z = true := by rw [row_get hn]; simp [hz'.2.1, hAz]
        rw [hz] at this; simp at this) (s.met : Int)
    refine ⟨_, by unfold G.scc_walk_from__1_j1; rw [q6]; rfl, s', ⟨T, by rw [q4]; exact hs.sub, by rw [q3, show unm n s' = unm n s by unfold unm; rw [q2]]; exact hmet, fun c hcm => (q5 c hcm).elim (hs.asc c) id⟩, fun y hy => by rw [q2]; exact hy, ?_, ?_⟩
    · unfold mu
      rw [show unm n s' = unm n s0 by unfold unm; rw [q2, hS.W], q1, hc0, List.length_cons]; omega
    · unfold eS
      rw [q1, q2, q3, q4]
  · rw [decide_eq_true hne]
    obtain ⟨hkn, hAk⟩ := row_bit hn hb
    have hfk := hs.sub x k hAk
    have hek : eF n f x k := ⟨hxn, hkn, hfk⟩
    simp only [if_true, bits_Least, hk, Option.bind_some, G.bits_Without, bits_bit, row_without hn _ hkn, wI_idx _ hkn]
    by_cases hw : s.W k = 0
    · -- a node not met yet
      right
      have e0 : ((s.W k : Nat) : Int) = 0 := by rw [hw]; rfl
      rw [decide_eq_true e0]
      simp only [if_true]
      have hkx : k ≠ x := fun e => hxo.1 (e ▸ hw)
      have hkc : k ∉ s.cs := fun hm => (hs.t.copen k hm).1 hw
      have T := hs.enter hkn hw (fun p hp => (rch n f).trans _ _ _ (hs.t.reach p x hp hxo (by
        have h2 := hs.t.csort
        rw [hc] at h2 hp
        rcases List.mem_cons.1 hp with e | e
        · rw [e]; exact Nat.le_refl _
        · exact Nat.le_of_lt ((List.pairwise_cons.1 h2).1 p e))) ((rch n f).edge _ _ hek))
      have hWk : (s.enter k (f k)).W k = s.met + 1 := if_pos rfl
      have hLx : (s.enter k (f k)).L x = s.L x := if_neg (Ne.symm hkx)
      have T2 := T.drop (x := x) (y := k) (by rw [hWk]; omega) (fun _ => by
        rw [hWk, hLx]
        have := (hs.t.low x hxo).1
        have := hs.t.le x
        omega)
      rw [pushP hn _ (by rw [callL_len]; omega)]
      simp only [Option.bind_some]
      rw [pEnter hn f hkn _ _ _ _ _ (by simp only [List.length_append, callL_len, List.length_cons, List.length_nil]; omega) (by rw [openE, cl_len, List.length_reverse]; exact hol)]
      simp only [Option.bind_some]
      have hm1 : w64 ((s.met : Int) + 1) = ((s.met + 1 : Nat) : Int) := w64_succ (by omega)
      refine ⟨_, rfl, _, T2, fun y hy => ?_, ?_, ?_⟩
      · show (if y = k then s.met + 1 else s.W y) ≠ 0
        split
        · omega
        · exact hy
      · unfold mu
        have h1 := unm_enter (r := f k) hkn hw
        have h2 : unm n ((s.enter k (f k)).drop x k) = unm n (s.enter k (f k)) := rfl
        have h3 : unm n s = unm n s0 := by unfold unm; rw [hS.W]
        have h4 : ((s.enter k (f k)).drop x k).cs = k :: s.cs := rfl
        rw [h2, h4, List.length_cons, hS.cs]
        omega
      · unfold eS
        rw [hm1, wI_set, wI_set]
        refine congrArg Sum.inl ?_
        refine Prod.ext rfl (Prod.ext rfl (Prod.ext rfl (Prod.ext rfl (Prod.ext ?_ (Prod.ext ?_ rfl)))))
        · show callL n s.A cs' ++ [⟨(x : Int), row n (fun i => s.A x i && !decide (i = k))⟩] ++ [⟨(k : Int), row n (f k)⟩] = callL n ((s.enter k (f k)).drop x k).A (k :: s.cs)
          have a1 : ((s.enter k (f k)).drop x k).A k = f k := by rw [drop_other hkx]; exact if_pos rfl
          have a2 : ((s.enter k (f k)).drop x k).A x = fun i => s.A x i && !decide (i = k) := by
            rw [drop_row]
            have : (s.enter k (f k)).A x = s.A x := if_neg (Ne.symm hkx)
            rw [this]
          have a3 : callL n s.A cs' = callL n ((s.enter k (f k)).drop x k).A cs' := callL_ext fun a ha => by
            rw [drop_other (fun e : a = x => hxcs (e ▸ ha))]
            exact (if_neg (fun e : a = k => hkc (by rw [hc, ← e]; exact List.mem_cons_of_mem _ ha))).symm
          rw [callL_cons, hc, callL_cons, a1, a2, a3]
        · show openE s ++ [(k : Int)] = cl (k :: s.os).reverse
          simp [openE, cl]
    · -- a node that was met
      left
      have e0 : ¬ ((s.W k : Nat) : Int) = 0 := by omega
      rw [decide_eq_false e0]
      simp only [Bool.false_eq_true, if_false, arT_idx _ hkn, Option.bind_some]
      have hmu : ∀ s' : Ts, s'.A x = (fun i => s.A x i && !decide (i = k)) → ((List.range n).filter (s'.A x)).length < ((List.range n).filter (s.A x)).length := fun s' e => by
        rw [e]
        exact filter_lt (List.range n) (s.A x) _ (fun a ha => by rw [Bool.and_eq_true] at ha; exact ha.1) (List.mem_range.2 hkn) hAk (by simp)
      cases hd : s.D k with
      | true =>
        have T := hs.drop (x := x) (y := k) hw (fun e => by rw [hd] at e; cases e)
        refine ⟨s.drop x k, ⟨T, hS.W, hS.D, hS.met, hS.cs, hS.os, hS.comps, fun a ha => by rw [drop_other ha]; exact hS.A a ha⟩, hmu _ (drop_row), ?_⟩
        simp only [Bool.not_true, Bool.false_eq_true, if_false, Sh.next, drop_row]; rfl
      | false =>
        have hko : s.opn k := ⟨hw, hd⟩
        have T1 := hs.lower hxc hko ((rch n f).edge _ _ hek)
        have hLx : (s.lower x (s.W k)).L x = Nat.min (s.L x) (s.W k) := if_pos rfl
        have T2 := T1.drop (x := x) (y := k) hw (fun _ => by rw [hLx]; exact Nat.min_le_right _ _)
        refine ⟨(s.lower x (s.W k)).drop x k, ⟨T2, hS.W, hS.D, hS.met, hS.cs, hS.os, hS.comps, fun a ha => by rw [drop_other ha]; exact hS.A a ha⟩, hmu _ (drop_row), ?_⟩
        simp only [Bool.not_false, if_true, wI_idx _ hxn, Option.bind_some, min_nat, wI_set, Sh.next, drop_row]; rfl
end Pl
end

section
/- All components, which one is whose, and who is on a cycle: what the program tells. -/
namespace Pl
open Go Go.Av

theorem pFrom {n : Nat} (hn : n ≤ 64) {f : Nat → Nat → Bool} {s : Ts} (h : Ok n f s) (hc : s.cs = []) {y : Nat} (hy : y < n) (hw : s.W y = 0) :
    ∃ s', Ok n f s' ∧ s'.cs = [] ∧ (∀ a, s.W a ≠ 0 → s'.W a ≠ 0) ∧ s'.W y ≠ 0 ∧
      G.scc_walk_from__1 (y : Int) (n : Int) (rows n f) (s.met : Int) (wI n s.W) (wI n s.L) (arT n s.D) ((n + 1 : Nat) : Int) ((n + 1 : Nat) : Int) (compE s) (callL n s.A s.cs) (openE s) =
        some (wI n s'.W, wI n s'.L, arT n s'.D, (s'.met : Int), compE s', callL n s'.A s'.cs, openE s') := by
  have hmet := h.met
  have hol := os_le h.t
  unfold G.scc_walk_from__1
  rw [pEnter hn f hy _ _ _ _ _ (by rw [callL_len, hc]; exact Nat.zero_le _) (by rw [openE, cl_len, List.length_reverse]; exact hol)]
  simp only [Option.bind_some]
  rw [w64_succ (show s.met < 9223372036854775807 by omega), wI_set, wI_set]
  have T := h.enter hy hw (fun p hp => by rw [hc] at hp; simp at hp)
  have hWy : (s.enter y (f y)).W y ≠ 0 := by
    show (if y = y then s.met + 1 else s.W y) ≠ 0
    rw [if_pos rfl]; omega
  have mono0 : ∀ a, s.W a ≠ 0 → (s.enter y (f y)).W a ≠ 0 := fun a ha => by
    show (if a = y then s.met + 1 else s.W a) ≠ 0
    split
    · omega
    · exact ha
  have hstart : (wI n (fun a => if a = y then s.met + 1 else s.W a), wI n (fun a => if a = y then s.met + 1 else s.L a), arT n s.D, ((s.met + 1 : Nat) : Int), callL n s.A s.cs ++ [⟨(y : Int), row n (f y)⟩], openE s ++ [(y : Int)], compE s) = eS n (s.enter y (f y)) := by
    unfold eS
    refine Prod.ext rfl (Prod.ext rfl (Prod.ext rfl (Prod.ext rfl (Prod.ext ?_ (Prod.ext ?_ rfl)))))
    · show callL n s.A s.cs ++ [⟨(y : Int), row n (f y)⟩] = callL n (s.enter y (f y)).A (y :: s.cs)
      have a1 : (s.enter y (f y)).A y = f y := if_pos rfl
      rw [callL_cons, a1, hc]; rfl
    · show openE s ++ [(y : Int)] = cl (y :: s.os).reverse
      simp [openE, cl]
  rw [hstart]
  have key := Sh.loop_fam (b := fun (p : (List Int) × (List Int) × (List Bool) × Int × (List G.scc_place) × (List Int) × (List (List Int))) => G.scc_walk_from__1_b1 (n : Int) (rows n f) ((n + 1 : Nat) : Int) ((n + 1 : Nat) : Int) p.1 p.2.1 p.2.2.1 p.2.2.2.1 p.2.2.2.2.1 p.2.2.2.2.2.1 p.2.2.2.2.2.2)
    (eS n) (fun s' => Ok n f s' ∧ (∀ a, (s.enter y (f y)).W a ≠ 0 → s'.W a ≠ 0)) (mu n) (fun r => ∃ s', Ok n f s' ∧ s'.cs = [] ∧ (∀ a, (s.enter y (f y)).W a ≠ 0 → s'.W a ≠ 0) ∧ r = (wI n s'.W, wI n s'.L, arT n s'.D, (s'.met : Int), compE s', callL n s'.A s'.cs, openE s')) (i0 := s.enter y (f y))
    ⟨T, fun _ h => h⟩ (fuel_gt (by
      have h1 : unm n (s.enter y (f y)) ≤ n := Nat.le_trans (List.length_filter_le _ _) (by simp)
      have h2 := cs_le T.t
      unfold mu; omega)) (fun s1 ⟨h1, h2⟩ => ?_)
  · obtain ⟨r, q1, s', q2, q3, q4, q5⟩ := key
    exact ⟨s', q2, q3, fun a ha => q4 a (mono0 a ha), q4 y hWy, by rw [q1, q5]⟩
  · have hcl := cs_le h1.t
    cases hcs : s1.cs with
    | nil =>
      right
      refine ⟨_, ?_, s1, h1, hcs, h2, rfl⟩
      have e0 : callL n s1.A s1.cs = [] := by rw [hcs]; rfl
      simp only [eS, e0, G.scc_walk_from__1_b1, G.stack_Stack_scc_place_Len__1, Option.bind_some]
      rfl
    | cons x cs' =>
      left
      rw [hcs, List.length_cons] at hcl
      obtain ⟨s', q1, q2, q3, q4⟩ := pInner hn h1 hcs ⟨(x : Int), row n (s1.A x)⟩
      refine ⟨s', ⟨q1, fun a ha => q2 a (h2 a ha)⟩, q3, ?_⟩
      have e0 : callL n s1.A s1.cs = callL n s1.A cs' ++ [⟨(x : Int), row n (s1.A x)⟩] := by rw [hcs, callL_cons]
      have hpos : (0 : Int) < Sh.len (callL n s1.A cs' ++ [(⟨(x : Int), row n (s1.A x)⟩ : G.scc_place)]) := by simp only [Sh.len, List.length_append, List.length_cons, List.length_nil]; omega
      simp only [eS, e0, G.scc_walk_from__1_b1, G.stack_Stack_scc_place_Len__1, Option.bind_some, decide_eq_true hpos, if_true, popP _ _ _ (show (callL n s1.A cs').length < 1000 by rw [callL_len]; omega)]
      exact q4

theorem comps_end {n : Nat} (hn : n ≤ 64) {f : Nat → Nat → Bool} {s : Ts} (h : Ok n f s) (hc : s.cs = []) (hall : ∀ y, y < n → s.W y ≠ 0) : Sh.sortFirst (compE s) = some (canon n (tog n f)) := by
  have e := tog_eqv n f
  have hos := h.t.idle (rch n f) hc
  have hD : ∀ y, y < n → s.D y = true := fun y hy => by
    cases hd : s.D y with
    | true => rfl
    | false =>
      have := (h.t.oiff y).2 ⟨hall y hy, hd⟩
      rw [hos] at this; simp at this
  have hlt : ∀ c ∈ s.comps, ∀ x ∈ c, x < n := fun c hcm x hx => h.t.lt x (h.t.done x (h.t.cdone c hcm x hx))
  have hself : ∀ c ∈ s.comps, ∃ x, x < n ∧ x ∈ c ∧ c = compL n (tog n f) x := fun c hcm => by
    obtain ⟨x, hx, hm⟩ := h.t.cis c hcm
    refine ⟨x, hlt c hcm x hx, hx, ?_⟩
    have : cl c = cl (compL n (tog n f) x) := by
      refine asc_ext (cl_sorted (h.asc c hcm)) (cl_sorted (comp_sorted x)) fun a => ?_
      rw [mem_cl, mem_cl]
      have : ∀ k, k ∈ c ↔ k ∈ compL n (tog n f) x := fun k => by
        rw [mem_comp, tog_iff, hm k]
        exact ⟨fun q => ⟨hlt c hcm k ((hm k).2 q), q⟩, fun q => q.2⟩
      exact ⟨fun ⟨k, k1, k2⟩ => ⟨k, (this k).1 k1, k2⟩, fun ⟨k, k1, k2⟩ => ⟨k, (this k).2 k1, k2⟩⟩
    exact cl_inj this
  have hfirst : ∀ c ∈ s.comps, ∃ a r, c = a :: r ∧ Sh.first (cl c) = (a : Int) := fun c hcm => by
    obtain ⟨x, _, hx, _⟩ := hself c hcm
    cases c with
    | nil => simp at hx
    | cons a r => exact ⟨a, r, rfl, rfl⟩
  have hnd : ((compE s).map Sh.first).Nodup := by
    unfold compE
    rw [List.map_map]
    refine List.pairwise_map.2 (h.t.cdis.imp_of_mem fun {c d} hcm hdm hcd e => ?_)
    obtain ⟨a, r, rfl, ea⟩ := hfirst c hcm
    obtain ⟨b, q, rfl, eb⟩ := hfirst d hdm
    have e : Sh.first (cl (a :: r)) = Sh.first (cl (b :: q)) := e
    rw [ea, eb] at e
    have : a = b := Int.ofNat_inj.1 e
    subst this
    exact hcd a (List.mem_cons_self ..) (List.mem_cons_self ..)
  have hne : ∀ r ∈ compE s, r ≠ [] := fun r hr => by
    obtain ⟨c, hcm, rfl⟩ := List.mem_map.1 hr
    obtain ⟨a, q, rfl, _⟩ := hfirst c hcm
    simp [cl]
  have hlen : (compE s).length < 4611686018427387904 := by
    have := comps_le h.t
    simp only [compE, List.length_map]; omega
  unfold Sh.sortFirst
  rw [if_pos ⟨hlen, hne, hnd⟩]
  congr 1
  have hp := Sh.fsort_perm (compE s)
  refine canon_of e (fun l hl => ?_) (fun x hx => ?_) ?_
  · obtain ⟨c, hcm, rfl⟩ := List.mem_map.1 (hp.mem_iff.1 hl)
    obtain ⟨x, hx, _, hcx⟩ := hself c hcm
    exact ⟨x, hx, by rw [hcx]⟩
  · obtain ⟨c, hcm, hxc⟩ := h.t.call x (hD x hx)
    obtain ⟨z, hz, _, hcz⟩ := hself c hcm
    have : compL n (tog n f) x = c := by
      rw [hcz] at hxc ⊢
      exact (comp_same e (mem_comp.1 hxc).2).symm
    rw [this]
    exact hp.mem_iff.2 (List.mem_map.2 ⟨c, hcm, rfl⟩)
  · have h1 := Sh.fsort_sorted (compE s)
    have h2 : ((Sh.fsort (compE s)).map Sh.first).Nodup := ((hp.map Sh.first).nodup_iff).2 hnd
    have h3 := List.pairwise_map.1 h2
    exact (h1.and h3).imp fun {a b} ⟨k1, k2⟩ => by
      show Sh.first a < Sh.first b
      have : Sh.first a ≠ Sh.first b := k2
      omega

theorem pComps {n : Nat} (hn : n ≤ 64) (f : Nat → Nat → Bool) : G.scc_Comps (gr n f) = some (canon n (tog n f)) := by
  unfold G.scc_Comps
  rw [graph_Right _ (by simp [rows]; omega), right_rows hn f]
  simp only [Option.bind_some, Bool.not_true, Bool.false_eq_true, if_false]
  rw [mk_ok (by omega) (by omega), mk_ok (by omega) (by omega)]
  have hw1 : w64 ((n : Int) + 1) = ((n + 1 : Nat) : Int) := w64_succ (by omega)
  simp only [Option.bind_some, G.stack_New_scc_place, G.stack_Ints, G.stack_New_int]
  have h0 : Ok n f .start := ⟨Ti.start, fun _ _ h => (by cases h), (by
    show 0 + unm n .start ≤ n
    rw [Nat.zero_add]; exact Nat.le_trans (List.length_filter_le _ _) (by simp)), fun c hcm => by simp [Ts.start] at hcm⟩
  have key := Sh.loop_fam (b := fun (p : (List Int) × (List Int) × (List Bool) × Int × (List G.scc_place) × (List Int) × (List (List Int)) × Int) => G.scc_Comps_b1 (gr n f) p.1 p.2.1 p.2.2.1 p.2.2.2.1 p.2.2.2.2.1 p.2.2.2.2.2.1 p.2.2.2.2.2.2.1 p.2.2.2.2.2.2.2)
    (fun q : Ts × Nat => (wI n q.1.W, wI n q.1.L, arT n q.1.D, (q.1.met : Int), callL n q.1.A q.1.cs, openE q.1, compE q.1, (q.2 : Int))) (fun q => Ok n f q.1 ∧ q.1.cs = [] ∧ (∀ y, y < q.2 → q.1.W y ≠ 0) ∧ q.2 ≤ n) (fun q => n - q.2) (fun r => r = canon n (tog n f)) (i0 := (Ts.start, 0))
    ⟨h0, rfl, fun y hy => by omega, Nat.zero_le _⟩ (fuel_gt (by omega)) (fun ⟨s, v⟩ ⟨h1, h2, h3, h4⟩ => ?_)
  · obtain ⟨r, q1, q2⟩ := key
    rw [← q2, ← q1]
    congr 1
    refine Prod.ext ?_ (Prod.ext ?_ (Prod.ext ?_ rfl))
    · exact arT_zero _
    · exact arT_zero _
    · exact arT_zero _
  · by_cases hv : v < n
    · left
      have hd : (v : Int) < (n : Int) := by omega
      have hvs : w64 ((v : Int) + 1) = ((v + 1 : Nat) : Int) := w64_succ (by omega)
      by_cases hw : s.W v = 0
      · obtain ⟨s', q1, q2, q3, q4, q5⟩ := pFrom hn h1 h2 hv hw
        refine ⟨(s', v + 1), ⟨q1, q2, fun y hy => ?_, hv⟩, by omega, ?_⟩
        · by_cases e : y = v
          · rw [e]; exact q4
          · exact q3 y (h3 y (by omega))
        · have e0 : ((s.W v : Nat) : Int) = 0 := by rw [hw]; rfl
          simp only [G.scc_Comps_b1, decide_eq_true hd, if_true, wI_idx _ hv, Option.bind_some, decide_eq_true e0, hw1, q5, G.scc_Comps_j2, hvs]; rfl
      · refine ⟨(s, v + 1), ⟨h1, h2, fun y hy => ?_, hv⟩, by omega, ?_⟩
        · by_cases e : y = v
          · rw [e]; exact hw
          · exact h3 y (by omega)
        · have e0 : ¬ ((s.W v : Nat) : Int) = 0 := by omega
          simp only [G.scc_Comps_b1, decide_eq_true hd, if_true, wI_idx _ hv, Option.bind_some, decide_eq_false e0, Bool.false_eq_true, if_false, G.scc_Comps_j2, hvs]; rfl
    · right
      have hvn : v = n := by omega
      subst hvn
      have hd : ¬ (v : Int) < (v : Int) := by omega
      refine ⟨_, ?_, rfl⟩
      simp only [G.scc_Comps_b1, decide_eq_false hd, Bool.false_eq_true, if_false, G.scc_Comps_j1, comps_end hn h1 h2 h3, Option.bind_some]; rfl
end Pl
end

section
/- The statements on graphs. -/

namespace Pl
open Go Go.Av

end Pl
end

section
/- The statements on where ways lead. -/

namespace Pl
open Go Go.Av

end Pl
end

section
/- Which component is whose, and who is on a cycle: the program and the reference. -/
namespace Pl
open Go Go.Av

theorem comp_le {n : Nat} {m : Nat → Nat → Bool} {x : Nat} : (compL n m x).length ≤ n := Nat.le_trans (List.length_filter_le _ _) (by simp)
theorem canon_le {n : Nat} {m : Nat → Nat → Bool} : (canon n m).length ≤ n := by rw [canon_len]; exact Nat.le_trans (List.length_filter_le _ _) (by simp)
noncomputable def innL (n : Nat) (f : Nat → Nat → Bool) : List Nat := (List.range n).filter fun x => wayF n f x x
def good (f : Nat → Nat → Bool) (c : List Nat) : Bool := decide (1 < c.length) || f (c.headD 0) (c.headD 0)
noncomputable def compN (n : Nat) (f : Nat → Nat → Bool) : List (List Nat) := (headsL n (tog n f)).map (compL n (tog n f))
theorem canon_eq (n : Nat) (f : Nat → Nat → Bool) : canon n (tog n f) = (compN n f).map cl := by simp [canon, compN]
theorem compN_get {n : Nat} {f : Nat → Nat → Bool} {i : Nat} (hi : i < (compN n f).length) : ∃ h, h < n ∧ h ∈ headsL n (tog n f) ∧ (compN n f)[i] = compL n (tog n f) h := by
  have hi' : i < (headsL n (tog n f)).length := by simpa [compN] using hi
  exact ⟨(headsL n (tog n f))[i], (mem_heads.1 (List.getElem_mem hi')).1, List.getElem_mem hi', by simp [compN]⟩
theorem way_good {n : Nat} {f : Nat → Nat → Bool} {h x : Nat} (hh : h ∈ headsL n (tog n f)) (hx : x ∈ compL n (tog n f) h) : good f (compL n (tog n f) h) = wayF n f x x := by
  have e := tog_eqv n f
  have hhn := (mem_heads.1 hh).1
  obtain ⟨r, h1, _⟩ := hd_spec e hhn
  rw [hd_head e hh] at h1
  have hxm := mem_comp.1 hx
  rw [Bool.eq_iff_iff, way_iff]
  unfold good
  rw [h1, Bool.or_eq_true, decide_eq_true_eq, List.headD_cons, List.length_cons]
  constructor
  · rintro (q | q)
    · -- another one
      obtain ⟨y, hy, hyx⟩ : ∃ y, y ∈ compL n (tog n f) h ∧ y ≠ x := by
        have hs := comp_sorted (n := n) (m := tog n f) h
        rw [h1] at hs
        cases r with
        | nil => simp at q
        | cons a r =>
          by_cases hxa : x = h
          · exact ⟨a, by rw [h1]; simp, fun e2 => by have := (List.pairwise_cons.1 hs).1 a (List.mem_cons_self ..); omega⟩
          · exact ⟨h, by rw [h1]; simp, fun e2 => hxa e2.symm⟩
      have hxy : tog n f x y = true := e.trans _ _ _ (e.symm _ _ hxm.2) (mem_comp.1 hy).2
      obtain ⟨k1, k2⟩ := tog_iff.1 hxy
      rcases k1 with k1 | k1
      · exact absurd k1.symm hyx
      · rcases k2 with k2 | k2
        · exact absurd k2 hyx
        · exact k1.trans k2
    · have hw : Way n f h h := .edge hhn hhn q
      obtain ⟨k1, k2⟩ := tog_iff.1 hxm.2
      rcases k1 with k1 | k1
      · rw [← k1]; exact hw
      · rcases k2 with k2 | k2
        · rw [k2]; exact hw
        · exact k2.trans k1
  · intro hw
    cases r with
    | cons a r => left; simp
    | nil =>
      right
      have hxh : x = h := by rw [h1] at hx; simpa using hx
      rw [hxh] at hw
      cases hw with
      | edge _ _ hf => exact hf
      | @cons _ y _ ha hb hf hw2 =>
        have hm : y ∈ compL n (tog n f) h := mem_comp.2 ⟨hb, tog_iff.2 ⟨.inr (.edge ha hb hf), .inr hw2⟩⟩
        rw [h1] at hm
        have : y = h := by simpa using hm
        rw [this] at hf; exact hf
theorem flat_facts {n : Nat} {f : Nat → Nat → Bool} (L : List (List Nat)) (hL : L.Sublist (compN n f)) : L.flatten.Nodup ∧ (∀ x ∈ L.flatten, x < n) ∧ L.flatten.length ≤ n := by
  have e := tog_eqv n f
  have h1 : (compN n f).Pairwise fun a b => ∀ x ∈ a, ∀ y ∈ b, x ≠ y := by
    unfold compN
    refine List.pairwise_map.2 ((heads_sorted (n := n) (m := tog n f)).imp_of_mem fun {a b} ha hb hab x hx y hy exy => ?_)
    subst exy
    have h2 := e.trans _ _ _ (mem_comp.1 hx).2 (e.symm _ _ (mem_comp.1 hy).2)
    have h3 := (hd_same e (mem_heads.1 ha).1 (mem_heads.1 hb).1).2 h2
    rw [hd_head e ha, hd_head e hb] at h3
    omega
  have h2 : ∀ l ∈ L, ∃ h, l = compL n (tog n f) h := fun l hl => by
    obtain ⟨h, _, rfl⟩ := List.mem_map.1 (hL.subset hl)
    exact ⟨h, rfl⟩
  have hnd : L.flatten.Nodup := List.pairwise_flatten.2 ⟨fun l hl => by
    obtain ⟨h, rfl⟩ := h2 l hl
    exact (comp_sorted h).imp fun h => Nat.ne_of_lt h, h1.sublist hL⟩
  have hlt : ∀ x ∈ L.flatten, x < n := fun x hx => by
    obtain ⟨l, hl, hxl⟩ := List.mem_flatten.1 hx
    obtain ⟨h, rfl⟩ := h2 l hl
    exact (mem_comp.1 hxl).1
  refine ⟨hnd, hlt, ?_⟩
  have h3 := len_of_cover (n := n) (l := cl L.flatten) (fun a ha => by
    obtain ⟨k, hk, rfl⟩ := mem_cl.1 ha
    have := hlt k hk
    omega) (List.pairwise_map.2 (hnd.imp fun {a b} h e => h (Int.ofNat_inj.1 e)))
  rwa [cl_len] at h3
theorem pInner_ {n : Nat} (hn : n ≤ 64) (f : Nat → Nat → Bool) : G.scc_Inner (gr n f) = some (cl (innL n f)) := by
  have e := tog_eqv n f
  unfold G.scc_Inner
  rw [pComps hn f]
  simp only [Option.bind_some]
  have hcl := canon_le (n := n) (m := tog n f)
  have hlen : (compN n f).length = (canon n (tog n f)).length := by rw [canon_eq]; simp
  refine run_exit (fun i => (cl (((compN n f).take i).filter (good f)).flatten, (i : Int))) (canon n (tog n f)).length _ (fuel_gt (by omega)) (fun i hi => ?_) ?_ rfl
  · have hi' : i < (compN n f).length := by rw [hlen]; exact hi
    obtain ⟨h, hh, hhd, hc⟩ := compN_get hi'
    have hci : (canon n (tog n f))[i] = cl (compL n (tog n f) h) := by simp only [canon_eq, List.getElem_map, hc]
    obtain ⟨r, h1, _⟩ := hd_spec e hh
    rw [hd_head e hhd] at h1
    have hcm := comp_le (n := n) (m := tog n f) (x := h)
    have hfl := (flat_facts (((compN n f).take i).filter (good f)) ((List.filter_sublist).trans (List.take_sublist _ _))).2.2
    have hstep : G.scc_Inner_j3 (cl (((compN n f).take i).filter (good f)).flatten) (i : Int) (cl (compL n (tog n f) h)) (good f (compL n (tog n f) h)) = some (.inl (cl (((compN n f).take (i + 1)).filter (good f)).flatten, ((i + 1 : Nat) : Int))) := by
      unfold G.scc_Inner_j3
      rw [List.take_succ_eq_append_getElem hi', List.filter_append, hc]
      cases hg : good f (compL n (tog n f) h) with
      | true =>
        simp only [if_true]
        rw [app_ok (by simp only [cl_len]; omega)]
        simp [G.scc_Inner_j2, Sh.next, w64_succ (show i < 9223372036854775807 by omega), hg, cl]
      | false =>
        simp [G.scc_Inner_j2, Sh.next, w64_succ (show i < 9223372036854775807 by omega), hg]
    simp only [G.scc_Inner_b1, dec_lt, hi, decide_true, if_true, idx_at hi, hci, Option.bind_some]
    rw [← hstep]
    unfold good
    by_cases hl1 : 1 < (compL n (tog n f) h).length
    · have : (1 : Int) < Sh.len (cl (compL n (tog n f) h)) := by simp only [Sh.len, cl_len]; omega
      rw [decide_eq_true this, decide_eq_true hl1]; rfl
    · have : ¬ (1 : Int) < Sh.len (cl (compL n (tog n f) h)) := by simp only [Sh.len, cl_len]; omega
      rw [decide_eq_false this, decide_eq_false hl1, Bool.false_or]
      simp only [Bool.false_eq_true, if_false]
      have h0 : Sh.idx (cl (compL n (tog n f) h)) 0 = some (h : Int) := by
        rw [h1]; rfl
      rw [h0]
      simp only [Option.bind_some, graph_Has hn, hasB_nat hh hh]
      rw [h1]; rfl
  · simp only [G.scc_Inner_b1, dec_lt, Nat.lt_irrefl, decide_false, Bool.false_eq_true, if_false, G.scc_Inner_j1]
    rw [← hlen, List.take_length]
    have hfl := flat_facts ((compN n f).filter (good f)) List.filter_sublist
    rw [sort_set hfl.1 (by omega) (c := innL n f) (List.Pairwise.filter _ List.pairwise_lt_range) (fun x => ?_) hfl.2.1]
    · rfl
    · simp only [innL, List.mem_filter, List.mem_range, List.mem_flatten]
      constructor
      · rintro ⟨hx, hw⟩
        obtain ⟨_, _, h3, h4, _, _⟩ := hd_spec e hx
        have hm : x ∈ compL n (tog n f) (hdOf n (tog n f) x) := mem_comp.2 ⟨hx, e.symm _ _ h4⟩
        exact ⟨_, ⟨List.mem_map.2 ⟨_, h3, rfl⟩, by rw [way_good h3 hm]; exact hw⟩, hm⟩
      · rintro ⟨l, ⟨hl, hg⟩, hxl⟩
        obtain ⟨h, hh, rfl⟩ := List.mem_map.1 hl
        exact ⟨(mem_comp.1 hxl).1, by rw [← way_good hh hxl]; exact hg⟩
end Pl
end

section
/- The statements of layer 14, in plain words: each answers true. -/
namespace Pl
open Go Go.Av

noncomputable def hb (n : Nat) (f : Nat → Nat → Bool) (x : Nat) : Nat := ((List.range x).filter (isHd (tog n f))).length
noncomputable def part (n : Nat) (f : Nat → Nat → Bool) (x i : Nat) : List Nat := (List.range x).filter fun y => decide (rk n (tog n f) y = i)
end Pl
end

section
/- The statements of layer 14, in plain words: components and ways. -/
namespace Pl
open Go Go.Av

end Pl
end

section
/- How far a node is from a node: what the search and the reference tell. -/
namespace Pl
open Go Go.Av

def leastFrom (q : Nat → Bool) : Nat → Nat → Int
  | 0, _ => -1
  | m + 1, k => if q k then (k : Int) else leastFrom q m (k + 1)
theorem leastFrom_spec (q : Nat → Bool) : ∀ (m k : Nat), (leastFrom q m k = -1 ∧ ∀ j, k ≤ j → j < k + m → q j = false) ∨ ∃ j, k ≤ j ∧ j < k + m ∧ leastFrom q m k = (j : Int) ∧ q j = true ∧ ∀ i, k ≤ i → i < j → q i = false
  | 0, k => .inl ⟨rfl, fun j h1 h2 => by omega⟩
  | m + 1, k => by
    unfold leastFrom
    cases hq : q k with
    | true => exact .inr ⟨k, by omega, by omega, by simp, hq, fun i h1 h2 => by omega⟩
    | false =>
      simp only [Bool.false_eq_true, if_false]
      rcases leastFrom_spec q m (k + 1) with ⟨h1, h2⟩ | ⟨j, h1, h2, h3, h4, h5⟩
      · refine .inl ⟨h1, fun j hj hj2 => ?_⟩
        by_cases h : j = k
        · subst h; exact hq
        · exact h2 j (by omega) (by omega)
      · refine .inr ⟨j, by omega, by omega, h3, h4, fun i hi hi2 => ?_⟩
        by_cases h : i = k
        · subst h; exact hq
        · exact h5 i (by omega) hi2

def wk (n : Nat) (f : Nat → Nat → Bool) (v : Nat) : Nat → Nat → Bool
  | 0, x => decide (x = v)
  | m + 1, x => (List.range n).any fun y => f x y && wk n f v m y
theorem wk_succ {n : Nat} {f : Nat → Nat → Bool} {v m x : Nat} : wk n f v (m + 1) x = true ↔ ∃ y, y < n ∧ f x y = true ∧ wk n f v m y = true := by
  show ((List.range n).any fun y => f x y && wk n f v m y) = true ↔ _
  simp only [List.any_eq_true, List.mem_range, Bool.and_eq_true]
theorem wk_one {n : Nat} {f : Nat → Nat → Bool} {v x : Nat} (hv : v < n) : wk n f v 1 x = f x v := by
  rw [Bool.eq_iff_iff, wk_succ]
  unfold wk
  simp only [decide_eq_true_eq]
  constructor
  · rintro ⟨y, _, h, rfl⟩; exact h
  · intro h; exact ⟨v, hv, h, rfl⟩
def dk (n : Nat) (f : Nat → Nat → Bool) (v : Nat) : Nat → Nat → Nat
  | 0, _ => 0
  | k + 1, x => if dk n f v k x ≠ 0 then dk n f v k x else if wk n f v (k + 1) x then k + 1 else 0
theorem dk_zero {n : Nat} {f : Nat → Nat → Bool} {v x : Nat} : ∀ k, dk n f v k x = 0 ↔ ∀ j, 1 ≤ j → j ≤ k → wk n f v j x = false := by
  intro k
  induction k with
  | zero => exact ⟨fun _ j h1 h2 => by omega, fun _ => rfl⟩
  | succ k ih =>
    unfold dk
    by_cases h0 : dk n f v k x = 0
    · rw [if_neg (by simpa using h0)]
      have hall := ih.1 h0
      cases hw : wk n f v (k + 1) x with
      | true =>
        simp only [if_true]
        constructor
        · intro h; omega
        · intro h; have := h (k + 1) (by omega) (by omega); rw [hw] at this; cases this
      | false =>
        simp only [Bool.false_eq_true, if_false, true_iff]
        intro j h1 h2
        by_cases hj : j = k + 1
        · subst hj; exact hw
        · exact hall j h1 (by omega)
    · rw [if_pos h0]
      constructor
      · intro h; exact absurd h h0
      · intro h; exact ih.2 fun j h1 h2 => h j h1 (by omega)
theorem dk_pos {n : Nat} {f : Nat → Nat → Bool} {v x : Nat} : ∀ k, dk n f v k x ≠ 0 → wk n f v (dk n f v k x) x = true ∧ dk n f v k x ≤ k ∧ ∀ i, 1 ≤ i → i < dk n f v k x → wk n f v i x = false := by
  intro k
  induction k with
  | zero => intro h; exact absurd rfl h
  | succ k ih =>
    intro h
    by_cases h0 : dk n f v k x = 0
    · have e : dk n f v (k + 1) x = k + 1 := by
        unfold dk at h ⊢
        rw [if_neg (by simpa using h0)] at h ⊢
        cases hw : wk n f v (k + 1) x with
        | true => rfl
        | false => rw [hw] at h; exact absurd rfl h
      have hw : wk n f v (k + 1) x = true := by
        unfold dk at e
        rw [if_neg (by simpa using h0)] at e
        cases hw : wk n f v (k + 1) x with
        | true => rfl
        | false => rw [hw] at e; simp at e
      rw [e]
      exact ⟨hw, by omega, fun i h1 h2 => (dk_zero k).1 h0 i h1 (by omega)⟩
    · have e : dk n f v (k + 1) x = dk n f v k x := by unfold dk; rw [if_pos h0]; cases k <;> rfl
      rw [e]
      obtain ⟨a, b, c⟩ := ih h0
      exact ⟨a, by omega, c⟩
theorem dk_next {n : Nat} {f : Nat → Nat → Bool} {v x k : Nat} : dk n f v (k + 1) x = if dk n f v k x ≠ 0 then dk n f v k x else if wk n f v (k + 1) x then k + 1 else 0 := rfl
theorem dk_keep {n : Nat} {f : Nat → Nat → Bool} {v x k : Nat} (h : dk n f v k x ≠ 0) : dk n f v (k + 1) x = dk n f v k x := by rw [dk_next, if_pos h]

theorem lev_down {n : Nat} {f : Nat → Nat → Bool} {v m x : Nat} (hm : 1 ≤ m) (hw : wk n f v (m + 1) x = true) (hf : ∀ i, 1 ≤ i → i < m + 1 → wk n f v i x = false) : ∃ y, y < n ∧ f x y = true ∧ wk n f v m y = true ∧ ∀ i, 1 ≤ i → i < m → wk n f v i y = false := by
  obtain ⟨y, hy, h1, h2⟩ := wk_succ.1 hw
  refine ⟨y, hy, h1, h2, fun i hi1 hi2 => ?_⟩
  cases e : wk n f v i y with
  | false => rfl
  | true =>
    have := hf (i + 1) (by omega) (by omega)
    rw [wk_succ.2 ⟨y, hy, h1, e⟩] at this
    cases this
theorem chain {n : Nat} {f : Nat → Nat → Bool} {v : Nat} : ∀ (m x : Nat), x < n → wk n f v (m + 1) x = true → (∀ i, 1 ≤ i → i < m + 1 → wk n f v i x = false) →
    ∃ l : List Int, l.length = m + 1 ∧ (∀ a ∈ l, 0 ≤ a ∧ a < n) ∧ l.Nodup ∧ ∀ a ∈ l, ∃ j, 1 ≤ j ∧ j ≤ m + 1 ∧ wk n f v j a.toNat = true := by
  intro m
  induction m with
  | zero =>
    intro x hx hw _
    refine ⟨[(x : Int)], rfl, fun a ha => ?_, by simp, fun a ha => ?_⟩
    · simp at ha; omega
    · simp at ha; subst ha; exact ⟨1, by omega, by omega, hw⟩
  | succ m ih =>
    intro x hx hw hf
    obtain ⟨y, hy, _, h2, h3⟩ := lev_down (by omega) hw hf
    obtain ⟨l, g1, g2, g3, g4⟩ := ih y hy h2 h3
    refine ⟨(x : Int) :: l, by simp [g1], fun a ha => ?_, List.nodup_cons.2 ⟨fun hx2 => ?_, g3⟩, fun a ha => ?_⟩
    · rcases List.mem_cons.1 ha with rfl | ha
      · omega
      · exact g2 a ha
    · obtain ⟨j, j1, j2, j3⟩ := g4 _ hx2
      have := hf j j1 (by omega)
      simp only [Int.toNat_natCast] at j3
      rw [j3] at this; cases this
    · rcases List.mem_cons.1 ha with rfl | ha
      · exact ⟨m + 2, by omega, by omega, by simpa using hw⟩
      · obtain ⟨j, j1, j2, j3⟩ := g4 a ha
        exact ⟨j, j1, by omega, j3⟩
theorem lev_le {n : Nat} {f : Nat → Nat → Bool} {v m x : Nat} (hx : x < n) (hw : wk n f v (m + 1) x = true) (hf : ∀ i, 1 ≤ i → i < m + 1 → wk n f v i x = false) : m + 1 ≤ n := by
  obtain ⟨l, h1, h2, h3, _⟩ := chain m x hx hw hf
  have := len_of_cover h2 h3
  omega
theorem dk_le {n : Nat} {f : Nat → Nat → Bool} {v k x : Nat} (hx : x < n) : dk n f v k x ≤ n := by
  by_cases h : dk n f v k x = 0
  · omega
  · obtain ⟨h1, h2, h3⟩ := dk_pos k h
    obtain ⟨m, hm⟩ : ∃ m, dk n f v k x = m + 1 := ⟨dk n f v k x - 1, by omega⟩
    rw [hm] at h1 h3 ⊢
    exact lev_le hx h1 h3

def frF (n : Nat) (f : Nat → Nat → Bool) (v k : Nat) : Nat → Bool := fun x => if k = 0 then f x v else (List.range n).any fun y => decide (dk n f v k y = k) && f x y
theorem front_iff {n : Nat} {f : Nat → Nat → Bool} {v k x : Nat} (hv : v < n) (h0 : dk n f v k x = 0) : frF n f v k x = wk n f v (k + 1) x := by
  rw [Bool.eq_iff_iff]
  unfold frF
  by_cases hk : k = 0
  · subst hk; rw [if_pos rfl, wk_one hv]
  · rw [if_neg hk, List.any_eq_true, wk_succ]
    simp only [List.mem_range, Bool.and_eq_true, decide_eq_true_eq]
    constructor
    · rintro ⟨y, hy, h1, h2⟩
      have := (dk_pos k (by omega : dk n f v k y ≠ 0)).1
      rw [h1] at this
      exact ⟨y, hy, h2, this⟩
    · rintro ⟨y, hy, h1, h2⟩
      have hne : dk n f v k y ≠ 0 := fun h => by
        have := (dk_zero k).1 h k (by omega) (by omega)
        rw [h2] at this; cases this
      obtain ⟨g1, g2, g3⟩ := dk_pos k hne
      refine ⟨y, hy, ?_, h1⟩
      rcases Nat.lt_or_ge (dk n f v k y) k with h | h
      · have := (dk_zero k).1 h0 (dk n f v k y + 1) (by omega) (by omega)
        rw [wk_succ.2 ⟨y, hy, h1, g1⟩] at this; cases this
      · omega
theorem stable {n : Nat} {f : Nat → Nat → Bool} {v k : Nat} (hv : v < n) (he : ∀ x, x < n → frF n f v k x = false) : ∀ m, k ≤ m → ∀ x, x < n → dk n f v m x = dk n f v k x := by
  have none : ∀ m, k < m → ∀ x, x < n → wk n f v m x = true → (∀ i, 1 ≤ i → i < m → wk n f v i x = false) → False := by
    intro m hm
    induction m with
    | zero => omega
    | succ m ih =>
      intro x hx hw hf
      by_cases hkm : k = m
      · subst hkm
        have h0 : dk n f v k x = 0 := (dk_zero k).2 fun j h1 h2 => hf j h1 (by omega)
        have := he x hx
        rw [front_iff hv h0, hw] at this; cases this
      · obtain ⟨y, hy, _, h2, h3⟩ := lev_down (by omega) hw hf
        exact ih (by omega) y hy h2 h3
  intro m hm
  induction m with
  | zero =>
    have : k = 0 := by omega
    subst this; intro x _; rfl
  | succ m ih =>
    intro x hx
    by_cases hkm : k = m + 1
    · subst hkm; rfl
    · have e := ih (by omega) x hx
      rw [← e, dk_next]
      by_cases h0 : dk n f v m x = 0
      · rw [if_neg (by simpa using h0)]
        cases hw : wk n f v (m + 1) x with
        | false => simp [h0]
        | true => exact (none (m + 1) (by omega) x hx hw (fun i h1 h2 => (dk_zero m).1 h0 i h1 (by omega))).elim
      · rw [if_pos h0]
theorem front_end {n : Nat} {f : Nat → Nat → Bool} {v : Nat} : ∀ x, x < n → frF n f v (n + 1) x = false := by
  intro x _
  unfold frF
  rw [if_neg (by omega), List.any_eq_false]
  intro y hy
  have := dk_le (f := f) (v := v) (k := n + 1) (List.mem_range.1 hy)
  simp; intro h; omega

def ar64 (F : Nat → Int) : List Int := (List.range 64).map F
theorem ar_len (F : Nat → Int) : (ar64 F).length = 64 := by simp [ar64]
theorem ar_ext {F G : Nat → Int} (h : ∀ x, x < 64 → F x = G x) : ar64 F = ar64 G := by
  unfold ar64
  exact List.map_congr_left fun x hx => h x (List.mem_range.1 hx)
theorem ar_idx (F : Nat → Int) {y : Nat} (h : y < 64) : Sh.aidx 64 (ar64 F) (y : Int) = some (F y) := by
  unfold Sh.aidx
  rw [if_pos (ar_len F), idx_at (by rw [ar_len]; exact h)]
  simp [ar64]
theorem ar_set (F : Nat → Int) {y : Nat} (_h : y < 64) (c : Int) : Sh.set (ar64 F) (y : Int) c = ar64 fun x => if x = y then c else F x := by
  rw [set_at]
  apply List.ext_getElem? fun i => ?_
  unfold ar64
  rw [List.getElem?_set]
  by_cases hi : i < 64
  · by_cases e : y = i
    · subst e; simp [hi]
    · have e' : ¬ i = y := fun h => e h.symm
      simp [e, e', hi]
  · have h1 : ¬ y = i ∨ ¬ i < 64 := .inr hi
    rw [List.getElem?_eq_none (by simp; omega)]
    by_cases e : y = i
    · simp [e, hi]
    · simp [e, hi]
theorem ar_whole (F : Nat → Int) : Sh.whole 64 (ar64 F) = some (ar64 F) := by
  unfold Sh.whole; rw [if_pos (ar_len F)]

theorem ar_zero : List.replicate 64 (0 : Int) = ar64 (fun _ => 0) := by decide
def farF (n : Nat) (f : Nat → Nat → Bool) (v k : Nat) : Nat → Int := fun x => if x < n then (dk n f v k x : Int) else 0
def inF (n : Nat) (f : Nat → Nat → Bool) (v k : Nat) (L : List Nat) : Nat → Int := fun x => if x < n then (if dk n f v k x = 0 ∧ x ∈ L then ((k + 1 : Nat) : Int) else (dk n f v k x : Int)) else 0
def inN (n : Nat) (f : Nat → Nat → Bool) (v k : Nat) (L : List Nat) : Nat → Bool := fun x => L.any fun y => decide (dk n f v k y = 0) && f x y
theorem far_inner {n : Nat} (hn : n ≤ 64) (f : Nat → Nat → Bool) {v k : Nat} (hv : v < n) (hk : k ≤ n + 1) (p : Nat → Bool) :
    Sh.loop (fun (q : (List Int) × (BitVec 64) × Int) => G.cycle_far_b2 (gr n (turnF f)) ((k + 1 : Nat) : Int) (ilist (row n p)) q.1 q.2.1 q.2.2) (ar64 (farF n f v k), 0#64, 0) =
      some (.inl (ar64 (inF n f v k (Bv.list (row n p))), row n (inN n f v k (Bv.list (row n p))), ((k + 2 : Nat) : Int))) := by
  have hlen := Bv.list_length_le (row n p)
  refine run_exit (fun j => (ar64 (inF n f v k ((Bv.list (row n p)).take j)), row n (inN n f v k ((Bv.list (row n p)).take j)), (j : Int))) (Bv.list (row n p)).length _ (fuel_gt (by omega)) (fun j hj => ?_) ?_ ?_
  · have hjl : j < (ilist (row n p)).length := by simpa [ilist] using hj
    have hy := list_mem_lt hn p hj
    have hjl' : (j : Int) < ((ilist (row n p)).length : Int) := by omega
    simp only [G.cycle_far_b2, len_eq, hjl', decide_true, if_true, ilist_at hj, Option.bind_some]
    generalize hye : (Bv.list (row n p))[j] = y at hy
    have hnot : y ∉ (Bv.list (row n p)).take j := fun hm => by
      obtain ⟨i, hi, e⟩ := List.getElem_of_mem hm
      have hi' : i < j := by rw [List.length_take] at hi; omega
      rw [List.getElem_take] at e
      have := List.pairwise_iff_getElem.1 (Bv.list_sorted (row n p)) i j (by omega) hj hi'
      omega
    have hval : inF n f v k ((Bv.list (row n p)).take j) y = (dk n f v k y : Int) := by
      unfold inF; rw [if_pos hy, if_neg (fun h => hnot h.2)]
    have htk : (Bv.list (row n p)).take (j + 1) = (Bv.list (row n p)).take j ++ [y] := by rw [List.take_succ_eq_append_getElem hj, hye]
    rw [ar_idx _ (by omega)]
    simp only [Option.bind_some, hval]
    by_cases h0 : dk n f v k y = 0
    · have h0' : (dk n f v k y : Int) = 0 := by omega
      simp only [h0', decide_true, if_true, rows_idx hy, Option.bind_some, join_two, row_or hn, G.cycle_far_j4, Sh.next, w64_succ (show j < 9223372036854775807 by omega)]
      rw [ar_set _ (by omega), htk]
      congr 3
      · apply ar_ext
        intro x _
        unfold inF
        by_cases hx : x < n
        · by_cases e : x = y
          · subst e; simp [hx, h0]
          · simp [hx, e]
        · have : ¬ x = y := fun e => hx (e ▸ hy)
          simp [hx, this]
      · congr 1
        rw [row_ext hn]
        intro x _
        unfold inN
        simp [h0, turnF]
    · have h0' : ¬ (dk n f v k y : Int) = 0 := by omega
      simp only [h0', decide_false, Bool.false_eq_true, if_false, G.cycle_far_j4, Sh.next, w64_succ (show j < 9223372036854775807 by omega)]
      rw [htk]
      congr 3
      · apply ar_ext
        intro x _
        unfold inF
        by_cases hx : x < n
        · by_cases e : x = y
          · subst e; simp [hx, h0]
          · simp [hx, e]
        · simp [hx]
      · congr 1
        rw [row_ext hn]
        intro x _
        unfold inN
        simp [h0]
  · have hjl : ¬ (((Bv.list (row n p)).length : Nat) : Int) < ((ilist (row n p)).length : Int) := by simp [ilist]
    simp only [G.cycle_far_b2, len_eq, hjl, decide_false, Bool.false_eq_true, if_false, List.take_length, G.cycle_far_j3, G.cycle_far_j2, Sh.next, w64_succ (show k + 1 < 9223372036854775807 by omega)]
  · simp only [List.take_zero]
    congr 2
    · funext x
      unfold farF inF
      simp
    · have : row n (inN n f v k []) = 0#64 := by
        have : row n (inN n f v k []) = row n (fun _ => false) := by
          rw [row_ext hn]; intro x _; rfl
        rw [this]
        apply Bv.ext
        intro i _
        rw [row_get hn]; simp
      rw [this]
theorem cycle_far {n : Nat} (hn : n ≤ 64) (f : Nat → Nat → Bool) {v : Nat} (hv : v < n) : G.cycle_far (gr n (turnF f)) (v : Int) = some (ar64 (farF n f v n)) := by
  unfold G.cycle_far
  simp only [rows_idx hv, Option.bind_some]
  obtain ⟨K, hK, hmin⟩ := exists_least (fun k => ∀ x, x < n → frF n f v k x = false) ⟨n + 1, front_end⟩
  have hKn : K ≤ n + 1 := hmin _ front_end
  have hend : ar64 (farF n f v K) = ar64 (farF n f v n) := by
    apply ar_ext
    intro x _
    unfold farF
    by_cases hx : x < n
    · rw [if_pos hx, if_pos hx]
      rcases Nat.lt_or_ge n K with h | h
      · have e1 : K = n + 1 := by omega
        subst e1
        have : dk n f v (n + 1) x = dk n f v n x := by
          rw [dk_next]
          by_cases h0 : dk n f v n x = 0
          · rw [if_neg (by simpa using h0)]
            cases hw : wk n f v (n + 1) x with
            | false => simp [h0]
            | true =>
              have := lev_le hx hw (fun i h1 h2 => (dk_zero n).1 h0 i h1 (by omega))
              omega
          · rw [if_pos h0]
        rw [this]
      · rw [stable hv hK n h x hx]
    · rw [if_neg hx, if_neg hx]
  rw [← hend]
  refine run_exit (fun k => (ar64 (farF n f v k), row n (frF n f v k), ((k + 1 : Nat) : Int))) K _ (fuel_gt (by omega)) (fun k hk => ?_) ?_ ?_
  · have hne : ¬ row n (frF n f v k) = 0#64 := fun h => by
      have : ∀ x, x < n → frF n f v k x = false := fun x hx => by
        have h2 : (row n (frF n f v k)).getLsbD x = false := by rw [h]; simp
        rw [row_get hn] at h2
        simpa [hx] using h2
      have := hmin k this
      omega
    simp only [G.cycle_far_b1, ne_eq, hne, not_false_eq_true, decide_true, if_true, bits_List, Option.bind_some]
    rw [far_inner hn f hv (by omega)]
    have hmem : ∀ x, x ∈ Bv.list (row n (frF n f v k)) ↔ x < n ∧ frF n f v k x = true := fun x => list_row hn _
    congr 3
    · apply ar_ext
      intro x _
      unfold inF farF
      by_cases hx : x < n
      · rw [if_pos hx, if_pos hx, dk_next]
        by_cases h0 : dk n f v k x = 0
        · have hi := front_iff hv h0
          rw [if_neg (show ¬ dk n f v k x ≠ 0 by simpa using h0)]
          cases hw : wk n f v (k + 1) x with
          | true => rw [if_pos ⟨h0, (hmem x).2 ⟨hx, by rw [hi, hw]⟩⟩]; rfl
          | false => rw [if_neg (fun h => by have := ((hmem x).1 h.2).2; rw [hi, hw] at this; cases this), h0]; rfl
        · rw [if_neg (fun h => h0 h.1), if_pos h0]
      · rw [if_neg hx, if_neg hx]
    · congr 1
      rw [row_ext hn]
      intro x _
      rw [Bool.eq_iff_iff]
      unfold inN
      conv => rhs; unfold frF
      rw [if_neg (by omega), List.any_eq_true, List.any_eq_true]
      simp only [Bool.and_eq_true, decide_eq_true_eq, List.mem_range]
      constructor
      · rintro ⟨y, h1, h2, h3⟩
        obtain ⟨hy, h4⟩ := (hmem y).1 h1
        refine ⟨y, hy, ?_, h3⟩
        rw [dk_next, if_neg (by simpa using h2)]
        rw [front_iff hv h2] at h4
        rw [h4]; rfl
      · rintro ⟨y, hy, h2, h3⟩
        have h0 : dk n f v k y = 0 := Classical.byContradiction fun h => by
          have := (dk_pos k h).2.1
          rw [dk_keep h] at h2
          omega
        refine ⟨y, (hmem y).2 ⟨hy, ?_⟩, h0, h3⟩
        rw [front_iff hv h0]
        rw [dk_next, if_neg (by simpa using h0)] at h2
        cases hw : wk n f v (k + 1) y with
        | true => rfl
        | false => rw [hw] at h2; simp at h2
  · have hz : row n (frF n f v K) = 0#64 := by
      apply Bv.ext
      intro i _
      rw [row_get hn]
      by_cases hi : i < n
      · simp [hi, hK i hi]
      · simp [hi]
    simp only [G.cycle_far_b1, hz, ne_eq, not_true_eq_false, decide_false, Bool.false_eq_true, if_false, G.cycle_far_j1, ar_whole, Option.bind_some]
  · congr 1
    · rw [ar_zero]
      apply ar_ext
      intro x _
      unfold farF dk
      simp
end Pl
end

section
/- What the reference tells of distances; which cycle is found. -/
namespace Pl
open Go Go.Av

end Pl
end

section
/- A cycle begins anywhere. -/
namespace Pl
open Go Go.Av

theorem awake15 : G.inquestlaw15_awake = some true := by kernel_rfl
end Pl
end

section
/- Which cycle is found; the statements on cycles. -/
namespace Pl
open Go Go.Av

theorem down_one {n : Nat} {f : Nat → Nat → Bool} {v x L : Nat} (hL : 1 ≤ L) (hx : x < n) (h : dk n f v n x = L + 1) : ∃ y, y < n ∧ f x y = true ∧ dk n f v n y = L := by
  have hx0 : dk n f v n x ≠ 0 := by omega
  obtain ⟨h1, h2, h3⟩ := dk_pos n hx0
  rw [h] at h1 h2 h3
  obtain ⟨y, hy, g1, g2, g3⟩ := lev_down hL h1 h3
  refine ⟨y, hy, g1, ?_⟩
  have hne : dk n f v n y ≠ 0 := fun e => by
    have := (dk_zero n).1 e L hL (by omega)
    rw [g2] at this; cases this
  obtain ⟨k1, k2, k3⟩ := dk_pos n hne
  rcases Nat.lt_trichotomy (dk n f v n y) L with h | h | h
  · have := g3 _ (by omega) h
    rw [k1] at this; cases this
  · exact h
  · have := k3 L hL h
    rw [g2] at this; cases this

def nq (n : Nat) (f : Nat → Nat → Bool) (v x L : Nat) : Nat → Bool := fun y => f x y && decide (dk n f v n y = L)
def sq (n : Nat) (f : Nat → Nat → Bool) (v L : Nat) : Nat → Nat × List Int
  | 0 => (v, [(v : Int)])
  | j + 1 => ((leastFrom (nq n f v (sq n f v L j).1 (L - j)) n 0).toNat, (sq n f v L j).2 ++ [leastFrom (nq n f v (sq n f v L j).1 (L - j)) n 0])
theorem sq_step {n : Nat} {f : Nat → Nat → Bool} {v x L : Nat} (hL : 1 ≤ L) (hx : x < n) (h : dk n f v n x = L + 1) : ∃ y : Nat, y < n ∧ leastFrom (nq n f v x L) n 0 = (y : Int) ∧ f x y = true ∧ dk n f v n y = L ∧ ∀ i, i < y → ¬ (f x i = true ∧ dk n f v n i = L) := by
  obtain ⟨z, hz, g1, g2⟩ := down_one hL hx h
  have hq : nq n f v x L z = true := by simp [nq, g1, g2]
  rcases leastFrom_spec (nq n f v x L) n 0 with ⟨_, h2⟩ | ⟨y, _, h2, h3, h4, h5⟩
  · rw [h2 z (by omega) (by omega)] at hq; cases hq
  · simp only [nq, Bool.and_eq_true, decide_eq_true_eq] at h4
    refine ⟨y, by omega, h3, h4.1, h4.2, fun i hi hc => ?_⟩
    have := h5 i (by omega) hi
    simp [nq, hc.1, hc.2] at this
theorem sq_inv {n : Nat} {f : Nat → Nat → Bool} {v L : Nat} (hv : v < n) (hD : dk n f v n v = L + 1) : ∀ j, j ≤ L → (sq n f v L j).1 < n ∧ dk n f v n (sq n f v L j).1 = L - j + 1 ∧ (sq n f v L j).2.length = j + 1 ∧ (sq n f v L j).2[j]? = some ((sq n f v L j).1 : Int) ∧ (sq n f v L j).2[0]? = some (v : Int) := by
  intro j
  induction j with
  | zero => intro _; exact ⟨hv, hD, rfl, rfl, rfl⟩
  | succ j ih =>
    intro hj
    obtain ⟨h1, h2, h3, h4, h5⟩ := ih (by omega)
    obtain ⟨y, hy, e, g1, g2, _⟩ := sq_step (L := L - j) (by omega) h1 h2
    refine ⟨?_, ?_, ?_, ?_, ?_⟩
    · simp only [sq, e, Int.toNat_natCast]; exact hy
    · simp only [sq, e, Int.toNat_natCast]; omega
    · simp only [sq, List.length_append, h3, List.length_singleton]
    · simp only [sq, e, Int.toNat_natCast]
      rw [List.getElem?_append_right (by omega), h3]; simp
    · simp only [sq]
      rw [List.getElem?_append_left (by omega)]; exact h5
theorem sq_next {n : Nat} {f : Nat → Nat → Bool} {v L j y : Nat} (e : leastFrom (nq n f v (sq n f v L j).1 (L - j)) n 0 = (y : Int)) : sq n f v L (j + 1) = (y, (sq n f v L j).2 ++ [(y : Int)]) := by
  simp only [sq, e, Int.toNat_natCast]

theorem prog_step {n : Nat} (hn : n ≤ 64) (f : Nat → Nat → Bool) {v L j : Nat} (hv : v < n) (hD : dk n f v n v = L + 1) (hj : j < L) :
    G.cycle_Find_b2 (gr n f) (ar64 (farF n f v n)) (sq n f v L j).2 ((L - j : Nat) : Int) = some (.inl ((sq n f v L (j + 1)).2, ((L - (j + 1) : Nat) : Int))) := by
  obtain ⟨h1, h2, h3, h4, _⟩ := sq_inv hv hD j (by omega)
  have hLn : L + 1 ≤ n := by rw [← hD]; exact dk_le hv
  obtain ⟨y, hy, e, g1, g2, g3⟩ := sq_step (L := L - j) (by omega) h1 h2
  have hnx := sq_next e
  generalize sq n f v L (j + 1) = s2 at hnx
  subst hnx
  generalize sq n f v L j = s at h1 h2 h3 h4 e g1 g2 g3
  obtain ⟨x, out⟩ := s
  simp only at h1 h2 h3 h4 e g1 g2 g3 ⊢
  have hpos : (0 : Int) < ((L - j : Nat) : Int) := by omega
  have hlast : w64 ((out.length : Int) - 1) = (j : Int) := by rw [w64_id (by omega) (by omega)]; omega
  have hjo : j < out.length := by omega
  have hoj : out[j] = (x : Int) := by rw [List.getElem?_eq_getElem hjo] at h4; exact Option.some.inj h4
  simp only [G.cycle_Find_b2, hpos, decide_true, if_true, len_eq, hlast, idx_at hjo, Option.bind_some, hoj, rows_idx h1, bits_List]
  have hmem : y ∈ Bv.list (row n (f x)) := (list_row hn _).2 ⟨hy, g1⟩
  obtain ⟨i, hi, hiy⟩ := List.getElem_of_mem hmem
  have hll := Bv.list_length_le (row n (f x))
  refine run_exit (fun q => (q : Int)) i _ (fuel_gt (by omega)) (fun q hq => ?_) ?_ rfl
  · have hql : q < (Bv.list (row n (f x))).length := by omega
    have hlt := List.pairwise_iff_getElem.1 (Bv.list_sorted (row n (f x))) q i hql hi hq
    have hm := (list_row hn (f x)).1 (List.getElem_mem hql)
    have hqi : (q : Int) < ((ilist (row n (f x))).length : Int) := by simp [ilist]; exact hql
    simp only [G.cycle_Find_b3, len_eq, hqi, decide_true, if_true, ilist_at hql, Option.bind_some]
    rw [ar_idx _ (by omega)]
    have hd : ¬ farF n f v n (Bv.list (row n (f x)))[q] = ((L - j : Nat) : Int) := fun he => by
      unfold farF at he
      rw [if_pos hm.1] at he
      exact g3 _ (by omega) ⟨hm.2, by omega⟩
    simp only [Option.bind_some, hd, decide_false, Bool.false_eq_true, if_false, Sh.next, w64_succ (show q < 9223372036854775807 by omega)]
  · have hqi : (i : Int) < ((ilist (row n (f x))).length : Int) := by simp [ilist]; exact hi
    simp only [G.cycle_Find_b3, len_eq, hqi, decide_true, if_true, ilist_at hi, Option.bind_some, hiy]
    rw [ar_idx _ (by omega)]
    have hd : farF n f v n y = ((L - j : Nat) : Int) := by unfold farF; rw [if_pos hy]; omega
    simp only [Option.bind_some, hd, decide_true, if_true]
    rw [app_ok (by simp; omega)]
    have e2 : w64 (((L - j : Nat) : Int) - 1) = ((L - (j + 1) : Nat) : Int) := by rw [w64_id (by omega) (by omega)]; omega
    simp only [Option.bind_some, G.cycle_Find_j4, e2]
    rfl
theorem find_bad (g : G.graph_Graph) (hl : g.Rows.length < 9223372036854775808) (h : rightB g.N g.Rows = false) : G.cycle_Find g = some [] := by
  unfold G.cycle_Find
  simp [graph_Turn_bad g hl h]
end Pl
end

section
/- CycleFinds, in plain words. -/
namespace Pl
open Go Go.Av

theorem wk_way {n : Nat} {f : Nat → Nat → Bool} {v : Nat} (hv : v < n) : ∀ (m x : Nat), x < n → wk n f v (m + 1) x = true → Way n f x v := by
  intro m
  induction m with
  | zero => intro x hx h; rw [wk_one hv] at h; exact .edge hx hv h
  | succ m ih =>
    intro x hx h
    obtain ⟨y, hy, h1, h2⟩ := wk_succ.1 h
    exact .cons hx hy h1 (ih y hy h2)
theorem way_wk {n : Nat} {f : Nat → Nat → Bool} {x v : Nat} (h : Way n f x v) : ∃ m, wk n f v (m + 1) x = true := by
  induction h with
  | edge hx hy hf => exact ⟨0, by rw [wk_one hy]; exact hf⟩
  | cons hx hy hf _ ih =>
    obtain ⟨m, hm⟩ := ih
    exact ⟨m + 1, wk_succ.2 ⟨_, hy, hf, hm⟩⟩
theorem dk_way {n : Nat} {f : Nat → Nat → Bool} {v : Nat} (hv : v < n) : dk n f v n v ≠ 0 ↔ Way n f v v := by
  constructor
  · intro h
    obtain ⟨h1, _, _⟩ := dk_pos n h
    obtain ⟨m, hm⟩ : ∃ m, dk n f v n v = m + 1 := ⟨dk n f v n v - 1, by omega⟩
    rw [hm] at h1
    exact wk_way hv m v hv h1
  · intro h h0
    obtain ⟨m, ⟨hm, hmin⟩⟩ := exists_least _ (way_wk h)
    have h1 := (dk_zero n).1 h0
    have h2 := lev_le hv hm (fun i hi1 hi2 => by
      cases hc : wk n f v i v with
      | false => rfl
      | true =>
        have := hmin (i - 1) (by rw [show i - 1 + 1 = i by omega]; exact hc)
        omega)
    rw [h1 (m + 1) (by omega) h2] at hm
    cases hm
theorem sq_all {n : Nat} {f : Nat → Nat → Bool} {v L : Nat} (hv : v < n) (hD : dk n f v n v = L + 1) : ∀ j, j ≤ L → ∀ i, i ≤ j → (sq n f v L j).2[i]? = some ((sq n f v L i).1 : Int) := by
  intro j
  induction j with
  | zero => intro _ i hi; have : i = 0 := by omega
            subst this; exact (sq_inv hv hD 0 (Nat.zero_le _)).2.2.2.1
  | succ j ih =>
    intro hj i hi
    by_cases e : i = j + 1
    · subst e; exact (sq_inv hv hD (j + 1) hj).2.2.2.1
    · have h3 := (sq_inv hv hD j (by omega)).2.2.1
      simp only [sq]
      rw [List.getElem?_append_left (by omega)]
      exact ih (by omega) i (by omega)
theorem sq_cyc {n : Nat} {f : Nat → Nat → Bool} {v L : Nat} (hv : v < n) (hD : dk n f v n v = L + 1) : Cyc n f (sq n f v L L).2 := by
  have hlen := (sq_inv hv hD L (Nat.le_refl _)).2.2.1
  have hget : ∀ i (hi : i < (sq n f v L L).2.length), (sq n f v L L).2[i] = ((sq n f v L i).1 : Int) := fun i hi => by
    have := sq_all hv hD L (Nat.le_refl _) i (by omega)
    rw [List.getElem?_eq_getElem hi] at this
    exact Option.some.inj this
  refine ⟨by omega, fun a ha => ?_, ?_, fun i hi => ?_⟩
  · obtain ⟨i, hi, rfl⟩ := List.mem_iff_getElem.1 ha
    rw [hget i hi]
    have := (sq_inv hv hD i (by omega)).1
    omega
  · rw [List.Nodup, List.pairwise_iff_getElem]
    intro i j hi hj hij e
    rw [hget i hi, hget j hj] at e
    have e' : (sq n f v L i).1 = (sq n f v L j).1 := Int.ofNat_inj.1 e
    have h1 := (sq_inv hv hD i (by omega)).2.1
    have h2 := (sq_inv hv hD j (by omega)).2.1
    rw [e'] at h1
    omega
  · rw [hget i hi, hget _ (Nat.mod_lt _ (by omega))]
    rw [Int.toNat_natCast, Int.toNat_natCast, hlen]
    by_cases hl : i = L
    · subst hl
      rw [Nat.mod_self]
      have h1 := (sq_inv hv hD i (Nat.le_refl _))
      have h2 : dk n f v n (sq n f v i i).1 = 1 := by have := h1.2.1; omega
      have h3 := (dk_pos n (by omega : dk n f v n (sq n f v i i).1 ≠ 0)).1
      rw [h2, wk_one hv] at h3
      exact h3
    · rw [Nat.mod_eq_of_lt (by omega)]
      obtain ⟨h1, h2, _⟩ := sq_inv hv hD i (by omega)
      obtain ⟨y, hy, e, g1, _, _⟩ := sq_step (L := L - i) (by omega) h1 h2
      rw [sq_next e]
      exact g1
theorem find_more {n : Nat} (hn : n ≤ 64) (f : Nat → Nat → Bool) : ∃ r : List Int, G.cycle_Find (gr n f) = some r ∧ ((r = [] ∧ ∀ v, v < n → ¬ Way n f v v) ∨ ∃ v : Nat, v < n ∧ Way n f v v ∧ (∀ u, u < v → ¬ Way n f u u) ∧ r[0]? = some (v : Int) ∧ Cyc n f r) := by
  unfold G.cycle_Find
  simp only [graph_Turn hn, Option.bind_some, ne_eq, not_true_eq_false, decide_false, Bool.false_eq_true, if_false]
  have pskip : ∀ v, v < n → dk n f v n v = 0 → G.cycle_Find_b1 (gr n f) (gr n (turnF f), 0) (v : Int) = some (.inl ((v + 1 : Nat) : Int)) := fun v hv h0 => by
    have hvn : (v : Int) < (n : Int) := by omega
    simp only [G.cycle_Find_b1, hvn, decide_true, if_true, cycle_far hn f hv, Option.bind_some]
    rw [show Sh.whole 64 (List.replicate 64 0) = some (List.replicate 64 0) by simp [Sh.whole], Option.bind_some, ar_whole, Option.bind_some, ar_idx _ (by omega)]
    have : farF n f v n v = 0 := by unfold farF; rw [if_pos hv, h0]; rfl
    simp only [Option.bind_some, this, decide_true, if_true, G.cycle_Find_j2, Sh.next, w64_succ (show v < 9223372036854775807 by omega)]
  by_cases hex : ∃ v, v < n ∧ dk n f v n v ≠ 0
  · obtain ⟨v, ⟨hv, hne⟩, hmin⟩ := exists_least _ hex
    have before : ∀ i, i < v → dk n f i n i = 0 := fun i hi => Classical.byContradiction fun h => by
      have := hmin i ⟨by omega, h⟩; omega
    obtain ⟨L, hL⟩ : ∃ L, dk n f v n v = L + 1 := ⟨dk n f v n v - 1, by omega⟩
    have hLn : L + 1 ≤ n := by rw [← hL]; exact dk_le hv
    obtain ⟨_, _, i3, _, i5⟩ := sq_inv hv hL L (by omega)
    have hvn : (v : Int) < (n : Int) := by omega
    have hne0 : ¬ ((L + 1 : Nat) : Int) = 0 := by omega
    have hw : w64 (((L + 1 : Nat) : Int) - 1) = ((L - 0 : Nat) : Int) := by rw [w64_id (by omega) (by omega)]; omega
    refine ⟨(sq n f v L L).2, ?_, .inr ⟨v, hv, (dk_way hv).1 hne, fun u hu hwu => (dk_way (by omega)).2 hwu (before u hu), i5, sq_cyc hv hL⟩⟩
    refine run_exit (fun i => (i : Int)) v _ (fuel_gt (by omega)) (fun i hi => pskip i (by omega) (before i hi)) ?_ rfl
    have hd : farF n f v n v = ((L + 1 : Nat) : Int) := by unfold farF; rw [if_pos hv, hL]
    simp only [G.cycle_Find_b1, hvn, decide_true, if_true, cycle_far hn f hv, Option.bind_some]
    rw [show Sh.whole 64 (List.replicate 64 0) = some (List.replicate 64 0) by simp [Sh.whole], Option.bind_some, ar_whole, Option.bind_some, ar_idx _ (by omega)]
    simp only [Option.bind_some, hd, hne0, decide_false, Bool.false_eq_true, if_false]
    simp only [hw]
    refine run_exit (fun j => ((sq n f v L j).2, ((L - j : Nat) : Int))) L _ (fuel_gt (by omega)) (fun j hj => prog_step hn f hv hL hj) ?_ rfl
    simp only [Nat.sub_self, G.cycle_Find_b2, Int.natCast_zero, Int.lt_irrefl, decide_false, Bool.false_eq_true, if_false, G.cycle_Find_j3]
  · have before : ∀ i, i < n → dk n f i n i = 0 := fun i hi => Classical.byContradiction fun h => hex ⟨i, hi, h⟩
    refine ⟨[], ?_, .inl ⟨rfl, fun v hv hw => (dk_way hv).2 hw (before v hv)⟩⟩
    refine run_exit (fun i => (i : Int)) n _ (fuel_gt (by omega)) (fun i hi => pskip i hi (before i hi)) ?_ rfl
    simp only [G.cycle_Find_b1, Int.lt_irrefl, decide_false, Bool.false_eq_true, if_false, G.cycle_Find_j1]
theorem inn_first {n : Nat} {f : Nat → Nat → Bool} {v : Nat} (hv : v < n) (hw : Way n f v v) (hm : ∀ u, u < v → ¬ Way n f u u) : ∃ r, innL n f = v :: r := by
  have hs : (innL n f).Pairwise (· < ·) := List.Pairwise.filter _ List.pairwise_lt_range
  have hmem : v ∈ innL n f := List.mem_filter.2 ⟨List.mem_range.2 hv, way_iff.2 hw⟩
  cases hi : innL n f with
  | nil => rw [hi] at hmem; simp at hmem
  | cons a r =>
    rw [hi] at hmem hs
    have ha : a ∈ innL n f := by rw [hi]; exact List.mem_cons_self ..
    have haw := way_iff.1 (List.mem_filter.1 ha).2
    rcases List.mem_cons.1 hmem with e | e
    · exact ⟨r, by rw [e]⟩
    · exact absurd haw (hm a ((List.pairwise_cons.1 hs).1 v e))
theorem CycleFinds (g : G.graph_Graph) : G.inquestlaw15_CycleFinds g = some true := by
  unfold G.inquestlaw15_CycleFinds
  simp only [awake15, Option.bind_some, Bool.not_true, Bool.false_eq_true, if_false]
  by_cases h70 : (70 : Int) < Sh.len g.Rows
  · simp only [h70, decide_true, if_true]
  have hs := shortC h70
  have hl : g.Rows.length < 9223372036854775808 := by omega
  simp only [h70, decide_false, Bool.false_eq_true, if_false]
  cases hr : rightB g.N g.Rows with
  | false =>
    rw [find_bad g hl hr, reach_Cyclic_bad g hl hr]; rfl
  | true =>
    obtain ⟨n, f, hn, rfl⟩ := right_g hr
    obtain ⟨r, e1, e2⟩ := find_more hn f
    rw [e1, reach_Cyclic hn f]
    simp only [Option.bind_some]
    rcases e2 with ⟨rfl, hno⟩ | ⟨v, hv, hw, hm, h0, hc⟩
    · have : cycB n f = false := by
        cases hq : cycB n f with
        | false => rfl
        | true =>
          obtain ⟨x, hx⟩ := cyc_iff.1 hq
          exact absurd hx (hno x hx.left)
      rw [this]; rfl
    · have : cycB n f = true := cyc_iff.2 ⟨v, hw⟩
      obtain ⟨q, hq⟩ := inn_first hv hw hm
      have hlr := hc.some
      have hle := cyc_le hc
      have h1 : (0 : Int) < Sh.len r := by simp only [Sh.len]; omega
      have h2 : (0 : Int) < Sh.len (cl (innL n f)) := by rw [hq]; simp only [Sh.len, cl_len, List.length_cons]; omega
      have h3 : Sh.idx r 0 = some (v : Int) := by unfold Sh.idx; rw [if_pos (by omega)]; exact h0
      have h4 : Sh.idx (cl (innL n f)) 0 = some (v : Int) := by rw [hq]; rfl
      rw [this]
      simp only [Bool.not_true, Bool.false_eq_true, if_false, pInner_ hn f, Option.bind_some, decide_eq_true h1, decide_eq_true h2, if_true, cycle_Is hn f r (by omega), cy_iff.2 hc, h3, h4, decide_true]
end Pl
end
