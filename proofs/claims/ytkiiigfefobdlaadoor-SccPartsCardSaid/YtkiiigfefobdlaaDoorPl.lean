/- What the plain functions answer. -/
import Derived.Test.YtkiiigfefobdlaaDoorBase1
import Derived.Test.YtkiiigfefobdlaaDoorSh
import Derived.KernelRfl
set_option linter.unusedSimpArgs false
set_option linter.unusedVariables false
section
/- What is used to reason about the plain functions. -/
namespace Pl
open Go Go.Av

theorem w64_id {n : Int} (h1 : -9223372036854775808 ≤ n) (h2 : n < 9223372036854775808) : w64 n = n := i64_wrap h1 h2
theorem idx_at {α : Type} {l : List α} {k : Nat} (h : k < l.length) : Sh.idx l (k : Int) = some l[k] := by
  simp [Sh.idx, h]
theorem app_ok {α : Type} {b : Nat} {l m : List α} (h : (l.length + m.length) * b ≤ 140737488355328) : Sh.app b l m = some (l ++ m) := by
  simp [Sh.app, h]
theorem mk_ok {α : Type} {b m : Nat} {z : α} (h : b * m ≤ 140737488355328) (h2 : m ≤ 4611686018427387904) : Sh.mk b (m : Int) (m : Int) z = some (List.replicate m z) := by
  have : ((b : Int) * (m : Int)) ≤ 140737488355328 := by
    rw [← Int.natCast_mul]; omega
  unfold Sh.mk
  rw [if_pos ⟨by omega, by omega, this, by omega⟩]
  simp
theorem sub_ok {α : Type} {l : List α} {m k : Nat} (h1 : m ≤ k) (h2 : k ≤ l.length) : Sh.sub l (m : Int) (k : Int) = some ((l.drop m).take (k - m)) := by
  unfold Sh.sub
  rw [if_pos ⟨by omega, by omega, by omega⟩]
  simp
theorem set_at {α : Type} (l : List α) (k : Nat) (x : α) : Sh.set l (k : Int) x = l.set k x := by simp [Sh.set]
theorem count {σ α : Type} {b : σ × Int → Option ((σ × Int) ⊕ α)} (S : Nat → σ) (m : Nat) (r : α) (hm : m < Sh.FUEL) (h : ∀ k, k < m → b (S k, (k : Int)) = some (.inl (S (k + 1), ((k + 1 : Nat) : Int)))) (hr : b (S m, (m : Int)) = some (.inr r)) {s : σ} (hs : s = S 0) :
    Sh.loop b (s, 0) = some r := by
  subst hs
  exact Sh.loop_run (fun k => (S k, (k : Int))) m r hm h hr
theorem fuel_gt {n : Nat} (h : n < 9223372036854775808) : n < Sh.FUEL := h
theorem w64_succ {k : Nat} (h : k < 9223372036854775807) : w64 ((k : Int) + 1) = ((k + 1 : Nat) : Int) := by
  rw [w64_id (by omega) (by omega)]; omega
theorem len_eq {α : Type} (l : List α) : Sh.len l = (l.length : Int) := rfl
theorem dec_lt {k n : Nat} : decide ((k : Int) < (n : Int)) = decide (k < n) := by
  congr 1; exact propext (by omega)
end Pl
namespace Pl
open Go Go.Av
end Pl
namespace Pl
open Go Go.Av
theorem run_exit {σ α : Type} {b : σ → Option (σ ⊕ α)} (S : Nat → σ) (m : Nat) (X : Option α) (hm : m < Sh.FUEL) (h : ∀ k, k < m → b (S k) = some (.inl (S (k + 1)))) (hr : b (S m) = Sh.exit X) {s : σ} (hs : s = S 0) : Sh.loop b s = X := by
  subst hs
  unfold Sh.loop
  rw [show Sh.FUEL = m + ((Sh.FUEL - m - 1) + 1) by omega, Sh.iter_go S m h]
  simp only [Sh.iter, hr]
  cases X <;> rfl
end Pl
end

section
/- Loops over lists. -/
namespace Pl
open Go Go.Av

theorem loop_step {σ β : Type} {b : σ → Option (σ ⊕ β)} {n : Nat} {s s' : σ} (h : b s = some (.inl s')) : Sh.iter b (n + 1) s = Sh.iter b n s' := by simp [Sh.iter, h]
theorem loop_exit {σ β : Type} {b : σ → Option (σ ⊕ β)} {n : Nat} {s : σ} {X : Option β} (h : b s = Sh.exit X) : Sh.iter b (n + 1) s = X := by cases X <;> simp [Sh.iter, h, Sh.exit]

def pos {α : Type} (l : List α) (p : α → Bool) : Int := (l.findIdx? p).elim (-1) (fun k => (k : Int))
end Pl
end

section
/- Arrays by what stands at each place. -/
namespace Pl
open Go Go.Av

def arT {α : Type} (N : Nat) (F : Nat → α) : List α := (List.range N).map F
section
variable {α : Type} {N : Nat}
@[simp] theorem arT_len (F : Nat → α) : (arT N F).length = N := by simp [arT]
theorem arT_ext {F G : Nat → α} (h : ∀ x, x < N → F x = G x) : arT N F = arT N G := List.map_congr_left fun x hx => h x (List.mem_range.1 hx)
theorem arT_get (F : Nat → α) {y : Nat} (h : y < N) : (arT N F)[y]? = some (F y) := by simp [arT, h]
theorem arT_idx (F : Nat → α) {y : Nat} (h : y < N) : Sh.idx (arT N F) (y : Int) = some (F y) := by
  unfold Sh.idx
  rw [if_pos (by omega), Int.toNat_natCast, arT_get F h]
theorem arT_set (F : Nat → α) {y : Nat} (c : α) : Sh.set (arT N F) (y : Int) c = arT N fun x => if x = y then c else F x := by
  rw [set_at]
  apply List.ext_getElem? fun i => ?_
  rw [List.getElem?_set]
  by_cases hi : i < N
  · rw [arT_get _ hi]
    by_cases e : y = i
    · subst e; rw [if_pos rfl, arT_len, if_pos hi, arT_get _ hi, if_pos rfl]
    · rw [if_neg e, arT_get _ hi, if_neg (Ne.symm e)]
  · have h1 : (arT N F)[i]? = none := List.getElem?_eq_none (by simp; omega)
    have h2 : (arT N fun x => if x = y then c else F x)[i]? = none := List.getElem?_eq_none (by simp; omega)
    rw [h1, h2]
    split <;> simp; omega
theorem arT_zero (c : α) : List.replicate N c = arT N (fun _ => c) := by
  apply List.ext_getElem (by simp) fun i h1 h2 => by simp [arT]
end
end Pl
end

section
/- A search that goes deep first: what holds at each of its steps. -/
namespace Pl

structure Rch (E R : Nat → Nat → Prop) : Prop where
  refl : ∀ x, R x x
  trans : ∀ x y z, R x y → R y z → R x z
  edge : ∀ x y, E x y → R x y
  closed : ∀ (P : Nat → Prop), (∀ x y, P x → E x y → P y) → ∀ x y, R x y → P x → P y

structure Ts where
  W : Nat → Nat
  L : Nat → Nat
  D : Nat → Bool
  A : Nat → Nat → Bool
  cs : List Nat
  os : List Nat
  met : Nat
  comps : List (List Nat)

def Ts.opn (s : Ts) (x : Nat) : Prop := s.W x ≠ 0 ∧ s.D x = false

structure Ti (n : Nat) (E R : Nat → Nat → Prop) (s : Ts) : Prop where
  lt : ∀ x, s.W x ≠ 0 → x < n
  le : ∀ x, s.W x ≤ s.met
  inj : ∀ x y, s.W x = s.W y → s.W x ≠ 0 → x = y
  done : ∀ x, s.D x = true → s.W x ≠ 0
  osort : s.os.Pairwise (fun a b => s.W b < s.W a)
  oiff : ∀ x, x ∈ s.os ↔ s.opn x
  csort : s.cs.Pairwise (fun a b => s.W b < s.W a)
  copen : ∀ x, x ∈ s.cs → s.opn x
  edges : ∀ x y, E x y → s.W x ≠ 0 → s.W y ≠ 0 ∨ (x ∈ s.cs ∧ s.A x y = true)
  dclosed : ∀ x y, E x y → s.D x = true → s.D y = true
  low : ∀ x, s.opn x → s.L x ≤ s.W x ∧ (∃ y, s.opn y ∧ s.W y = s.L x ∧ R x y) ∧ (x ∉ s.cs → s.L x < s.W x)
  reach : ∀ p x, p ∈ s.cs → s.opn x → s.W p ≤ s.W x → R p x
  back : ∀ x y, s.opn x → E x y → s.opn y → ¬ (x ∈ s.cs ∧ s.A x y = true) → s.L x ≤ s.W y
  seg : ∀ p x, p ∈ s.cs → s.opn x → x ∉ s.cs → s.W p < s.W x → (∀ q, q ∈ s.cs → s.W p < s.W q → s.W x < s.W q) → s.L p ≤ s.L x
  cdone : ∀ c, c ∈ s.comps → ∀ x, x ∈ c → s.D x = true
  cis : ∀ c, c ∈ s.comps → ∃ x, x ∈ c ∧ ∀ y, y ∈ c ↔ (R x y ∧ R y x)
  cnodup : ∀ c, c ∈ s.comps → c.Nodup
  call : ∀ x, s.D x = true → ∃ c, c ∈ s.comps ∧ x ∈ c
  cdis : s.comps.Pairwise (fun a b => ∀ x, x ∈ a → x ∉ b)

section
variable {n : Nat} {E R : Nat → Nat → Prop}

def Ts.start : Ts := ⟨fun _ => 0, fun _ => 0, fun _ => false, fun _ _ => false, [], [], 0, []⟩

theorem Ti.start : Ti n E R .start where
  lt := fun x h => absurd rfl h
  le := fun x => Nat.le_refl _
  inj := fun x y _ h => absurd rfl h
  done := fun x h => by cases h
  osort := .nil
  oiff := fun x => ⟨fun h => by simp [Ts.start] at h, fun h => absurd rfl h.1⟩
  csort := .nil
  copen := fun x h => by simp [Ts.start] at h
  edges := fun x y _ h => absurd rfl h
  dclosed := fun x y _ h => by cases h
  low := fun x h => absurd rfl h.1
  reach := fun p x h => by simp [Ts.start] at h
  back := fun x y h => absurd rfl h.1
  seg := fun p x h => by simp [Ts.start] at h
  cdone := fun c h => by simp [Ts.start] at h
  cis := fun c h => by simp [Ts.start] at h
  cnodup := fun c h => by simp [Ts.start] at h
  call := fun x h => by cases h
  cdis := .nil

def Ts.drop (s : Ts) (x y : Nat) : Ts := { s with A := fun a b => s.A a b && !(decide (a = x) && decide (b = y)) }
theorem Ti.drop {s : Ts} (h : Ti n E R s) {x y : Nat} (hy : s.W y ≠ 0) (hl : s.D y = false → s.L x ≤ s.W y) : Ti n E R (s.drop x y) :=
  { h with
    edges := fun a b he ha => by
      rcases h.edges a b he ha with h1 | ⟨h1, h2⟩
      · exact .inl h1
      · by_cases hab : a = x ∧ b = y
        · rw [hab.2]; exact .inl hy
        · refine .inr ⟨h1, ?_⟩
          simp only [Ts.drop, h2, Bool.true_and, Bool.not_eq_true', Bool.and_eq_false_iff, decide_eq_false_iff_not]
          exact Classical.not_and_iff_not_or_not.1 hab
    back := fun a b ha he hb hn => by
      by_cases hab : a = x ∧ b = y
      · rw [hab.1, hab.2]; exact hl (by rw [← hab.2]; exact hb.2)
      · refine h.back a b ha he hb fun hc => hn ⟨hc.1, ?_⟩
        have h2 : s.A a b = true := hc.2
        simp only [Ts.drop, h2, Bool.true_and, Bool.not_eq_true', Bool.and_eq_false_iff, decide_eq_false_iff_not]
        exact Classical.not_and_iff_not_or_not.1 hab }

def Ts.lower (s : Ts) (x v : Nat) : Ts := { s with L := fun a => if a = x then Nat.min (s.L x) v else s.L a }
theorem Ti.lower {s : Ts} (h : Ti n E R s) {x y : Nat} (hx : x ∈ s.cs) (hy : s.opn y) (hxy : R x y) : Ti n E R (s.lower x (s.W y)) := by
  have hle : ∀ a, (s.lower x (s.W y)).L a ≤ s.L a := fun a => by
    show (if a = x then _ else _) ≤ _
    split
    · rename_i h; rw [h]; exact Nat.min_le_left _ _
    · exact Nat.le_refl _
  have hne : ∀ a, a ≠ x → (s.lower x (s.W y)).L a = s.L a := fun a ha => by
    show (if a = x then _ else _) = _
    rw [if_neg ha]
  exact { h with
    low := fun a ha => by
      obtain ⟨h1, h2, h3⟩ := h.low a ha
      refine ⟨Nat.le_trans (hle a) h1, ?_, fun hc => Nat.lt_of_le_of_lt (hle a) (h3 hc)⟩
      by_cases hax : a = x
      · subst hax
        have e : (s.lower a (s.W y)).L a = Nat.min (s.L a) (s.W y) := by
          show (if a = a then _ else _) = _
          rw [if_pos rfl]
        rw [e]
        by_cases hm : s.L a ≤ s.W y
        · rw [show Nat.min (s.L a) (s.W y) = s.L a from Nat.min_eq_left hm]; exact h2
        · rw [show Nat.min (s.L a) (s.W y) = s.W y from Nat.min_eq_right (by omega)]; exact ⟨y, hy, rfl, hxy⟩
      · rw [hne a hax]; exact h2
    back := fun a b ha he hb hn => Nat.le_trans (hle a) (h.back a b ha he hb hn)
    seg := fun p a hp ha hc h1 h2 => by
      rw [hne a (fun e => hc (by rw [e]; exact hx))]
      exact Nat.le_trans (hle p) (h.seg p a hp ha hc h1 h2) }

def Ts.enter (s : Ts) (y : Nat) (r : Nat → Bool) : Ts :=
  { s with W := fun a => if a = y then s.met + 1 else s.W a, L := fun a => if a = y then s.met + 1 else s.L a, A := fun a => if a = y then r else s.A a, cs := y :: s.cs, os := y :: s.os, met := s.met + 1 }
theorem Ti.enter {s : Ts} (hR : Rch E R) (h : Ti n E R s) {y : Nat} {r : Nat → Bool} (hy : y < n) (hw : s.W y = 0) (hr : ∀ z, E y z → r z = true) (hp : ∀ p, p ∈ s.cs → R p y) : Ti n E R (s.enter y r) := by
  have wy : (s.enter y r).W y = s.met + 1 := if_pos rfl
  have wo : ∀ a, a ≠ y → (s.enter y r).W a = s.W a := fun a ha => if_neg ha
  have ly : (s.enter y r).L y = s.met + 1 := if_pos rfl
  have lo : ∀ a, a ≠ y → (s.enter y r).L a = s.L a := fun a ha => if_neg ha
  have ao : ∀ a, a ≠ y → (s.enter y r).A a = s.A a := fun a ha => if_neg ha
  have dy : s.D y = false := by
    cases hd : s.D y with
    | false => rfl
    | true => exact absurd hw (h.done y hd)
  have ne_of : ∀ a, s.W a ≠ 0 → a ≠ y := fun a ha e => ha (by rw [e]; exact hw)
  have lew : ∀ a, s.W a ≤ (s.enter y r).W a := fun a => by
    by_cases e : a = y
    · rw [e, hw]; exact Nat.zero_le _
    · rw [wo a e]; exact Nat.le_refl _
  have opi : ∀ a, (s.enter y r).opn a ↔ a = y ∨ s.opn a := fun a => by
    by_cases e : a = y
    · subst e
      exact ⟨fun _ => .inl rfl, fun _ => ⟨by rw [wy]; omega, dy⟩⟩
    · exact ⟨fun k => .inr ⟨by rw [← wo a e]; exact k.1, k.2⟩, fun k => by
        rcases k with k | k
        · exact absurd k e
        · exact ⟨by rw [wo a e]; exact k.1, k.2⟩⟩
  have small : ∀ a, a ≠ y → (s.enter y r).W a < (s.enter y r).W y := fun a ha => by
    rw [wy, wo a ha]; exact Nat.lt_succ_of_le (h.le a)
  have hcy : y ∉ s.cs := fun hm => (h.copen y hm).1 hw
  exact {
    lt := fun a ha => by
      by_cases e : a = y
      · rw [e]; exact hy
      · exact h.lt a (by rw [← wo a e]; exact ha)
    le := fun a => by
      show _ ≤ s.met + 1
      by_cases e : a = y
      · rw [e, wy]; exact Nat.le_refl _
      · rw [wo a e]; exact Nat.le_succ_of_le (h.le a)
    inj := fun a b hab ha => by
      by_cases ea : a = y <;> by_cases eb : b = y
      · rw [ea, eb]
      · rw [ea] at hab; have := small b eb; omega
      · rw [eb] at hab; have := small a ea; omega
      · rw [wo a ea, wo b eb] at hab; rw [wo a ea] at ha; exact h.inj a b hab ha
    done := fun a ha => by
      have := h.done a ha
      rw [wo a (ne_of a this)]; exact this
    osort := .cons (fun a ha => small a (ne_of a ((h.oiff a).1 ha).1)) (h.osort.imp_of_mem fun {a b} ha hb k => by
      rw [wo a (ne_of a ((h.oiff a).1 ha).1), wo b (ne_of b ((h.oiff b).1 hb).1)]; exact k)
    oiff := fun a => by
      rw [opi a, ← h.oiff a]; exact List.mem_cons
    csort := .cons (fun a ha => small a (ne_of a (h.copen a ha).1)) (h.csort.imp_of_mem fun {a b} ha hb k => by
      rw [wo a (ne_of a (h.copen a ha).1), wo b (ne_of b (h.copen b hb).1)]; exact k)
    copen := fun a ha => (opi a).2 (by
      rcases List.mem_cons.1 ha with k | k
      · exact .inl k
      · exact .inr (h.copen a k))
    edges := fun a b he ha => by
      by_cases e : a = y
      · subst e
        exact .inr ⟨List.mem_cons_self .., by show (if a = a then r else s.A a) b = true; rw [if_pos rfl]; exact hr b he⟩
      · rcases h.edges a b he (by rw [← wo a e]; exact ha) with k | ⟨k1, k2⟩
        · exact .inl (by rw [wo b (ne_of b k)]; exact k)
        · exact .inr ⟨List.mem_cons_of_mem _ k1, by rw [ao a e]; exact k2⟩
    dclosed := h.dclosed
    low := fun a ha => by
      rcases (opi a).1 ha with e | k
      · subst e
        refine ⟨by rw [ly, wy]; exact Nat.le_refl _, ⟨a, ha, by rw [ly, wy], hR.refl a⟩, fun hc => absurd (List.mem_cons_self ..) hc⟩
      · have e := ne_of a k.1
        obtain ⟨h1, ⟨z, z1, z2, z3⟩, h3⟩ := h.low a k
        rw [lo a e, wo a e]
        exact ⟨h1, ⟨z, (opi z).2 (.inr z1), by rw [wo z (ne_of z z1.1)]; exact z2, z3⟩, fun hc => h3 fun hm => hc (List.mem_cons_of_mem _ hm)⟩
    reach := fun p a hpm ha hpa => by
      rcases List.mem_cons.1 hpm with e | hpm
      · subst e
        by_cases e2 : a = p
        · rw [e2]; exact hR.refl p
        · have := small a e2; omega
      · rcases (opi a).1 ha with e | k
        · rw [e]; exact hp p hpm
        · rw [wo p (ne_of p (h.copen p hpm).1), wo a (ne_of a k.1)] at hpa
          exact h.reach p a hpm k hpa
    back := fun a b ha he hb hn => by
      rcases (opi a).1 ha with e | k
      · subst e
        exact absurd ⟨List.mem_cons_self .., by show (if a = a then r else s.A a) b = true; rw [if_pos rfl]; exact hr b he⟩ hn
      · have e := ne_of a k.1
        have hn' : ¬ (a ∈ s.cs ∧ s.A a b = true) := fun ⟨k1, k2⟩ => hn ⟨List.mem_cons_of_mem _ k1, by rw [ao a e]; exact k2⟩
        rcases (opi b).1 hb with e2 | k2
        · subst e2
          rcases h.edges a b he k.1 with q | q
          · exact absurd hw q
          · exact absurd q hn'
        · rw [lo a e, wo b (ne_of b k2.1)]
          exact h.back a b k he k2 hn'
    seg := fun p a hpm ha hc h1 h2 => by
      have ha' : a ≠ y ∧ a ∉ s.cs := ⟨fun e => hc (by rw [e]; exact List.mem_cons_self ..), fun k => hc (List.mem_cons_of_mem _ k)⟩
      rcases (opi a).1 ha with e | k
      · exact absurd e ha'.1
      rcases List.mem_cons.1 hpm with e | hpm
      · subst e
        have := small a ha'.1; omega
      · have hpo := ne_of p (h.copen p hpm).1
        rw [lo p hpo, lo a ha'.1]
        rw [wo p hpo, wo a ha'.1] at h1
        refine h.seg p a hpm k ha'.2 h1 fun q hq hpq => ?_
        have hqo := ne_of q (h.copen q hq).1
        have := h2 q (List.mem_cons_of_mem _ hq) (by rw [wo p hpo, wo q hqo]; exact hpq)
        rw [wo a ha'.1, wo q hqo] at this
        exact this
    cdone := h.cdone
    cis := h.cis
    cnodup := h.cnodup
    call := h.call
    cdis := h.cdis }

theorem Ti.finish {s : Ts} (h : Ti n E R s) {x : Nat} {cs' : List Nat} (hc : s.cs = x :: cs') (hA : ∀ z, E x z → s.A x z = false) (hl : s.L x < s.W x) (hu : ∀ u, cs'.head? = some u → s.L u ≤ s.L x) : Ti n E R { s with cs := cs' } := by
  have sub : ∀ a, a ∈ cs' → a ∈ s.cs := fun a ha => by rw [hc]; exact List.mem_cons_of_mem _ ha
  have hs := h.csort
  rw [hc] at hs
  have hx1 : ∀ a, a ∈ cs' → s.W a < s.W x := (List.pairwise_cons.1 hs).1
  have hs2 := (List.pairwise_cons.1 hs).2
  have notin : ∀ a, a ∉ cs' → a = x ∨ a ∉ s.cs := fun a ha => by
    by_cases e : a = x
    · exact .inl e
    · exact .inr fun k => by
        rw [hc] at k
        rcases List.mem_cons.1 k with k | k
        · exact e k
        · exact ha k
  -- the next one that calls
  have head : ∀ p, p ∈ cs' → ∀ w, (∀ q, q ∈ cs' → s.W p < s.W q → w < s.W q) → s.W x ≤ w → cs'.head? = some p := fun p hp w hq hw => by
    cases cs' with
    | nil => simp at hp
    | cons u t =>
      by_cases e : p = u
      · rw [e]; rfl
      · have hpt : p ∈ t := by
          rcases List.mem_cons.1 hp with k | k
          · exact absurd k e
          · exact k
        have := hq u (List.mem_cons_self ..) ((List.pairwise_cons.1 hs2).1 p hpt)
        have := hx1 u (List.mem_cons_self ..)
        omega
  exact { h with
    csort := hs2
    copen := fun a ha => h.copen a (sub a ha)
    edges := fun a b he ha => by
      rcases h.edges a b he ha with k | ⟨k1, k2⟩
      · exact .inl k
      · rw [hc] at k1
        rcases List.mem_cons.1 k1 with k1 | k1
        · subst k1; rw [hA b he] at k2; cases k2
        · exact .inr ⟨k1, k2⟩
    low := fun a ha => by
      obtain ⟨h1, h2, h3⟩ := h.low a ha
      refine ⟨h1, h2, fun hc' => ?_⟩
      rcases notin a hc' with e | e
      · show s.L a < s.W a; rw [e]; exact hl
      · exact h3 e
    reach := fun p a hp => h.reach p a (sub p hp)
    back := fun a b ha he hb hn => h.back a b ha he hb fun ⟨k1, k2⟩ => by
      rw [hc] at k1
      rcases List.mem_cons.1 k1 with k1 | k1
      · subst k1; rw [hA b he] at k2; cases k2
      · exact hn ⟨k1, k2⟩
    seg := fun p a hp ha hc' h1 h2 => by
      rcases notin a hc' with e | e
      · rw [e]
        exact hu p (head p hp (s.W a) h2 (by rw [e]; exact Nat.le_refl _))
      · by_cases hax : s.W a < s.W x
        · refine h.seg p a (sub p hp) ha e h1 fun q hq hpq => ?_
          rw [hc] at hq
          rcases List.mem_cons.1 hq with k | k
          · rw [k]; exact hax
          · exact h2 q k hpq
        · have hxa : s.W x < s.W a := by
            rcases Nat.lt_or_ge (s.W x) (s.W a) with k | k
            · exact k
            · exact absurd (h.inj a x (by omega) ha.1) (fun e2 => e (by rw [e2, hc]; exact List.mem_cons_self ..))
          have h3 := h.seg x a (by rw [hc]; exact List.mem_cons_self ..) ha e hxa fun q hq hxq => by
            rw [hc] at hq
            rcases List.mem_cons.1 hq with k | k
            · rw [k] at hxq; omega
            · have := hx1 q k; omega
          exact Nat.le_trans (hu p (head p hp (s.W a) h2 (by omega))) h3 }

theorem Ti.leads {s : Ts} (hR : Rch E R) (h : Ti n E R s) : ∀ (m x : Nat), s.W x ≤ m → s.opn x → ∃ p, p ∈ s.cs ∧ R x p := by
  intro m
  induction m with
  | zero => intro x hx ho; exact absurd (Nat.le_zero.1 hx) ho.1
  | succ m ih =>
    intro x hx ho
    by_cases hc : x ∈ s.cs
    · exact ⟨x, hc, hR.refl x⟩
    · obtain ⟨_, ⟨y, y1, y2, y3⟩, h3⟩ := h.low x ho
      obtain ⟨p, p1, p2⟩ := ih y (by have := h3 hc; omega) y1
      exact ⟨p, p1, hR.trans _ _ _ y3 p2⟩

def Ts.close (s : Ts) (x : Nat) (c cs' os' : List Nat) : Ts := { s with D := fun a => s.D a || decide (s.W x ≤ s.W a), cs := cs', os := os', comps := s.comps ++ [c] }
theorem Ti.close {s : Ts} (hR : Rch E R) (h : Ti n E R s) {x : Nat} {c S cs' os' : List Nat} (hc : s.cs = x :: cs') (hA : ∀ z, E x z → s.A x z = false) (hl : s.L x = s.W x) (ho : s.os = S ++ os')
    (hS : ∀ a, a ∈ S ↔ s.opn a ∧ s.W x ≤ s.W a) (hcS : ∀ a, a ∈ c ↔ a ∈ S) (hnd : c.Nodup) : Ti n E R (s.close x c cs' os') := by
  have sub : ∀ a, a ∈ cs' → a ∈ s.cs := fun a ha => by rw [hc]; exact List.mem_cons_of_mem _ ha
  have hxc : x ∈ s.cs := by rw [hc]; exact List.mem_cons_self ..
  have hxo := h.copen x hxc
  have hs := h.csort
  rw [hc] at hs
  have hx1 : ∀ a, a ∈ cs' → s.W a < s.W x := (List.pairwise_cons.1 hs).1
  have hle : ∀ p, p ∈ s.cs → s.W p ≤ s.W x := fun p hp => by
    rw [hc] at hp
    rcases List.mem_cons.1 hp with k | k
    · rw [k]; exact Nat.le_refl _
    · exact Nat.le_of_lt (hx1 p k)
  have metD : ∀ a, s.W x ≤ s.W a → s.W a ≠ 0 := fun a ha => by have := hxo.1; omega
  have dS : ∀ a, (s.close x c cs' os').D a = true ↔ s.D a = true ∨ a ∈ S := fun a => by
    show (s.D a || decide (s.W x ≤ s.W a)) = true ↔ _
    rw [Bool.or_eq_true, decide_eq_true_eq]
    constructor
    · rintro (k | k)
      · exact .inl k
      · cases hd : s.D a with
        | true => exact .inl rfl
        | false => exact .inr ((hS a).2 ⟨⟨metD a k, hd⟩, k⟩)
    · rintro (k | k)
      · exact .inl k
      · exact .inr ((hS a).1 k).2
  have op : ∀ a, (s.close x c cs' os').opn a ↔ s.opn a ∧ s.W a < s.W x := fun a => by
    show (s.W a ≠ 0 ∧ (s.D a || decide (s.W x ≤ s.W a)) = false) ↔ (s.W a ≠ 0 ∧ s.D a = false) ∧ _
    rw [Bool.or_eq_false_iff, decide_eq_false_iff_not]
    exact ⟨fun ⟨k1, k2, k3⟩ => ⟨⟨k1, k2⟩, by omega⟩, fun ⟨⟨k1, k2⟩, k3⟩ => ⟨k1, k2, by omega⟩⟩
  -- nothing leads out of what is done and the new component
  have hcl : ∀ z y, z ∈ S → E z y → s.D y = true ∨ y ∈ S := fun z y hz he => by
    obtain ⟨hzo, hzx⟩ := (hS z).1 hz
    have hnA : ¬ (z ∈ s.cs ∧ s.A z y = true) := fun ⟨k1, k2⟩ => by
      have : z = x := h.inj z x (Nat.le_antisymm (hle z k1) hzx) hzo.1
      subst this; rw [hA y he] at k2; cases k2
    have hym : s.W y ≠ 0 := by
      rcases h.edges z y he hzo.1 with k | k
      · exact k
      · exact absurd k hnA
    cases hd : s.D y with
    | true => exact .inl rfl
    | false =>
      refine .inr ((hS y).2 ⟨⟨hym, hd⟩, ?_⟩)
      have h1 := h.back z y hzo he ⟨hym, hd⟩ hnA
      have h2 : s.W x ≤ s.L z := by
        by_cases e : z = x
        · rw [e, hl]; exact Nat.le_refl _
        · have hlt : s.W x < s.W z := by
            rcases Nat.lt_or_ge (s.W x) (s.W z) with k | k
            · exact k
            · exact absurd (h.inj z x (by omega) hzo.1) e
          have hzc : z ∉ s.cs := fun k => by have := hle z k; omega
          have := h.seg x z hxc hzo hzc hlt fun q hq hxq => by have := hle q hq; omega
          omega
      omega
  have all : ∀ z y, R z y → (s.D z = true ∨ z ∈ S) → (s.D y = true ∨ y ∈ S) := hR.closed (fun z => s.D z = true ∨ z ∈ S) fun z y hz he => by
    rcases hz with k | k
    · exact .inl (h.dclosed z y he k)
    · exact hcl z y k he
  have dall : ∀ z y, R z y → s.D z = true → s.D y = true := hR.closed (fun z => s.D z = true) fun z y hz he => h.dclosed z y he hz
  have hxS : x ∈ S := (hS x).2 ⟨hxo, Nat.le_refl _⟩
  have same : ∀ y, y ∈ c ↔ (R x y ∧ R y x) := fun y => by
    rw [hcS y]
    constructor
    · intro hy
      obtain ⟨k1, k2⟩ := (hS y).1 hy
      refine ⟨h.reach x y hxc k1 k2, ?_⟩
      obtain ⟨p, p1, p2⟩ := h.leads hR (s.W y) y (Nat.le_refl _) k1
      exact hR.trans _ _ _ p2 (h.reach p x p1 hxo (hle p p1))
    · rintro ⟨k1, k2⟩
      rcases all x y k1 (.inr hxS) with k | k
      · have := dall y x k2 k
        rw [hxo.2] at this; cases this
      · exact k
  exact {
    lt := h.lt
    le := h.le
    inj := h.inj
    done := fun a ha => by
      rcases (dS a).1 ha with k | k
      · exact h.done a k
      · exact ((hS a).1 k).1.1
    osort := by
      have := h.osort
      rw [ho] at this
      exact (List.pairwise_append.1 this).2.1
    oiff := fun a => by
      rw [op a, ← h.oiff a]
      show a ∈ os' ↔ _
      rw [ho]
      constructor
      · intro ha
        refine ⟨List.mem_append_right _ ha, ?_⟩
        have := h.osort
        rw [ho] at this
        exact (List.pairwise_append.1 this).2.2 x hxS a ha
      · rintro ⟨ha, hw⟩
        rcases List.mem_append.1 ha with k | k
        · have := ((hS a).1 k).2; omega
        · exact k
    csort := (List.pairwise_cons.1 hs).2
    copen := fun a ha => (op a).2 ⟨h.copen a (sub a ha), hx1 a ha⟩
    edges := fun a b he ha => by
      rcases h.edges a b he ha with k | ⟨k1, k2⟩
      · exact .inl k
      · rw [hc] at k1
        rcases List.mem_cons.1 k1 with k1 | k1
        · subst k1; rw [hA b he] at k2; cases k2
        · exact .inr ⟨k1, k2⟩
    dclosed := fun a b he ha => (dS b).2 (by
      rcases (dS a).1 ha with k | k
      · exact .inl (h.dclosed a b he k)
      · exact hcl a b k he)
    low := fun a ha => by
      obtain ⟨k1, k2⟩ := (op a).1 ha
      obtain ⟨h1, ⟨y, y1, y2, y3⟩, h3⟩ := h.low a k1
      refine ⟨h1, ⟨y, (op y).2 ⟨y1, by rw [y2]; omega⟩, y2, y3⟩, fun hc' => h3 fun k => ?_⟩
      rw [hc] at k
      rcases List.mem_cons.1 k with k | k
      · rw [k] at k2; omega
      · exact hc' k
    reach := fun p a hp ha => h.reach p a (sub p hp) ((op a).1 ha).1
    back := fun a b ha he hb hn => by
      obtain ⟨k1, k2⟩ := (op a).1 ha
      refine h.back a b k1 he ((op b).1 hb).1 fun ⟨k3, k4⟩ => ?_
      rw [hc] at k3
      rcases List.mem_cons.1 k3 with k3 | k3
      · rw [k3] at k2; omega
      · exact hn ⟨k3, k4⟩
    seg := fun p a hp ha hc' h1 h2 => by
      obtain ⟨k1, k2⟩ := (op a).1 ha
      refine h.seg p a (sub p hp) k1 (fun k => ?_) h1 fun q hq hpq => ?_
      · rw [hc] at k
        rcases List.mem_cons.1 k with k | k
        · rw [k] at k2; omega
        · exact hc' k
      · rw [hc] at hq
        rcases List.mem_cons.1 hq with k | k
        · rw [k]; exact k2
        · exact h2 q k hpq
    cdone := fun d hd a ha => (dS a).2 (by
      rcases List.mem_append.1 hd with k | k
      · exact .inl (h.cdone d k a ha)
      · rw [List.mem_singleton.1 k] at ha; exact .inr ((hcS a).1 ha))
    cis := fun d hd => by
      rcases List.mem_append.1 hd with k | k
      · exact h.cis d k
      · rw [List.mem_singleton.1 k]; exact ⟨x, (hcS x).2 hxS, same⟩
    cnodup := fun d hd => by
      rcases List.mem_append.1 hd with k | k
      · exact h.cnodup d k
      · rw [List.mem_singleton.1 k]; exact hnd
    call := fun a ha => by
      rcases (dS a).1 ha with k | k
      · obtain ⟨d, d1, d2⟩ := h.call a k
        exact ⟨d, List.mem_append_left _ d1, d2⟩
      · exact ⟨c, List.mem_append_right _ (List.mem_singleton.2 rfl), (hcS a).2 k⟩
    cdis := by
      refine List.pairwise_append.2 ⟨h.cdis, List.pairwise_singleton _ _, fun d hd e he a ha hae => ?_⟩
      rw [List.mem_singleton.1 he] at hae
      have k := ((hS a).1 ((hcS a).1 hae)).1
      have := h.cdone d hd a ha
      rw [k.2] at this; cases this }

theorem Ti.idle {s : Ts} (hR : Rch E R) (h : Ti n E R s) (hc : s.cs = []) : s.os = [] := by
  cases ho : s.os with
  | nil => rfl
  | cons a l =>
    obtain ⟨p, p1, _⟩ := h.leads hR (s.W a) a (Nat.le_refl _) ((h.oiff a).1 (by rw [ho]; exact List.mem_cons_self ..))
    rw [hc] at p1; simp at p1
end
end Pl
end

section
/- What is left of sorted numbers when what comes twice is left out. -/
namespace Pl
open Go Go.Av

theorem asc_ext : ∀ {a b : List Int}, a.Pairwise (· < ·) → b.Pairwise (· < ·) → (∀ x, x ∈ a ↔ x ∈ b) → a = b
  | [], [], _, _, _ => rfl
  | [], y :: b, _, _, h => absurd ((h y).2 (List.mem_cons_self ..)) (by simp)
  | x :: a, [], _, _, h => absurd ((h x).1 (List.mem_cons_self ..)) (by simp)
  | x :: a, y :: b, ha, hb, h => by
    rw [List.pairwise_cons] at ha hb
    have hxy : x = y := by
      rcases List.mem_cons.1 ((h x).1 (List.mem_cons_self ..)) with e | e
      · exact e
      · rcases List.mem_cons.1 ((h y).2 (List.mem_cons_self ..)) with e2 | e2
        · exact e2.symm
        · have h1 := hb.1 x e
          have h2 := ha.1 y e2
          omega
    subst hxy
    have : a = b := asc_ext ha.2 hb.2 fun z => ⟨fun hz => by
      rcases List.mem_cons.1 ((h z).1 (List.mem_cons_of_mem _ hz)) with e | e
      · subst e; have := ha.1 z hz; omega
      · exact e, fun hz => by
      rcases List.mem_cons.1 ((h z).2 (List.mem_cons_of_mem _ hz)) with e | e
      · subst e; have := hb.1 z hz; omega
      · exact e⟩
    rw [this]

end Pl
end

section
/- Nodes that belong together, in the order of their least ones. -/
namespace Pl
open Go Go.Av

structure Eqv (n : Nat) (m : Nat → Nat → Bool) : Prop where
  refl : ∀ x, x < n → m x x = true
  symm : ∀ x y, m x y = true → m y x = true
  trans : ∀ x y z, m x y = true → m y z = true → m x z = true

def compL (n : Nat) (m : Nat → Nat → Bool) (x : Nat) : List Nat := (List.range n).filter (m x)
def isHd (m : Nat → Nat → Bool) (x : Nat) : Bool := (List.range x).all fun y => !(m x y)
def headsL (n : Nat) (m : Nat → Nat → Bool) : List Nat := (List.range n).filter (isHd m)
def cl (l : List Nat) : List Int := l.map fun k : Nat => (k : Int)
def canon (n : Nat) (m : Nat → Nat → Bool) : List (List Int) := (headsL n m).map fun x => cl (compL n m x)

section
variable {n : Nat} {m : Nat → Nat → Bool}
theorem mem_comp {x y : Nat} : y ∈ compL n m x ↔ y < n ∧ m x y = true := by simp [compL]
theorem isHd_iff {x : Nat} : isHd m x = true ↔ ∀ y, y < x → m x y = false := by simp [isHd]
theorem mem_heads {x : Nat} : x ∈ headsL n m ↔ x < n ∧ ∀ y, y < x → m x y = false := by
  unfold headsL
  rw [List.mem_filter, List.mem_range, isHd_iff]
theorem mem_cl {l : List Nat} {a : Int} : a ∈ cl l ↔ ∃ k : Nat, k ∈ l ∧ a = (k : Int) := by
  simp only [cl, List.mem_map]
  exact ⟨fun ⟨k, h1, h2⟩ => ⟨k, h1, h2.symm⟩, fun ⟨k, h1, h2⟩ => ⟨k, h1, h2.symm⟩⟩
theorem cl_inj {l r : List Nat} (h : cl l = cl r) : l = r := List.map_inj_right (fun _ _ h => Int.ofNat_inj.1 h) |>.1 h
theorem comp_sorted (x : Nat) : (compL n m x).Pairwise (· < ·) := List.Pairwise.filter _ List.pairwise_lt_range
theorem heads_sorted : (headsL n m).Pairwise (· < ·) := List.Pairwise.filter _ List.pairwise_lt_range
theorem cl_sorted {l : List Nat} (h : l.Pairwise (· < ·)) : (cl l).Pairwise (· < ·) := List.pairwise_map.2 (h.imp fun h => Int.ofNat_lt.2 h)
theorem comp_same (e : Eqv n m) {x y : Nat} (h : m x y = true) : compL n m x = compL n m y := by
  unfold compL
  refine List.filter_congr fun z _ => ?_
  cases h1 : m x z <;> cases h2 : m y z
  · rfl
  · rw [e.trans x y z h h2] at h1; cases h1
  · rw [e.trans y x z (e.symm x y h) h1] at h2; cases h2
  · rfl

def hdOf (n : Nat) (m : Nat → Nat → Bool) (x : Nat) : Nat := (compL n m x).headD x
theorem hd_spec (e : Eqv n m) {x : Nat} (hx : x < n) : ∃ r, compL n m x = hdOf n m x :: r ∧ hdOf n m x ∈ headsL n m ∧ m x (hdOf n m x) = true ∧ hdOf n m x ≤ x ∧ compL n m (hdOf n m x) = compL n m x := by
  cases hc : compL n m x with
  | nil =>
    have : x ∈ compL n m x := mem_comp.2 ⟨hx, e.refl x hx⟩
    rw [hc] at this; simp at this
  | cons y r =>
    have hy : hdOf n m x = y := by unfold hdOf; rw [hc]; rfl
    have hyc : y ∈ compL n m x := by rw [hc]; exact List.mem_cons_self ..
    have hs := comp_sorted (n := n) (m := m) x
    rw [hc] at hs
    have hle : ∀ z, z ∈ compL n m x → y ≤ z := fun z hz => by
      rw [hc] at hz
      rcases List.mem_cons.1 hz with h | h
      · omega
      · exact Nat.le_of_lt ((List.pairwise_cons.1 hs).1 z h)
    have hm := mem_comp.1 hyc
    rw [hy]
    refine ⟨r, rfl, mem_heads.2 ⟨hm.1, fun z hz => ?_⟩, hm.2, hle x (mem_comp.2 ⟨hx, e.refl x hx⟩), ?_⟩
    · cases h : m y z with
      | false => rfl
      | true =>
        have := hle z (mem_comp.2 ⟨by omega, e.trans x y z hm.2 h⟩)
        omega
    · rw [← hc]; exact (comp_same e hm.2).symm
theorem hd_head (e : Eqv n m) {x : Nat} (hx : x ∈ headsL n m) : hdOf n m x = x := by
  obtain ⟨h1, h2⟩ := mem_heads.1 hx
  obtain ⟨_, _, _, h3, h4, _⟩ := hd_spec e h1
  rcases Nat.lt_or_ge (hdOf n m x) x with h | h
  · rw [h2 _ h] at h3; cases h3
  · omega
theorem hd_same (e : Eqv n m) {x y : Nat} (hx : x < n) (hy : y < n) : hdOf n m x = hdOf n m y ↔ m x y = true := by
  obtain ⟨_, _, _, h1, _, _⟩ := hd_spec e hx
  obtain ⟨_, _, _, h2, _, _⟩ := hd_spec e hy
  constructor
  · intro h
    rw [h] at h1
    exact e.trans _ _ _ h1 (e.symm _ _ h2)
  · intro h
    have hc := comp_same e h
    obtain ⟨r, a1, _⟩ := hd_spec e hx
    obtain ⟨s, b1, _⟩ := hd_spec e hy
    rw [hc, b1] at a1
    exact (List.cons.inj a1).1.symm

def fst' (l : List Int) : Int := l.headD 0
theorem canon_of (e : Eqv n m) {L : List (List Int)} (h1 : ∀ l, l ∈ L → ∃ x, x < n ∧ l = cl (compL n m x)) (h2 : ∀ x, x < n → cl (compL n m x) ∈ L) (h3 : L.Pairwise fun a b => fst' a < fst' b) : L = canon n m := by
  have key : ∀ x, x < n → fst' (cl (compL n m x)) = (hdOf n m x : Int) := fun x hx => by
    obtain ⟨r, h, _⟩ := hd_spec e hx
    rw [h]; rfl
  have hf : L.map fst' = cl (headsL n m) := by
    refine asc_ext (List.pairwise_map.2 h3) (cl_sorted heads_sorted) fun a => ?_
    rw [mem_cl, List.mem_map]
    constructor
    · rintro ⟨l, hl, rfl⟩
      obtain ⟨x, hx, rfl⟩ := h1 l hl
      obtain ⟨_, _, h, _⟩ := hd_spec e hx
      exact ⟨_, h, key x hx⟩
    · rintro ⟨k, hk, rfl⟩
      have hkn := (mem_heads.1 hk).1
      exact ⟨_, h2 k hkn, by rw [key k hkn, hd_head e hk]⟩
  have hm : L = (L.map fst').map fun a => cl (compL n m a.toNat) := by
    rw [List.map_map]
    conv => lhs; rw [← List.map_id L]
    refine List.map_congr_left fun l hl => ?_
    obtain ⟨x, hx, rfl⟩ := h1 l hl
    obtain ⟨_, _, _, _, _, h⟩ := hd_spec e hx
    show _ = cl (compL n m (fst' (cl (compL n m x))).toNat)
    rw [key x hx, Int.toNat_natCast, h]; rfl
  rw [hm, hf]
  unfold canon cl
  rw [List.map_map]
  rfl

def rk (n : Nat) (m : Nat → Nat → Bool) (x : Nat) : Nat := ((List.range (hdOf n m x)).filter (isHd m)).length
theorem heads_split {h : Nat} (hh : h ∈ headsL n m) : headsL n m = (List.range h).filter (isHd m) ++ h :: ((List.range n).drop (h + 1)).filter (isHd m) := by
  obtain ⟨h1, h2⟩ := mem_heads.1 hh
  unfold headsL
  have e : List.range n = List.range h ++ h :: (List.range n).drop (h + 1) := by
    conv => lhs; rw [← List.take_append_drop h (List.range n)]
    rw [List.take_range, Nat.min_eq_left (by omega), List.drop_eq_getElem_cons (by simpa using h1)]
    simp
  rw [e, List.filter_append, List.filter_cons_of_pos (isHd_iff.2 h2)]
  congr 2
  rw [← e]
theorem rk_at (e : Eqv n m) {x : Nat} (hx : x < n) : (canon n m)[rk n m x]? = some (cl (compL n m x)) := by
  obtain ⟨_, _, h, _, _, h2⟩ := hd_spec e hx
  unfold canon rk
  rw [List.getElem?_map, heads_split h, List.getElem?_append_right (Nat.le_refl _), Nat.sub_self]
  simp [h2]
theorem rk_lt (e : Eqv n m) {x : Nat} (hx : x < n) : rk n m x < (canon n m).length := (List.getElem?_eq_some_iff.1 (rk_at e hx)).1
theorem rk_hd {x y : Nat} (h : hdOf n m x = hdOf n m y) : rk n m x = rk n m y := by unfold rk; rw [h]
theorem hd_of_rk (e : Eqv n m) {x y : Nat} (hx : x < n) (hy : y < n) (h : rk n m x = rk n m y) : m x y = true := by
  have h1 := rk_at e hx
  rw [h, rk_at e hy] at h1
  have h2 := cl_inj (Option.some.inj h1)
  have : x ∈ compL n m y := by rw [h2]; exact mem_comp.2 ⟨hx, e.refl x hx⟩
  exact e.symm _ _ (mem_comp.1 this).2
theorem rk_iff (e : Eqv n m) {x y : Nat} (hx : x < n) (hy : y < n) : rk n m x = rk n m y ↔ m x y = true :=
  ⟨hd_of_rk e hx hy, fun h => rk_hd ((hd_same e hx hy).2 h)⟩
theorem canon_len : (canon n m).length = (headsL n m).length := by simp [canon]
end
end Pl
end

section
/- Sets of numbers as bits: the program's functions, and the reference's, say the same. -/
namespace Pl
open Go Go.Av

@[simp] theorem bits_bit (i : Int) : G.bits_bit i = some (Bv.bit i) := by
  unfold G.bits_bit G.bits_bit_j1 Bv.bit
  by_cases h : i < 0
  · simp [h]; omega
  · by_cases h2 : 64 ≤ i
    · simp [h, h2]; omega
    · simp [h, h2, Sh.shl, show 0 ≤ i by omega, show i < 64 by omega]
@[simp] theorem bits_With (s : BitVec 64) (i : Int) : G.bits_With s i = some (s ||| Bv.bit i) := by simp [G.bits_With]
theorem has_bit (s : BitVec 64) (i : Int) : decide ((s &&& Bv.bit i) ≠ 0#64) = Bv.has s i := by
  unfold Bv.bit Bv.has
  by_cases h : 0 ≤ i ∧ i < 64
  · rw [if_pos h]
    simp only [h.1, h.2, decide_true, Bool.true_and]
    obtain ⟨k, rfl⟩ : ∃ k : Nat, i = k := ⟨i.toNat, by omega⟩
    have hk : k < 64 := by omega
    simp only [Int.toNat_natCast]
    cases hb : s.getLsbD k with
    | true =>
      rw [decide_eq_true_eq]
      intro h0
      have := congrArg (fun x : BitVec 64 => x.getLsbD k) h0
      simp only [BitVec.getLsbD_and, BitVec.getLsbD_shiftLeft, hk, hb, BitVec.getLsbD_zero] at this
      simp [BitVec.getLsbD_one] at this
    | false =>
      rw [decide_eq_false_iff_not]
      refine not_not_intro ?_
      apply Bv.ext
      intro j hj
      simp only [BitVec.getLsbD_and, BitVec.getLsbD_shiftLeft, hj, decide_true, Bool.true_and, BitVec.getLsbD_zero]
      by_cases hjk : j = k
      · subst hjk; simp [hb]
      · by_cases hlt : j < k
        · simp [hlt]
        · simp [hlt, BitVec.getLsbD_one]; omega
  · rw [if_neg h]
    simp only [BitVec.and_zero, ne_eq, not_true_eq_false, decide_false]
    by_cases h0 : 0 ≤ i
    · have : ¬ i < 64 := fun h1 => h ⟨h0, h1⟩
      simp [this]
    · simp [h0]
@[simp] theorem bits_Has (s : BitVec 64) (i : Int) : G.bits_Has s i = some (Bv.has s i) := by
  simp only [G.bits_Has, bits_bit, Option.bind_some, has_bit]
@[simp] theorem bits_Sub (a b : BitVec 64) : G.bits_Sub a b = some (decide (a &&& ~~~b = 0#64)) := rfl

def join (l : List (BitVec 64)) : BitVec 64 := l.foldl (· ||| ·) 0#64
theorem join_take (l : List (BitVec 64)) (k : Nat) (h : k < l.length) : join (l.take (k+1)) = join (l.take k) ||| l[k] := by
  unfold join
  rw [List.take_succ_eq_append_getElem h, List.foldl_append]; rfl
theorem bits_Join (l : List (BitVec 64)) (hl : l.length < 9223372036854775808) : G.bits_Join l = some (join l) := by
  unfold G.bits_Join
  refine count (fun k => join (l.take k)) l.length _ hl (fun k hk => ?_) ?_ rfl
  · simp only [G.bits_Join_b1, len_eq, dec_lt, hk, decide_true, if_true, idx_at hk, Option.bind_some, Sh.next, join_take l k hk, w64_succ (show k < 9223372036854775807 by omega)]
  · simp [G.bits_Join_b1, len_eq, G.bits_Join_j1, Sh.exit]
theorem shr_nat (a : BitVec 64) (n : Nat) : Sh.shr a (n : Int) = some (a >>> n) := by simp [Sh.shr]
theorem ctz_zero : Bv.ctz 0#64 = 64 := by decide
theorem tab_at (s : BitVec 64) (h2 : Bv.ctz s < 64) : Sh.idx Sh.tab8 ((((1#64 <<< Bv.ctz s) * Bv.dB) >>> 58).toNat : Int) = some ((Bv.ctz s : Nat) : Int) := by
  have h4 := Bv.tab_ok ⟨Bv.ctz s, h2⟩
  simp only [Sh.idx, Sh.tab8, List.getElem?_map]
  rw [if_pos (by omega), Int.toNat_natCast, h4]
  rfl
@[simp] theorem tz (s : BitVec 64) : G.bits_TrailingZeros64 s = some (Bv.ctz s : Int) := by
  unfold G.bits_TrailingZeros64
  by_cases h : s = 0#64
  · subst h
    rw [if_pos (decide_eq_true rfl), ctz_zero]; rfl
  · obtain ⟨_, h2, h3⟩ := Bv.list_cons s h
    rw [if_neg (by simpa using h), h3]
    have h5 : Sh.shr ((1#64 <<< Bv.ctz s) * 285870213051353865#64) ((58 : Nat) : Int) = some (((1#64 <<< Bv.ctz s) * 285870213051353865#64) >>> 58) := shr_nat _ _
    have e2 : (((58#64).toNat : Nat) : Int) = ((58 : Nat) : Int) := rfl
    rw [e2, h5]
    have h6 := tab_at s h2
    unfold Bv.dB at h6
    rw [Option.bind_some, h6, Option.bind_some]
    rw [w64_id (by omega) (by omega)]

def ilist (s : BitVec 64) : List Int := (Bv.list s).map fun (k : Nat) => (k : Int)
theorem list_iter : ∀ (n : Nat) (s : BitVec 64) (acc : List Int), (Bv.list s).length < n → acc.length + (Bv.list s).length ≤ 64 →
    Sh.iter (fun (p : (BitVec 64) × (List Int)) => G.bits_List_b1 p.1 p.2) n (s, acc) = some (acc ++ ilist s) := by
  intro n
  induction n with
  | zero => intro s acc h; omega
  | succ n ih =>
    intro s acc h1 h2
    by_cases h : s = 0#64
    · subst h
      simp [Sh.iter, G.bits_List_b1, G.bits_List_j1, Sh.exit, ilist, Bv.list_zero]
    · obtain ⟨e, _, _⟩ := Bv.list_cons s h
      have hl : (Bv.list s).length = (Bv.list (s &&& (s - 1#64))).length + 1 := by rw [e]; simp
      have ha : Sh.app 8 acc [((Bv.ctz s : Nat) : Int)] = some (acc ++ [((Bv.ctz s : Nat) : Int)]) := app_ok (by simp; omega)
      have hb : G.bits_List_b1 s acc = some (.inl (s &&& (s - 1#64), acc ++ [((Bv.ctz s : Nat) : Int)])) := by
        simp only [G.bits_List_b1, h, ne_eq, not_false_eq_true, decide_true, if_true, tz, Option.bind_some, ha, Sh.next]
      simp only [Sh.iter, hb]
      rw [ih _ _ (by omega) (by simp; omega)]
      simp only [ilist, Option.some.injEq]
      rw [e]; simp
@[simp] theorem bits_List (s : BitVec 64) : G.bits_List s = some (ilist s) := by
  have := Bv.list_length_le s
  have h := list_iter Sh.FUEL s [] (Nat.lt_of_le_of_lt this (fuel_gt (by omega))) (by simpa using this)
  simpa [G.bits_List, Sh.loop] using h
theorem least_eq (s : BitVec 64) : Bv.least s = if s = 0#64 then -1 else (Bv.ctz s : Int) := by
  by_cases h : s = 0#64
  · subst h; decide
  · rw [if_neg h, Bv.least_ctz s h]
@[simp] theorem bits_Least (s : BitVec 64) : G.bits_Least s = some (Bv.least s) := by
  unfold G.bits_Least
  rw [least_eq]
  by_cases h : s = 0#64
  · simp [h]
  · simp only [h, decide_false, Bool.false_eq_true, if_false, tz, Option.bind_some]

@[simp] theorem r10_In (i : Int) : G.inquestref10_In i = some (decide (0 ≤ i ∧ i ≤ 63)) := by
  unfold G.inquestref10_In
  by_cases h : 0 ≤ i <;> simp [h]
theorem r10_Power (i : Nat) (h : i ≤ 63) : G.inquestref10_Power (i : Int) = some (1#64 <<< i) := by
  unfold G.inquestref10_Power
  refine count (fun k => 1#64 <<< k) i _ (fuel_gt (by omega)) (fun k hk => ?_) ?_ (by simp)
  · simp only [G.inquestref10_Power_b1, dec_lt, hk, decide_true, if_true, Sh.next, w64_succ (show k < 9223372036854775807 by omega)]
    congr 3
    apply BitVec.eq_of_toNat_eq
    simp only [BitVec.toNat_add, BitVec.toNat_shiftLeft, Nat.shiftLeft_eq, BitVec.toNat_ofNat]
    rw [Nat.pow_succ]; omega
  · simp [G.inquestref10_Power_b1, G.inquestref10_Power_j1, Sh.exit]
theorem div_mod_bit (s : BitVec 64) (k : Nat) (hk : k < 64) : decide (s / (1#64 <<< k) % 2#64 = 1#64) = s.getLsbD k := by
  have h1 : (1#64 <<< k).toNat = 2 ^ k := by
    have : 2 ^ k < 2 ^ 64 := Nat.pow_lt_pow_right (by omega) hk
    simp [Nat.shiftLeft_eq, Nat.mod_eq_of_lt this]
  have h2 : (s / (1#64 <<< k) % 2#64).toNat = s.toNat / 2 ^ k % 2 := by
    simp only [BitVec.toNat_umod, BitVec.toNat_udiv, h1, BitVec.toNat_ofNat]
  have h3 : s.getLsbD k = decide (s.toNat / 2 ^ k % 2 = 1) := by
    simp only [BitVec.getLsbD, Nat.testBit_eq_decide_div_mod_eq]
  rw [h3]
  congr 1
  apply propext
  rw [← h2]
  constructor
  · intro h; rw [h]; rfl
  · intro h; apply BitVec.eq_of_toNat_eq; rw [h]; rfl
@[simp] theorem r10_Has (s : BitVec 64) (i : Int) : G.inquestref10_Has s i = some (Bv.has s i) := by
  unfold G.inquestref10_Has Bv.has
  simp only [r10_In, Option.bind_some]
  by_cases h : 0 ≤ i ∧ i ≤ 63
  · obtain ⟨k, rfl⟩ : ∃ k : Nat, i = k := ⟨i.toNat, by omega⟩
    have hk : k < 64 := by omega
    have hne : (1#64 <<< k) ≠ 0#64 := by
      intro h0
      have := congrArg (fun x : BitVec 64 => x.getLsbD k) h0
      simp [hk] at this
    have e1 : Sh.udiv s (1#64 <<< k) = some (s / (1#64 <<< k)) := by simp only [Sh.udiv, hne, ne_eq, not_false_eq_true, if_true]
    simp only [h, decide_true, Bool.not_true, Bool.false_eq_true, if_false, r10_Power k (by omega), Option.bind_some, e1, Sh.umod]
    have e2 : (2#64 : BitVec 64) ≠ 0#64 := by decide
    simp only [e2, ne_eq, not_false_eq_true, if_true, Option.bind_some, div_mod_bit s k hk]
    have : ((k : Int) < 64) := by omega
    simp [this]
  · rw [decide_eq_false h]
    by_cases h0 : 0 ≤ i
    · have : ¬ i < 64 := by omega
      simp [h0, this]
    · simp [h0]
theorem has_nat (s : BitVec 64) {k : Nat} (hk : k < 64) : Bv.has s (k : Int) = s.getLsbD k := by
  unfold Bv.has
  have h1 : (0 : Int) ≤ (k : Int) := by omega
  have h2 : (k : Int) < 64 := by omega
  simp [h2]
theorem add_bit (s : BitVec 64) (k : Nat) (hk : k < 64) (hb : s.getLsbD k = false) : s + 1#64 <<< k = s ||| 1#64 <<< k := by
  rw [BitVec.add_eq_or_of_and_eq_zero]
  apply Bv.ext
  intro j hj
  simp only [BitVec.getLsbD_and, BitVec.getLsbD_shiftLeft, hj, decide_true, Bool.true_and, BitVec.getLsbD_zero]
  by_cases hjk : j = k
  · subst hjk; simp [hb]
  · by_cases hlt : j < k
    · simp [hlt]
    · simp [hlt, BitVec.getLsbD_one]; omega
theorem or_bit (s : BitVec 64) (k : Nat) (hk : k < 64) (hb : s.getLsbD k = true) : s ||| 1#64 <<< k = s := by
  apply Bv.ext
  intro j hj
  simp only [BitVec.getLsbD_or, BitVec.getLsbD_shiftLeft, hj, decide_true, Bool.true_and]
  by_cases hjk : j = k
  · subst hjk; simp [hb]
  · by_cases hlt : j < k
    · simp [hlt]
    · simp [hlt, BitVec.getLsbD_one]; omega
@[simp] theorem r10_With (s : BitVec 64) (i : Int) : G.inquestref10_With s i = some (s ||| Bv.bit i) := by
  unfold G.inquestref10_With G.inquestref10_With_j1
  simp only [r10_Has, r10_In, Option.bind_some]
  by_cases h : 0 ≤ i ∧ i ≤ 63
  · obtain ⟨k, rfl⟩ : ∃ k : Nat, i = k := ⟨i.toNat, by omega⟩
    have hk : k < 64 := by omega
    have hbit : Bv.bit (k : Int) = 1#64 <<< k := by unfold Bv.bit; rw [if_pos ⟨by omega, by omega⟩]; simp
    have hh : Bv.has s (k : Int) = s.getLsbD k := has_nat s hk
    rw [hh, hbit]
    cases hb : s.getLsbD k with
    | true => simp [or_bit s k hk hb]
    | false => simp [h, r10_Power k (by omega), add_bit s k hk hb]
  · have hbit : Bv.bit i = 0#64 := by unfold Bv.bit; rw [if_neg (by omega)]
    have hh : Bv.has s i = false := by
      unfold Bv.has
      by_cases h0 : 0 ≤ i
      · have : ¬ i < 64 := by omega
        simp [this]
      · simp [h0]
    simp [hh, hbit, h]
theorem sub_iff (a b : BitVec 64) : a &&& ~~~b = 0#64 ↔ ∀ i, a.getLsbD i = true → b.getLsbD i = true := by
  constructor
  · intro h i hi
    have hi64 : i < 64 := by
      rcases Nat.lt_or_ge i 64 with h | h
      · exact h
      · simp [BitVec.getLsbD_of_ge a i h] at hi
    have := congrArg (fun x : BitVec 64 => x.getLsbD i) h
    simp only [BitVec.getLsbD_and, BitVec.getLsbD_not, hi64, decide_true, Bool.true_and, BitVec.getLsbD_zero, hi] at this
    simpa using this
  · intro h
    apply Bv.ext
    intro i hi
    simp only [BitVec.getLsbD_and, BitVec.getLsbD_not, hi, decide_true, Bool.true_and, BitVec.getLsbD_zero]
    cases ha : a.getLsbD i with
    | true => simp [h i ha]
    | false => rfl
end Pl
namespace Pl
open Go Go.Av
end Pl
end

section
/- Graphs as rows of bits: the program's functions and the reference's, over the edges. -/
namespace Pl
open Go Go.Av

def row : Nat → (Nat → Bool) → BitVec 64
  | 0, _ => 0#64
  | n + 1, p => if p n then row n p ||| (1#64 <<< n) else row n p
theorem shift_get (k i : Nat) (hk : k < 64) : (1#64 <<< k).getLsbD i = decide (i = k) := by
  by_cases hi : i < 64
  · simp only [BitVec.getLsbD_shiftLeft, hi, decide_true, Bool.true_and]
    by_cases hik : i = k
    · subst hik; simp
    · by_cases hlt : i < k
      · simp [hlt, hik]
      · simp [hlt, hik, BitVec.getLsbD_one]; omega
  · have : ¬ i = k := by omega
    simp [BitVec.getLsbD_of_ge _ i (show 64 ≤ i by omega), this]
theorem row_get {n : Nat} (hn : n ≤ 64) (p : Nat → Bool) (i : Nat) : (row n p).getLsbD i = (decide (i < n) && p i) := by
  induction n with
  | zero => simp [row]
  | succ n ih =>
    have ih := ih (by omega)
    unfold row
    by_cases hp : p n = true
    · rw [if_pos hp, BitVec.getLsbD_or, ih, shift_get n i (by omega)]
      by_cases h : i = n
      · subst h; simp [hp]
      · by_cases h2 : i < n
        · simp [h, h2, show i < n + 1 by omega]
        · simp [h, h2, show ¬ i < n + 1 by omega]
    · rw [if_neg hp, ih]
      by_cases h : i = n
      · subst h; simp [hp]
      · by_cases h2 : i < n
        · simp [h2, show i < n + 1 by omega]
        · simp [h2, show ¬ i < n + 1 by omega]
def rows (n : Nat) (f : Nat → Nat → Bool) : List (BitVec 64) := (List.range n).map fun x => row n (f x)
@[simp] theorem rows_len (n : Nat) (f : Nat → Nat → Bool) : (rows n f).length = n := by simp [rows]
theorem rows_at {n : Nat} {f : Nat → Nat → Bool} {x : Nat} (h : x < (rows n f).length) : (rows n f)[x] = row n (f x) := by simp [rows]
theorem rows_idx {n : Nat} {f : Nat → Nat → Bool} {x : Nat} (h : x < n) : Sh.idx (rows n f) (x : Int) = some (row n (f x)) := by
  rw [idx_at (by simpa using h), rows_at]
abbrev gr (n : Nat) (f : Nat → Nat → Bool) : G.graph_Graph := ⟨(n : Int), rows n f⟩
theorem row_of {n : Nat} (hn : n ≤ 64) {r : BitVec 64} (h : ∀ i, n ≤ i → r.getLsbD i = false) : r = row n (fun i => r.getLsbD i) := by
  apply Bv.ext
  intro i _
  rw [row_get hn]
  by_cases hi : i < n
  · simp [hi]
  · simp [hi, h i (by omega)]

def rightB (N : Int) (R : List (BitVec 64)) : Bool := decide (0 ≤ N ∧ N ≤ 64 ∧ (R.length : Int) = N ∧ ∀ r ∈ R, ∀ i : Nat, i < 64 → N ≤ (i : Int) → r.getLsbD i = false)
theorem right_rows {n : Nat} (hn : n ≤ 64) (f : Nat → Nat → Bool) : rightB (n : Int) (rows n f) = true := by
  refine decide_eq_true ⟨by omega, by omega, by simp, fun r hr i _ hi => ?_⟩
  simp only [rows, List.mem_map] at hr
  obtain ⟨x, _, rfl⟩ := hr
  rw [row_get hn]
  have : ¬ i < n := by omega
  simp [this]
theorem right_is {N : Int} {R : List (BitVec 64)} (h : rightB N R = true) : ∃ n f, n ≤ 64 ∧ N = (n : Nat) ∧ R = rows n f := by
  obtain ⟨h1, h2, h3, h4⟩ := of_decide_eq_true h
  obtain ⟨n, rfl⟩ : ∃ n : Nat, N = n := ⟨N.toNat, by omega⟩
  have hl : R.length = n := by omega
  refine ⟨n, fun x y => (R.getD x 0#64).getLsbD y, by omega, rfl, ?_⟩
  apply List.ext_getElem (by simp [hl])
  intro x hx hx'
  rw [rows_at]
  have hg : R.getD x 0#64 = R[x] := by simp [List.getD, hx]
  rw [hg]
  refine row_of (by omega) (fun i hi => ?_)
  by_cases h64 : i < 64
  · exact h4 _ (List.getElem_mem hx) i h64 (by omega)
  · exact BitVec.getLsbD_of_ge _ i (by omega)
theorem right_g {g : G.graph_Graph} (h : rightB g.N g.Rows = true) : ∃ n f, n ≤ 64 ∧ g = gr n f := by
  obtain ⟨n, f, h1, h2, h3⟩ := right_is h
  exact ⟨n, f, h1, by cases g; simp_all⟩

theorem nodes_get (n : Nat) (hn : n ≤ 64) (i : Nat) (hi : i < 64) : ((1#64 <<< n) - 1#64).getLsbD i = decide (i < n) := by
  rcases Nat.lt_or_ge n 64 with h | h
  · have e : ((1#64 <<< n) - 1#64).toNat = 2 ^ n - 1 := by
      have h1 : 2 ^ n < 2 ^ 64 := Nat.pow_lt_pow_right (by omega) h
      have h2 : 0 < 2 ^ n := Nat.pow_pos (by omega)
      rw [BitVec.toNat_sub]
      simp only [BitVec.toNat_shiftLeft, BitVec.toNat_ofNat, Nat.shiftLeft_eq]
      omega
    simp only [BitVec.getLsbD, e, Nat.testBit_two_pow_sub_one]
  · have : n = 64 := by omega
    subst this
    have e : (1#64 <<< 64) - 1#64 = BitVec.allOnes 64 := by decide
    rw [e, BitVec.getLsbD_allOnes]
theorem join_get (l : List (BitVec 64)) (i : Nat) : (join l).getLsbD i = l.any (·.getLsbD i) := by
  have key : ∀ (l : List (BitVec 64)) (a : BitVec 64), (l.foldl (· ||| ·) a).getLsbD i = (a.getLsbD i || l.any (·.getLsbD i)) := by
    intro l
    induction l with
    | nil => intro a; simp
    | cons x l ih => intro a; simp [ih, Bool.or_assoc]
  simp [join, key]
theorem graph_Right (g : G.graph_Graph) (hl : g.Rows.length < 9223372036854775808) : G.graph_Right g = some (rightB g.N g.Rows) := by
  unfold G.graph_Right G.graph_nodes rightB
  by_cases h1 : 0 ≤ g.N
  · by_cases h2 : g.N ≤ 64
    · by_cases h3 : (g.Rows.length : Int) = g.N
      · have hs : Sh.shl 1#64 g.N = some (1#64 <<< g.N.toNat) := by simp [Sh.shl, h1]
        simp only [h1, h2, h3, decide_true, if_true, bits_Join _ hl, hs, Option.bind_some, bits_Sub, true_and, Option.some.injEq]
        congr 1
        apply propext
        rw [sub_iff]
        constructor
        · intro h r hr i hi hN
          cases hb : r.getLsbD i with
          | false => rfl
          | true =>
            have := h i (by rw [join_get, List.any_eq_true]; exact ⟨r, hr, hb⟩)
            rw [nodes_get _ (by omega) i hi] at this
            have := of_decide_eq_true this
            omega
        · intro h i hi
          have hi64 : i < 64 := by
            rcases Nat.lt_or_ge i 64 with h' | h'
            · exact h'
            · rw [BitVec.getLsbD_of_ge _ i h'] at hi; cases hi
          rw [nodes_get _ (by omega) i hi64]
          apply decide_eq_true
          rw [join_get, List.any_eq_true] at hi
          obtain ⟨r, hr, hb⟩ := hi
          rcases Nat.lt_or_ge i g.N.toNat with h' | h'
          · exact h'
          · rw [h r hr i hi64 (by omega)] at hb; cases hb
      · simp [h1, h2, h3]
    · simp [h1, h2]
  · simp [h1]
@[simp] theorem Right_gr {n : Nat} (hn : n ≤ 64) (f : Nat → Nat → Bool) : G.graph_Right (gr n f) = some true := by
  rw [graph_Right _ (by simp; omega)]
  exact congrArg some (right_rows hn f)
theorem row_has {n : Nat} (hn : n ≤ 64) (p : Nat → Bool) {k : Nat} (hk : k < n) : Bv.has (row n p) (k : Int) = p k := by
  rw [has_nat _ (by omega), row_get hn]; simp [hk]
theorem row_has_out {n : Nat} (hn : n ≤ 64) (p : Nat → Bool) {b : Int} (hb : b < 0 ∨ (n : Int) ≤ b) : Bv.has (row n p) b = false := by
  unfold Bv.has
  rcases hb with hb | hb
  · have : ¬ 0 ≤ b := by omega
    simp [this]
  · rw [row_get hn]
    have : ¬ b.toNat < n := by omega
    simp [this]
def hasB (n : Nat) (f : Nat → Nat → Bool) (a b : Int) : Bool := decide (0 ≤ a ∧ a < n ∧ 0 ≤ b ∧ b < n) && f a.toNat b.toNat
theorem graph_Has {n : Nat} (hn : n ≤ 64) (f : Nat → Nat → Bool) (a b : Int) : G.graph_Has (gr n f) a b = some (hasB n f a b) := by
  unfold G.graph_Has hasB
  simp only [Right_gr hn, Option.bind_some, if_true]
  by_cases h1 : 0 ≤ a
  · by_cases h2 : a < n
    · obtain ⟨k, rfl⟩ : ∃ k : Nat, a = k := ⟨a.toNat, by omega⟩
      have hk : k < n := by omega
      simp only [h1, h2, decide_true, if_true, rows_idx hk, Option.bind_some, bits_Has]
      by_cases h3 : 0 ≤ b ∧ b < n
      · obtain ⟨j, rfl⟩ : ∃ j : Nat, b = j := ⟨b.toNat, by omega⟩
        rw [row_has hn _ (by omega)]
        simp [h3]
      · rw [row_has_out hn _ (by omega)]
        have : ¬ (True ∧ True ∧ 0 ≤ b ∧ b < n) := fun h => h3 h.2.2
        rw [decide_eq_false this]; rfl
    · simp [h1, h2]
  · simp [h1]
end Pl
end

section
/- The reference's graphs. -/
namespace Pl
open Go Go.Av

@[simp] theorem r12_Node (g : G.inquestref12_G) (a : Int) : G.inquestref12_Node g a = some (decide (0 ≤ a ∧ a < g.N)) := by
  unfold G.inquestref12_Node
  by_cases h : 0 ≤ a <;> simp [h]
end Pl
namespace Pl
open Go Go.Av
end Pl
end

section
/- Where ways lead. -/
namespace Pl
open Go Go.Av

inductive Way (n : Nat) (f : Nat → Nat → Bool) : Nat → Nat → Prop
  | edge {x y : Nat} : x < n → y < n → f x y = true → Way n f x y
  | cons {x y z : Nat} : x < n → y < n → f x y = true → Way n f y z → Way n f x z

theorem Way.trans {n : Nat} {f : Nat → Nat → Bool} {x y z : Nat} (h : Way n f x y) (k : Way n f y z) : Way n f x z := by
  induction h with
  | edge hx hy hf => exact .cons hx hy hf k
  | cons hx hy hf _ ih => exact .cons hx hy hf (ih k)
theorem Way.left {n : Nat} {f : Nat → Nat → Bool} {x y : Nat} (h : Way n f x y) : x < n := by cases h <;> assumption
theorem Way.right {n : Nat} {f : Nat → Nat → Bool} {x y : Nat} (h : Way n f x y) : y < n := by
  induction h with
  | edge _ hy _ => exact hy
  | cons _ _ _ _ ih => exact ih
theorem Way.mono {n : Nat} {f h : Nat → Nat → Bool} (hm : ∀ x y, x < n → y < n → f x y = true → Way n h x y) {x y : Nat} (w : Way n f x y) : Way n h x y := by
  induction w with
  | edge hx hy hf => exact hm _ _ hx hy hf
  | cons hx hy hf _ ih => exact (hm _ _ hx hy hf).trans ih
theorem Way.last {n : Nat} {f : Nat → Nat → Bool} {x z : Nat} (h : Way n f x z) : ∃ y, y < n ∧ f y z = true ∧ (y = x ∨ Way n f x y) := by
  induction h with
  | edge hx hy hf => exact ⟨_, hx, hf, .inl rfl⟩
  | cons hx hy hf _ ih =>
    obtain ⟨y, h1, h2, h3⟩ := ih
    refine ⟨y, h1, h2, .inr ?_⟩
    rcases h3 with rfl | h3
    · exact .edge hx hy hf
    · exact .cons hx hy hf h3

noncomputable def wayF (n : Nat) (f : Nat → Nat → Bool) : Nat → Nat → Bool := fun x y => @decide (Way n f x y) (Classical.propDecidable _)
theorem way_iff {n : Nat} {f : Nat → Nat → Bool} {x y : Nat} : wayF n f x y = true ↔ Way n f x y := by
  unfold wayF; exact @decide_eq_true_iff _ (Classical.propDecidable _)

theorem filter_lt {α : Type} (l : List α) (p q : α → Bool) (hpq : ∀ x, q x = true → p x = true) {k : α} (hk : k ∈ l) (hp : p k = true) (hq : q k = false) : (l.filter q).length < (l.filter p).length := by
  induction l with
  | nil => cases hk
  | cons a l ih =>
    have hle : ∀ l : List α, (l.filter q).length ≤ (l.filter p).length := fun l => by
      induction l with
      | nil => simp
      | cons b l ih =>
        simp only [List.filter_cons]
        cases hb : q b with
        | true => simp [hpq b hb]; exact ih
        | false =>
          cases p b <;> simp <;> omega
    simp only [List.filter_cons]
    rcases List.mem_cons.1 hk with rfl | hk
    · simp only [hp, hq, if_true, Bool.false_eq_true, if_false, List.length_cons]
      have := hle l; omega
    · have := ih hk
      cases hb : q a with
      | true => simp [hpq a hb]; exact this
      | false => cases p a <;> simp <;> omega

theorem getLsbD_andNot (a b : BitVec 64) (i : Nat) : (a &&& ~~~b).getLsbD i = (a.getLsbD i && !b.getLsbD i) := by
  by_cases h : i < 64
  · simp [h]
  · simp [BitVec.getLsbD_of_ge a i (by omega)]
theorem least_spec (s : BitVec 64) : (s = 0#64 ∧ Bv.least s = -1) ∨ ∃ k : Nat, s ≠ 0#64 ∧ Bv.least s = (k : Int) ∧ s.getLsbD k = true ∧ ∀ j, j < k → s.getLsbD j = false := by
  by_cases h : s = 0#64
  · left; subst h; exact ⟨rfl, by decide⟩
  · right
    obtain ⟨e, h2, _⟩ := Bv.list_cons s h
    refine ⟨Bv.ctz s, h, Bv.least_ctz s h, ?_, fun j hj => ?_⟩
    · rw [← Bv.mem_list, e]; simp
    · cases hb : s.getLsbD j with
      | false => rfl
      | true =>
        have h3 : j ∈ Bv.list s := Bv.mem_list.2 hb
        have h4 := Bv.list_sorted s
        rw [e] at h3 h4
        rcases List.mem_cons.1 h3 with rfl | h3
        · omega
        · have := List.rel_of_pairwise_cons h4 h3; omega
end Pl
end

section
/- Cycles: which lists are, and what is told of them. -/
namespace Pl
open Go Go.Av

theorem cbit_get (k i : Nat) (hk : k < 64) : (Bv.bit (k : Int)).getLsbD i = decide (i = k) := by
  have hb : Bv.bit (k : Int) = 1#64 <<< k := by unfold Bv.bit; rw [if_pos ⟨by omega, by omega⟩]; simp
  rw [hb, shift_get k i hk]
theorem len_of_cover {n : Nat} : ∀ {l : List Int}, (∀ a ∈ l, 0 ≤ a ∧ a < n) → l.Nodup → l.length ≤ n := by
  induction n with
  | zero =>
    intro l h _
    cases l with
    | nil => simp
    | cons a l => have := h a (by simp); omega
  | succ n ih =>
    intro l h hd
    by_cases hm : (n : Int) ∈ l
    · have h1 := ih (l := l.erase (n : Int)) (fun a ha => by
        have ha' := (List.Nodup.mem_erase_iff hd).1 ha
        have := h a ha'.2
        have hne : a ≠ (n : Int) := ha'.1
        omega) (hd.erase _)
      rw [List.length_erase_of_mem hm] at h1
      omega
    · have := ih (l := l) (fun a ha => by
        have := h a ha
        have hne : a ≠ (n : Int) := fun e => hm (e ▸ ha)
        omega) hd
      omega
end Pl
end

section
/- The search for components: that the program does what the search does. -/
namespace Pl
open Go Go.Av

def eF (n : Nat) (f : Nat → Nat → Bool) (x y : Nat) : Prop := x < n ∧ y < n ∧ f x y = true
def rF (n : Nat) (f : Nat → Nat → Bool) (x y : Nat) : Prop := x = y ∨ Way n f x y
theorem rch (n : Nat) (f : Nat → Nat → Bool) : Rch (eF n f) (rF n f) where
  refl x := .inl rfl
  trans x y z h k := by
    rcases h with rfl | h
    · exact k
    · rcases k with rfl | k
      · exact .inr h
      · exact .inr (h.trans k)
  edge x y h := .inr (.edge h.1 h.2.1 h.2.2)
  closed P hP x y h hx := by
    rcases h with rfl | h
    · exact hx
    · induction h with
      | edge a b c => exact hP _ _ hx ⟨a, b, c⟩
      | cons a b c _ ih => exact ih (hP _ _ hx ⟨a, b, c⟩)
noncomputable def tog (n : Nat) (f : Nat → Nat → Bool) (x y : Nat) : Bool := decide (x = y) || (wayF n f x y && wayF n f y x)
theorem tog_iff {n : Nat} {f : Nat → Nat → Bool} {x y : Nat} : tog n f x y = true ↔ rF n f x y ∧ rF n f y x := by
  unfold tog rF
  rw [Bool.or_eq_true, decide_eq_true_eq, Bool.and_eq_true, way_iff, way_iff]
  constructor
  · rintro (h | ⟨h1, h2⟩)
    · exact ⟨.inl h, .inl h.symm⟩
    · exact ⟨.inr h1, .inr h2⟩
  · rintro ⟨h1, h2⟩
    rcases h1 with h1 | h1
    · exact .inl h1
    · rcases h2 with h2 | h2
      · exact .inl h2.symm
      · exact .inr ⟨h1, h2⟩
theorem tog_eqv (n : Nat) (f : Nat → Nat → Bool) : Eqv n (tog n f) where
  refl x _ := tog_iff.2 ⟨.inl rfl, .inl rfl⟩
  symm x y h := tog_iff.2 (tog_iff.1 h).symm
  trans x y z h k := by
    have h := tog_iff.1 h
    have k := tog_iff.1 k
    exact tog_iff.2 ⟨(rch n f).trans _ _ _ h.1 k.1, (rch n f).trans _ _ _ k.2 h.2⟩

abbrev Tn (n : Nat) (f : Nat → Nat → Bool) (s : Ts) : Prop := Ti n (eF n f) (rF n f) s
def wI (n : Nat) (W : Nat → Nat) : List Int := arT n fun x => (W x : Int)
def openE (s : Ts) : List Int := cl s.os.reverse
def compE (s : Ts) : List (List Int) := s.comps.map cl
theorem cl_len (l : List Nat) : (cl l).length = l.length := by simp [cl]
theorem dec_le {n : Nat} {W : Nat → Nat} {l : List Nat} (hs : l.Pairwise (fun a b => W b < W a)) (hl : ∀ a ∈ l, a < n) : l.length ≤ n := by
  have h1 := len_of_cover (n := n) (l := cl l) (fun a ha => by
    obtain ⟨k, hk, rfl⟩ := mem_cl.1 ha
    have := hl k hk
    omega) (List.pairwise_map.2 (hs.imp fun {a b} h e => by
      have : a = b := Int.ofNat_inj.1 e
      subst this; omega))
  rwa [cl_len] at h1
theorem cs_le {n : Nat} {f : Nat → Nat → Bool} {s : Ts} (h : Tn n f s) : s.cs.length ≤ n := dec_le h.csort fun a ha => h.lt a (h.copen a ha).1
theorem os_le {n : Nat} {f : Nat → Nat → Bool} {s : Ts} (h : Tn n f s) : s.os.length ≤ n := dec_le h.osort fun a ha => h.lt a ((h.oiff a).1 ha).1

theorem pushP {n : Nat} (hn : n ≤ 64) (x : G.scc_place) {l : List G.scc_place} (hl : l.length ≤ n) : G.stack_Stack_scc_place_Push__1 x ((n + 1 : Nat) : Int) l = some (l ++ [x], true) := by
  unfold G.stack_Stack_scc_place_Push__1
  have : ¬ ((n + 1 : Nat) : Int) ≤ Sh.len l := by simp only [Sh.len]; omega
  rw [decide_eq_false this, app_ok (by simp only [List.length_cons, List.length_nil]; omega)]; rfl
theorem pushI {n : Nat} (hn : n ≤ 64) (x : Int) {l : List Int} (hl : l.length ≤ n) : G.stack_Stack_int_Push__1 x ((n + 1 : Nat) : Int) l = some (l ++ [x], true) := by
  unfold G.stack_Stack_int_Push__1
  have : ¬ ((n + 1 : Nat) : Int) ≤ Sh.len l := by simp only [Sh.len]; omega
  rw [decide_eq_false this, app_ok (by simp only [List.length_cons, List.length_nil]; omega)]; rfl
theorem topP (m : Int) (l : List G.scc_place) (x : G.scc_place) (hl : l.length < 1000) : G.stack_Stack_scc_place_Top__1 m (l ++ [x]) = some (x, true) := by
  unfold G.stack_Stack_scc_place_Top__1
  have h1 : ¬ (Sh.len (l ++ [x])) = 0 := by simp [Sh.len]; omega
  have h2 : w64 (Sh.len (l ++ [x]) - 1) = (l.length : Int) := by simp only [Sh.len, List.length_append, List.length_cons, List.length_nil]; rw [w64_id (by omega) (by omega)]; omega
  rw [decide_eq_false h1, h2, idx_at (by simp)]
  simp
theorem topI (m : Int) (l : List Int) (x : Int) (hl : l.length < 1000) : G.stack_Stack_int_Top__1 m (l ++ [x]) = some (x, true) := by
  unfold G.stack_Stack_int_Top__1
  have h1 : ¬ (Sh.len (l ++ [x])) = 0 := by simp [Sh.len]; omega
  have h2 : w64 (Sh.len (l ++ [x]) - 1) = (l.length : Int) := by simp only [Sh.len, List.length_append, List.length_cons, List.length_nil]; rw [w64_id (by omega) (by omega)]; omega
  rw [decide_eq_false h1, h2, idx_at (by simp)]
  simp
theorem popP (m : Int) (l : List G.scc_place) (x : G.scc_place) (hl : l.length < 1000) : G.stack_Stack_scc_place_Pop__1 m (l ++ [x]) = some (x, true, l) := by
  unfold G.stack_Stack_scc_place_Pop__1
  have h2 : w64 (Sh.len (l ++ [x]) - 1) = ((l.length : Nat) : Int) := by simp only [Sh.len, List.length_append, List.length_cons, List.length_nil]; rw [w64_id (by omega) (by omega)]; omega
  rw [topP m l x hl]
  simp only [Option.bind_some, if_true, h2]
  rw [show (0 : Int) = ((0 : Nat) : Int) from rfl, sub_ok (Nat.zero_le _) (by simp)]
  simp [G.stack_Stack_scc_place_Pop__1_j1]
theorem popI (m : Int) (l : List Int) (x : Int) (hl : l.length < 1000) : G.stack_Stack_int_Pop__1 m (l ++ [x]) = some (x, true, l) := by
  unfold G.stack_Stack_int_Pop__1
  have h2 : w64 (Sh.len (l ++ [x]) - 1) = ((l.length : Nat) : Int) := by simp only [Sh.len, List.length_append, List.length_cons, List.length_nil]; rw [w64_id (by omega) (by omega)]; omega
  rw [topI m l x hl]
  simp only [Option.bind_some, if_true, h2]
  rw [show (0 : Int) = ((0 : Nat) : Int) from rfl, sub_ok (Nat.zero_le _) (by simp)]
  simp [G.stack_Stack_int_Pop__1_j1]

theorem pEnter {n : Nat} (hn : n ≤ 64) (f : Nat → Nat → Bool) {y : Nat} (hy : y < n) (W L : Nat → Nat) (D : List Bool) (met : Int) (C : List (List Int)) {c : List G.scc_place} {o : List Int} (hc : c.length ≤ n) (ho : o.length ≤ n) :
    G.scc_walk_enter__1 (y : Int) (n : Int) (rows n f) met (wI n W) (wI n L) D ((n + 1 : Nat) : Int) ((n + 1 : Nat) : Int) C c o = some (c ++ [⟨(y : Int), row n (f y)⟩], o ++ [(y : Int)]) := by
  unfold G.scc_walk_enter__1 wI
  simp only [arT_idx _ hy, Option.bind_some, rows_idx hy, pushP hn _ hc, pushI hn _ ho]
theorem wI_set {n : Nat} (W : Nat → Nat) {y : Nat} (m : Nat) : Sh.set (wI n W) (y : Int) (m : Int) = wI n fun a => if a = y then m else W a := by
  unfold wI
  rw [arT_set]
  refine arT_ext fun x _ => ?_
  by_cases e : x = y
  · simp [e]
  · simp [e]
theorem wI_idx {n : Nat} (W : Nat → Nat) {y : Nat} (hy : y < n) : Sh.idx (wI n W) (y : Int) = some (W y : Int) := arT_idx _ hy
theorem wI_ext {n : Nat} {W V : Nat → Nat} (h : ∀ x, x < n → W x = V x) : wI n W = wI n V := arT_ext fun x hx => by rw [h x hx]

theorem pop_loop {n : Nat} (hn : n ≤ 64) (low : List Int) (comps : List (List Int)) (calls : List G.scc_place) (D : Nat → Bool) (x : Nat) (hx : x < n) (os' : List Nat) (hos : os'.length ≤ n) : ∀ (S : List Nat) (done : List Nat), (∀ a ∈ S, a < n ∧ a ≠ x) → S.length + done.length ≤ n →
    ∀ (m : Nat), S.length < m → Sh.iter (fun (p : (List Bool) × (List Int) × (List Int)) => G.scc_walk_leave__1_b1 (x : Int) low ((n + 1 : Nat) : Int) ((n + 1 : Nat) : Int) comps calls p.1 p.2.1 p.2.2) m (arT n (fun a => D a || decide (a ∈ done)), cl (S ++ x :: os').reverse, cl done) =
      G.scc_walk_leave__1_j2 (x : Int) low ((n + 1 : Nat) : Int) comps calls (cl (done ++ S ++ [x])) (arT n (fun a => D a || decide (a ∈ done ++ S ++ [x]))) (cl os'.reverse) := by
  intro S
  induction S with
  | nil =>
    intro done _ hl m hm
    obtain ⟨m, rfl⟩ : ∃ k, m = k + 1 := ⟨m - 1, by simp at hm; omega⟩
    refine loop_exit ?_
    have e : cl ([] ++ x :: os').reverse = cl os'.reverse ++ [(x : Int)] := by simp [cl]
    simp only [G.scc_walk_leave__1_b1, e, popI _ (cl os'.reverse) (x : Int) (by simp [cl]; omega), Option.bind_some, arT_idx _ hx, decide_true, if_true]
    rw [app_ok (by simp only [cl_len, List.length_cons, List.length_nil]; simp at hl; omega)]
    simp only [Option.bind_some, arT_set, List.append_nil]
    congr 2
    · simp [cl]
    · refine arT_ext fun a _ => ?_
      by_cases ha : a = x
      · subst ha; simp
      · simp [ha]
  | cons z S ih =>
    intro done hS hl m hm
    obtain ⟨m, rfl⟩ : ∃ k, m = k + 1 := ⟨m - 1, by simp at hm; omega⟩
    obtain ⟨hz, hzx⟩ := hS z (List.mem_cons_self ..)
    have e : cl ((z :: S) ++ x :: os').reverse = cl (S ++ x :: os').reverse ++ [(z : Int)] := by simp [cl]
    have hne : ¬ (z : Int) = (x : Int) := fun h => hzx (Int.ofNat_inj.1 h)
    simp only [List.length_cons] at hl
    rw [loop_step (s' := (arT n (fun a => D a || decide (a ∈ done ++ [z])), cl (S ++ x :: os').reverse, cl (done ++ [z]))) ?_, ih (done ++ [z]) (fun a ha => hS a (List.mem_cons_of_mem _ ha)) (by simp; omega) m (by simp at hm; omega)]
    · simp
    · simp only [G.scc_walk_leave__1_b1, e, popI _ (cl (S ++ x :: os').reverse) (z : Int) (by simp only [cl_len, List.length_reverse, List.length_append, List.length_cons]; omega), Option.bind_some, arT_idx _ hz, hne, decide_false, Bool.false_eq_true, if_false]
      rw [app_ok (by simp only [cl_len, List.length_cons, List.length_nil]; omega)]
      simp only [Option.bind_some, arT_set, Sh.next]
      congr 3
      · refine arT_ext fun a _ => ?_
        by_cases ha : a = z
        · subst ha; simp
        · simp [ha]
      · simp [cl]

def callL (n : Nat) (A : Nat → Nat → Bool) (cs : List Nat) : List G.scc_place := cs.reverse.map fun x : Nat => ⟨(x : Int), row n (A x)⟩
theorem callL_cons (n : Nat) (A : Nat → Nat → Bool) (x : Nat) (cs : List Nat) : callL n A (x :: cs) = callL n A cs ++ [⟨(x : Int), row n (A x)⟩] := by simp [callL]
theorem callL_len (n : Nat) (A : Nat → Nat → Bool) (cs : List Nat) : (callL n A cs).length = cs.length := by simp [callL]
theorem callL_ext {n : Nat} {A B : Nat → Nat → Bool} {cs : List Nat} (h : ∀ x ∈ cs, A x = B x) : callL n A cs = callL n B cs := List.map_congr_left fun x hx => by rw [h x (List.mem_reverse.1 hx)]
theorem min_nat (a b : Nat) : Sh.min (a : Int) (b : Int) = ((Nat.min a b : Nat) : Int) := by
  unfold Sh.min
  by_cases h : b < a
  · rw [if_pos (by omega), show Nat.min a b = b from Nat.min_eq_right (by omega)]
  · rw [if_neg (by omega), show Nat.min a b = a from Nat.min_eq_left (by omega)]
theorem comps_le {n : Nat} {f : Nat → Nat → Bool} {s : Ts} (h : Tn n f s) : s.comps.length ≤ n := by
  have hne : ∀ c ∈ s.comps, ∃ a r, c = a :: r := fun c hc => by
    obtain ⟨x, hx, _⟩ := h.cis c hc
    cases c with
    | nil => simp at hx
    | cons a r => exact ⟨a, r, rfl⟩
  have h1 := len_of_cover (n := n) (l := s.comps.map fun c => ((c.headD 0 : Nat) : Int)) (fun a ha => by
    obtain ⟨c, hc, rfl⟩ := List.mem_map.1 ha
    obtain ⟨a, r, rfl⟩ := hne c hc
    have := h.lt a (h.done a (h.cdone _ hc a (List.mem_cons_self ..)))
    simp only [List.headD_cons]; omega) (List.pairwise_map.2 (h.cdis.imp_of_mem fun {c d} hc hd hcd e => by
    obtain ⟨a, r, rfl⟩ := hne c hc
    obtain ⟨b, q, rfl⟩ := hne d hd
    have e : a = b := Int.ofNat_inj.1 e
    subst e
    exact hcd a (List.mem_cons_self ..) (List.mem_cons_self ..)))
  simpa using h1
theorem sort_set {n : Nat} {l : List Nat} (hd : l.Nodup) (hl : l.length ≤ 64) {c : List Nat} (hc : c.Pairwise (· < ·)) (hm : ∀ a, a ∈ c ↔ a ∈ l) (_hn : ∀ a ∈ l, a < n) : Sh.sort (cl l) = some (cl c) := by
  have hcd : (cl c).Nodup := List.pairwise_map.2 (hc.imp fun {a b} h e => by
    have : a = b := Int.ofNat_inj.1 e
    omega)
  have hld : (cl l).Nodup := List.pairwise_map.2 (hd.imp fun {a b} h e => h (Int.ofNat_inj.1 e))
  have hp : (Sh.isort (cl l)).Perm (cl c) := (Sh.isort_perm _).trans ((List.perm_ext_iff_of_nodup hld hcd).2 fun a => by
    rw [mem_cl, mem_cl]
    exact ⟨fun ⟨k, h1, h2⟩ => ⟨k, (hm k).2 h1, h2⟩, fun ⟨k, h1, h2⟩ => ⟨k, (hm k).1 h1, h2⟩⟩)
  unfold Sh.sort
  rw [if_pos (by rw [cl_len]; omega), Sh.sorted_one hp (Sh.isort_sorted _) ((cl_sorted hc).imp fun h => Int.le_of_lt h)]

theorem pLeave {n : Nat} (hn : n ≤ 64) {f : Nat → Nat → Bool} {s : Ts} (h : Tn n f s) {x : Nat} {cs' : List Nat} (hc : s.cs = x :: cs') (hA : ∀ z, eF n f x z → s.A x z = false) (met : Int) :
    ∃ s', Tn n f s' ∧ s'.cs = cs' ∧ s'.W = s.W ∧ s'.met = s.met ∧ s'.A = s.A ∧ (∀ c ∈ s'.comps, c ∈ s.comps ∨ c.Pairwise (· < ·)) ∧
      G.scc_walk_leave__1 (x : Int) (n : Int) (rows n f) met (wI n s.W) (wI n s.L) (arT n s.D) ((n + 1 : Nat) : Int) ((n + 1 : Nat) : Int) (compE s) (callL n s.A cs') (openE s) = some (wI n s'.L, arT n s'.D, openE s', compE s') := by
  have hxc : x ∈ s.cs := by rw [hc]; exact List.mem_cons_self ..
  have hxo := h.copen x hxc
  have hxn := h.lt x hxo.1
  have hcl := cs_le h
  rw [hc, List.length_cons] at hcl
  have hol := os_le h
  have hlow := h.low x hxo
  unfold G.scc_walk_leave__1
  simp only [wI_idx _ hxn, Option.bind_some]
  by_cases he : s.L x = s.W x
  · -- a component
    have e1 : (s.L x : Int) = (s.W x : Int) := by rw [he]
    rw [decide_eq_true e1]
    simp only [if_true]
    obtain ⟨S, os', hos⟩ := List.append_of_mem ((h.oiff x).2 hxo)
    have hso := h.osort
    rw [hos] at hso
    obtain ⟨_, hso2, hso3⟩ := List.pairwise_append.1 hso
    have hSx : ∀ a ∈ S, s.W x < s.W a := fun a ha => hso3 a ha x (List.mem_cons_self ..)
    have hbx : ∀ a ∈ os', s.W a < s.W x := (List.pairwise_cons.1 hso2).1
    have hS : ∀ a, a ∈ S ++ [x] ↔ s.opn a ∧ s.W x ≤ s.W a := fun a => by
      rw [← h.oiff a, hos]
      simp only [List.mem_append, List.mem_cons, List.not_mem_nil, or_false]
      constructor
      · rintro (k | k)
        · exact ⟨.inl k, Nat.le_of_lt (hSx a k)⟩
        · exact ⟨.inr (.inl k), by rw [k]; exact Nat.le_refl _⟩
      · rintro ⟨k | k | k, hw⟩
        · exact .inl k
        · exact .inr k
        · have := hbx a k; omega
    have hSn : ∀ a ∈ S ++ [x], a < n := fun a ha => h.lt a ((hS a).1 ha).1.1
    have hSl : (S ++ [x]).length + os'.length ≤ n := by
      have := hol
      rw [hos] at this
      simp only [List.length_append, List.length_cons, List.length_nil] at this ⊢
      omega
    have hnd : (S ++ [x]).Nodup := by
      have h1 : (S ++ [x]).Pairwise (fun a b => s.W b < s.W a) := by
        refine List.pairwise_append.2 ⟨(List.pairwise_append.1 hso).1, List.pairwise_singleton _ _, fun a ha b hb => ?_⟩
        rw [List.mem_singleton.1 hb]; exact hSx a ha
      exact h1.imp fun {a b} k e => by subst e; omega
    let c := (List.range n).filter fun a => decide (a ∈ S ++ [x])
    have hcS : ∀ a, a ∈ c ↔ a ∈ S ++ [x] := fun a => by
      simp only [c, List.mem_filter, List.mem_range, decide_eq_true_eq]
      exact ⟨fun k => k.2, fun k => ⟨hSn a k, k⟩⟩
    have hcs : c.Pairwise (· < ·) := List.Pairwise.filter _ List.pairwise_lt_range
    have hcn : c.Nodup := hcs.imp fun h => Nat.ne_of_lt h
    have T := h.close (rch n f) hc hA he (os' := os') (S := S ++ [x]) (by rw [hos]; simp) hS hcS hcn
    refine ⟨_, T, rfl, rfl, rfl, rfl, fun d hd => by
      rcases List.mem_append.1 hd with k | k
      · exact .inl k
      · rw [List.mem_singleton.1 k]; exact .inr hcs, ?_⟩
    have hD : arT n (fun a => s.D a || decide (a ∈ [] ++ S ++ [x])) = arT n (s.close x c cs' os').D := by
      refine arT_ext fun a _ => ?_
      show _ = (s.D a || decide (s.W x ≤ s.W a))
      rw [List.nil_append]
      cases hd : s.D a with
      | true => rfl
      | false =>
        simp only [Bool.false_or]
        refine decide_eq_decide.2 ((hS a).trans ⟨fun k => k.2, fun k => ⟨⟨by have := hxo.1; omega, hd⟩, k⟩⟩)
    have hpop := pop_loop hn (wI n s.L) (compE s) (callL n s.A cs') s.D x hxn os' (by omega) S [] (fun a ha => ⟨hSn a (List.mem_append_left _ ha), fun e => by have := hSx a ha; rw [e] at this; omega⟩) (by simp only [List.length_append, List.length_cons, List.length_nil] at hSl ⊢; omega) Sh.FUEL (fuel_gt (by simp only [List.length_append, List.length_cons, List.length_nil] at hSl; omega))
    have hin : (arT n s.D, openE s, ([] : List Int)) = (arT n (fun a => s.D a || decide (a ∈ ([] : List Nat))), cl (S ++ x :: os').reverse, cl []) := by
      rw [openE, hos]
      congr 1
      exact arT_ext fun a _ => by simp
    unfold Sh.loop
    rw [hin, hpop, hD]
    unfold G.scc_walk_leave__1_j2
    rw [List.nil_append, sort_set hnd (by simp only [List.length_append, List.length_cons, List.length_nil] at hSl ⊢; omega) hcs hcS hSn]
    have hcm := comps_le h
    simp only [Option.bind_some]
    rw [app_ok (by simp only [compE, List.length_map, List.length_cons, List.length_nil]; omega)]
    simp only [Option.bind_some]
    have hcomp : compE s ++ [cl c] = compE (s.close x c cs' os') := by simp [compE, Ts.close]
    rw [hcomp]
    unfold G.scc_walk_leave__1_j1
    cases hcs' : cs' with
    | nil => rfl
    | cons u r =>
      have hu : u ∈ s.cs := by rw [hc, hcs']; simp
      have huo := h.copen u hu
      have hun := h.lt u huo.1
      rw [callL_cons, topP _ _ _ (by rw [callL_len]; rw [hcs', List.length_cons] at hcl; omega)]
      simp only [Option.bind_some, if_true, wI_idx _ hun, wI_idx _ hxn, min_nat, wI_set]
      have hlt : s.L u ≤ s.L x := by
        have h1 := (h.low u huo).1
        have h2 := h.csort
        rw [hc] at h2
        have := (List.pairwise_cons.1 h2).1 u (by rw [hcs']; exact List.mem_cons_self ..)
        omega
      have e : wI n (fun a => if a = u then Nat.min (s.L u) (s.L x) else s.L a) = wI n s.L := wI_ext fun a _ => by
        by_cases ha : a = u
        · rw [if_pos ha, ha]; exact Nat.min_eq_left hlt
        · rw [if_neg ha]
      rw [e]; rfl
  · have hlt : s.L x < s.W x := by omega
    have e1 : ¬ (s.L x : Int) = (s.W x : Int) := fun e => he (Int.ofNat_inj.1 e)
    rw [decide_eq_false e1]
    simp only [Bool.false_eq_true, if_false]
    unfold G.scc_walk_leave__1_j1
    cases hcs' : cs' with
    | nil =>
      refine ⟨{ s with cs := [] }, h.finish (by rw [hc, hcs']) hA hlt (fun u hu => by cases hu), rfl, rfl, rfl, rfl, fun _ hd => .inl hd, rfl⟩
    | cons u r =>
      have hu : u ∈ s.cs := by rw [hc, hcs']; simp
      have huo := h.copen u hu
      have hun := h.lt u huo.1
      have h2 := h.csort
      rw [hc] at h2
      have hux : s.W u < s.W x := (List.pairwise_cons.1 h2).1 u (by rw [hcs']; exact List.mem_cons_self ..)
      obtain ⟨z, z1, z2, z3⟩ := hlow.2.1
      have T1 := h.lower hu z1 ((rch n f).trans _ _ _ (h.reach u x hu hxo (by omega)) z3)
      have hxu : x ≠ u := fun e => by subst e; omega
      have hLx : (s.lower u (s.W z)).L x = s.L x := if_neg hxu
      have hLu : (s.lower u (s.W z)).L u = Nat.min (s.L u) (s.W z) := if_pos rfl
      have T2 : Tn n f { s.lower u (s.W z) with cs := u :: r } := T1.finish (x := x) (cs' := u :: r) (by show s.cs = _; rw [hc, hcs']) hA (by rw [hLx]; exact hlt) (fun v hv => by
        cases hv
        rw [hLu, hLx, z2]; exact Nat.min_le_right _ _)
      refine ⟨_, T2, rfl, rfl, rfl, rfl, fun _ hd => .inl hd, ?_⟩
      rw [callL_cons, topP _ _ _ (by rw [callL_len]; rw [hcs', List.length_cons] at hcl; omega)]
      simp only [Option.bind_some, if_true, wI_idx _ hun, wI_idx _ hxn, min_nat, wI_set]
      rw [← z2]; rfl

def unm (n : Nat) (s : Ts) : Nat := ((List.range n).filter fun y => decide (s.W y = 0)).length
structure Ok (n : Nat) (f : Nat → Nat → Bool) (s : Ts) : Prop where
  t : Tn n f s
  sub : ∀ a y, s.A a y = true → f a y = true
  met : s.met + unm n s ≤ n
  asc : ∀ c ∈ s.comps, c.Pairwise (· < ·)
abbrev Est : Type := (List Int) × (List Int) × (List Bool) × Int × (List G.scc_place) × (List Int) × (List (List Int))
def eS (n : Nat) (s : Ts) : Est := (wI n s.W, wI n s.L, arT n s.D, (s.met : Int), callL n s.A s.cs, openE s, compE s)
theorem row_without {n : Nat} (hn : n ≤ 64) (p : Nat → Bool) {k : Nat} (hk : k < n) : row n p &&& ~~~(Bv.bit (k : Int)) = row n (fun i => p i && !decide (i = k)) := by
  apply BitVec.eq_of_getLsbD_eq
  intro i hi
  rw [getLsbD_andNot, row_get hn, row_get hn, cbit_get k i (by omega), Bool.and_assoc]
theorem row_bit {n : Nat} (hn : n ≤ 64) {p : Nat → Bool} {k : Nat} (h : (row n p).getLsbD k = true) : k < n ∧ p k = true := by
  rw [row_get hn, Bool.and_eq_true, decide_eq_true_eq] at h; exact h
theorem unm_enter {n : Nat} {s : Ts} {y : Nat} {r : Nat → Bool} (hy : y < n) (hw : s.W y = 0) : unm n (s.enter y r) < unm n s :=
  filter_lt (List.range n) (fun y => decide (s.W y = 0)) (fun a => decide ((s.enter y r).W a = 0)) (fun a ha => by
    have ha : (if a = y then s.met + 1 else s.W a) = 0 := of_decide_eq_true ha
    by_cases e : a = y
    · rw [if_pos e] at ha; omega
    · rw [if_neg e] at ha; exact decide_eq_true ha) (k := y) (List.mem_range.2 hy) (decide_eq_true hw) (decide_eq_false (by
    show ¬ (if y = y then s.met + 1 else s.W y) = 0
    rw [if_pos rfl]; omega))
theorem Ok.enter {n : Nat} {f : Nat → Nat → Bool} {s : Ts} (h : Ok n f s) {y : Nat} (hy : y < n) (hw : s.W y = 0) (hp : ∀ p, p ∈ s.cs → rF n f p y) : Ok n f (s.enter y (f y)) where
  t := h.t.enter (rch n f) hy hw (fun z hz => hz.2.2) hp
  sub a b hab := by
    have hab : (if a = y then f y else s.A a) b = true := hab
    by_cases e : a = y
    · rw [if_pos e] at hab; rw [e]; exact hab
    · rw [if_neg e] at hab; exact h.sub a b hab
  met := by
    have := unm_enter (r := f y) hy hw
    have := h.met
    show s.met + 1 + _ ≤ n
    omega
  asc := h.asc
theorem Ok.drop {n : Nat} {f : Nat → Nat → Bool} {s : Ts} (h : Ok n f s) {x y : Nat} (hy : s.W y ≠ 0) (hl : s.D y = false → s.L x ≤ s.W y) : Ok n f (s.drop x y) where
  t := h.t.drop hy hl
  sub a b hab := h.sub a b (by
    have hab : (s.A a b && !(decide (a = x) && decide (b = y))) = true := hab
    rw [Bool.and_eq_true] at hab; exact hab.1)
  met := h.met
  asc := h.asc
theorem Ok.lower {n : Nat} {f : Nat → Nat → Bool} {s : Ts} (h : Ok n f s) {x y : Nat} (hx : x ∈ s.cs) (hy : s.opn y) (hxy : rF n f x y) : Ok n f (s.lower x (s.W y)) where
  t := h.t.lower hx hy hxy
  sub := h.sub
  met := h.met
  asc := h.asc
theorem drop_row {s : Ts} {x y : Nat} : (s.drop x y).A x = fun i => s.A x i && !decide (i = y) := by
  funext i
  show (s.A x i && !(decide (x = x) && decide (i = y))) = _
  simp
theorem drop_other {s : Ts} {x y a : Nat} (h : a ≠ x) : (s.drop x y).A a = s.A a := by
  funext i
  show (s.A a i && !(decide (a = x) && decide (i = y))) = _
  simp [h]

structure Same (s0 s : Ts) (x : Nat) : Prop where
  W : s.W = s0.W
  D : s.D = s0.D
  met : s.met = s0.met
  cs : s.cs = s0.cs
  os : s.os = s0.os
  comps : s.comps = s0.comps
  A : ∀ a, a ≠ x → s.A a = s0.A a
def mu (n : Nat) (s : Ts) : Nat := 2 * unm n s + s.cs.length
theorem pInner {n : Nat} (hn : n ≤ 64) {f : Nat → Nat → Bool} {s0 : Ts} (h0 : Ok n f s0) {x : Nat} {cs' : List Nat} (hc0 : s0.cs = x :: cs') (p0 : G.scc_place) :
    ∃ s', Ok n f s' ∧ (∀ y, s0.W y ≠ 0 → s'.W y ≠ 0) ∧ mu n s' < mu n s0 ∧
      Sh.loop (fun (p : (List Int) × G.scc_place) => G.scc_walk_from__1_b2 (n : Int) (rows n f) ((n + 1 : Nat) : Int) ((n + 1 : Nat) : Int) (wI n s0.W) (arT n s0.D) (s0.met : Int) (openE s0) (compE s0) (p0, true, callL n s0.A cs') p.1 p.2) (wI n s0.L, ⟨(x : Int), row n (s0.A x)⟩) = some (.inl (eS n s')) := by
  have key := Sh.loop_fam (b := fun (p : (List Int) × G.scc_place) => G.scc_walk_from__1_b2 (n : Int) (rows n f) ((n + 1 : Nat) : Int) ((n + 1 : Nat) : Int) (wI n s0.W) (arT n s0.D) (s0.met : Int) (openE s0) (compE s0) (p0, true, callL n s0.A cs') p.1 p.2)
    (fun s : Ts => (wI n s.L, (⟨(x : Int), row n (s.A x)⟩ : G.scc_place))) (fun s => Ok n f s ∧ Same s0 s x) (fun s => ((List.range n).filter (s.A x)).length) (fun r => ∃ s', Ok n f s' ∧ (∀ y, s0.W y ≠ 0 → s'.W y ≠ 0) ∧ mu n s' < mu n s0 ∧ r = .inl (eS n s')) (i0 := s0)
    ⟨h0, rfl, rfl, rfl, rfl, rfl, rfl, fun _ _ => rfl⟩ (fuel_gt (Nat.lt_of_le_of_lt (List.length_filter_le _ _) (by simp; omega))) (fun s ⟨hs, hS⟩ => ?_)
  · obtain ⟨r, h1, s', h2, h3, h4, h5⟩ := key
    exact ⟨s', h2, h3, h4, by rw [h1, h5]⟩
  have hc : s.cs = x :: cs' := hS.cs.trans hc0
  have hxc : x ∈ s.cs := by rw [hc]; exact List.mem_cons_self ..
  have hxo := hs.t.copen x hxc
  have hxn := hs.t.lt x hxo.1
  have hxcs : x ∉ cs' := fun hm => by
    have h2 := hs.t.csort
    rw [hc] at h2
    have := (List.pairwise_cons.1 h2).1 x hm
    omega
  have hcl := cs_le hs.t
  rw [hc, List.length_cons] at hcl
  have hol := os_le hs.t
  have hmet := hs.met
  have hrest : callL n s0.A cs' = callL n s.A cs' := callL_ext fun a ha => (hS.A a (fun e => hxcs (e ▸ ha))).symm
  rw [← hS.W, ← hS.D, ← hS.met, show openE s0 = openE s by unfold openE; rw [hS.os], show compE s0 = compE s by unfold compE; rw [hS.comps], hrest]
  simp only [G.scc_walk_from__1_b2]
  rcases least_spec (row n (s.A x)) with ⟨hz, _⟩ | ⟨k, hne, hk, hb, _⟩
  · -- all edges done
    right
    have hnz : ¬ (row n (s.A x) ≠ 0#64) := fun h => h hz
    rw [decide_eq_false hnz]
    simp only [Bool.false_eq_true, if_false]
    obtain ⟨s', T, q1, q2, q3, q4, q5, q6⟩ := pLeave hn hs.t hc (fun z hz' => by
      cases hAz : s.A x z with
      | false => rfl
      | true =>
        have : (row n (s.A x)).getLsbD z = true := by rw [row_get hn]; simp [hz'.2.1, hAz]
        rw [hz] at this; simp at this) (s.met : Int)
    refine ⟨_, by unfold G.scc_walk_from__1_j1; rw [q6]; rfl, s', ⟨T, by rw [q4]; exact hs.sub, by rw [q3, show unm n s' = unm n s by unfold unm; rw [q2]]; exact hmet, fun c hcm => (q5 c hcm).elim (hs.asc c) id⟩, fun y hy => by rw [q2]; exact hy, ?_, ?_⟩
    · unfold mu
      rw [show unm n s' = unm n s0 by unfold unm; rw [q2, hS.W], q1, hc0, List.length_cons]; omega
    · unfold eS
      rw [q1, q2, q3, q4]
  · rw [decide_eq_true hne]
    obtain ⟨hkn, hAk⟩ := row_bit hn hb
    have hfk := hs.sub x k hAk
    have hek : eF n f x k := ⟨hxn, hkn, hfk⟩
    simp only [if_true, bits_Least, hk, Option.bind_some, G.bits_Without, bits_bit, row_without hn _ hkn, wI_idx _ hkn]
    by_cases hw : s.W k = 0
    · -- a node not met yet
      right
      have e0 : ((s.W k : Nat) : Int) = 0 := by rw [hw]; rfl
      rw [decide_eq_true e0]
      simp only [if_true]
      have hkx : k ≠ x := fun e => hxo.1 (e ▸ hw)
      have hkc : k ∉ s.cs := fun hm => (hs.t.copen k hm).1 hw
      have T := hs.enter hkn hw (fun p hp => (rch n f).trans _ _ _ (hs.t.reach p x hp hxo (by
        have h2 := hs.t.csort
        rw [hc] at h2 hp
        rcases List.mem_cons.1 hp with e | e
        · rw [e]; exact Nat.le_refl _
        · exact Nat.le_of_lt ((List.pairwise_cons.1 h2).1 p e))) ((rch n f).edge _ _ hek))
      have hWk : (s.enter k (f k)).W k = s.met + 1 := if_pos rfl
      have hLx : (s.enter k (f k)).L x = s.L x := if_neg (Ne.symm hkx)
      have T2 := T.drop (x := x) (y := k) (by rw [hWk]; omega) (fun _ => by
        rw [hWk, hLx]
        have := (hs.t.low x hxo).1
        have := hs.t.le x
        omega)
      rw [pushP hn _ (by rw [callL_len]; omega)]
      simp only [Option.bind_some]
      rw [pEnter hn f hkn _ _ _ _ _ (by simp only [List.length_append, callL_len, List.length_cons, List.length_nil]; omega) (by rw [openE, cl_len, List.length_reverse]; exact hol)]
      simp only [Option.bind_some]
      have hm1 : w64 ((s.met : Int) + 1) = ((s.met + 1 : Nat) : Int) := w64_succ (by omega)
      refine ⟨_, rfl, _, T2, fun y hy => ?_, ?_, ?_⟩
      · show (if y = k then s.met + 1 else s.W y) ≠ 0
        split
        · omega
        · exact hy
      · unfold mu
        have h1 := unm_enter (r := f k) hkn hw
        have h2 : unm n ((s.enter k (f k)).drop x k) = unm n (s.enter k (f k)) := rfl
        have h3 : unm n s = unm n s0 := by unfold unm; rw [hS.W]
        have h4 : ((s.enter k (f k)).drop x k).cs = k :: s.cs := rfl
        rw [h2, h4, List.length_cons, hS.cs]
        omega
      · unfold eS
        rw [hm1, wI_set, wI_set]
        refine congrArg Sum.inl ?_
        refine Prod.ext rfl (Prod.ext rfl (Prod.ext rfl (Prod.ext rfl (Prod.ext ?_ (Prod.ext ?_ rfl)))))
        · show callL n s.A cs' ++ [⟨(x : Int), row n (fun i => s.A x i && !decide (i = k))⟩] ++ [⟨(k : Int), row n (f k)⟩] = callL n ((s.enter k (f k)).drop x k).A (k :: s.cs)
          have a1 : ((s.enter k (f k)).drop x k).A k = f k := by rw [drop_other hkx]; exact if_pos rfl
          have a2 : ((s.enter k (f k)).drop x k).A x = fun i => s.A x i && !decide (i = k) := by
            rw [drop_row]
            have : (s.enter k (f k)).A x = s.A x := if_neg (Ne.symm hkx)
            rw [this]
          have a3 : callL n s.A cs' = callL n ((s.enter k (f k)).drop x k).A cs' := callL_ext fun a ha => by
            rw [drop_other (fun e : a = x => hxcs (e ▸ ha))]
            exact (if_neg (fun e : a = k => hkc (by rw [hc, ← e]; exact List.mem_cons_of_mem _ ha))).symm
          rw [callL_cons, hc, callL_cons, a1, a2, a3]
        · show openE s ++ [(k : Int)] = cl (k :: s.os).reverse
          simp [openE, cl]
    · -- a node that was met
      left
      have e0 : ¬ ((s.W k : Nat) : Int) = 0 := by omega
      rw [decide_eq_false e0]
      simp only [Bool.false_eq_true, if_false, arT_idx _ hkn, Option.bind_some]
      have hmu : ∀ s' : Ts, s'.A x = (fun i => s.A x i && !decide (i = k)) → ((List.range n).filter (s'.A x)).length < ((List.range n).filter (s.A x)).length := fun s' e => by
        rw [e]
        exact filter_lt (List.range n) (s.A x) _ (fun a ha => by rw [Bool.and_eq_true] at ha; exact ha.1) (List.mem_range.2 hkn) hAk (by simp)
      cases hd : s.D k with
      | true =>
        have T := hs.drop (x := x) (y := k) hw (fun e => by rw [hd] at e; cases e)
        refine ⟨s.drop x k, ⟨T, hS.W, hS.D, hS.met, hS.cs, hS.os, hS.comps, fun a ha => by rw [drop_other ha]; exact hS.A a ha⟩, hmu _ (drop_row), ?_⟩
        simp only [Bool.not_true, Bool.false_eq_true, if_false, Sh.next, drop_row]; rfl
      | false =>
        have hko : s.opn k := ⟨hw, hd⟩
        have T1 := hs.lower hxc hko ((rch n f).edge _ _ hek)
        have hLx : (s.lower x (s.W k)).L x = Nat.min (s.L x) (s.W k) := if_pos rfl
        have T2 := T1.drop (x := x) (y := k) hw (fun _ => by rw [hLx]; exact Nat.min_le_right _ _)
        refine ⟨(s.lower x (s.W k)).drop x k, ⟨T2, hS.W, hS.D, hS.met, hS.cs, hS.os, hS.comps, fun a ha => by rw [drop_other ha]; exact hS.A a ha⟩, hmu _ (drop_row), ?_⟩
        simp only [Bool.not_false, if_true, wI_idx _ hxn, Option.bind_some, min_nat, wI_set, Sh.next, drop_row]; rfl
end Pl
end

section
/- All components, which one is whose, and who is on a cycle: what the program tells. -/
namespace Pl
open Go Go.Av

theorem pFrom {n : Nat} (hn : n ≤ 64) {f : Nat → Nat → Bool} {s : Ts} (h : Ok n f s) (hc : s.cs = []) {y : Nat} (hy : y < n) (hw : s.W y = 0) :
    ∃ s', Ok n f s' ∧ s'.cs = [] ∧ (∀ a, s.W a ≠ 0 → s'.W a ≠ 0) ∧ s'.W y ≠ 0 ∧
      G.scc_walk_from__1 (y : Int) (n : Int) (rows n f) (s.met : Int) (wI n s.W) (wI n s.L) (arT n s.D) ((n + 1 : Nat) : Int) ((n + 1 : Nat) : Int) (compE s) (callL n s.A s.cs) (openE s) =
        some (wI n s'.W, wI n s'.L, arT n s'.D, (s'.met : Int), compE s', callL n s'.A s'.cs, openE s') := by
  have hmet := h.met
  have hol := os_le h.t
  unfold G.scc_walk_from__1
  rw [pEnter hn f hy _ _ _ _ _ (by rw [callL_len, hc]; exact Nat.zero_le _) (by rw [openE, cl_len, List.length_reverse]; exact hol)]
  simp only [Option.bind_some]
  rw [w64_succ (show s.met < 9223372036854775807 by omega), wI_set, wI_set]
  have T := h.enter hy hw (fun p hp => by rw [hc] at hp; simp at hp)
  have hWy : (s.enter y (f y)).W y ≠ 0 := by
    show (if y = y then s.met + 1 else s.W y) ≠ 0
    rw [if_pos rfl]; omega
  have mono0 : ∀ a, s.W a ≠ 0 → (s.enter y (f y)).W a ≠ 0 := fun a ha => by
    show (if a = y then s.met + 1 else s.W a) ≠ 0
    split
    · omega
    · exact ha
  have hstart : (wI n (fun a => if a = y then s.met + 1 else s.W a), wI n (fun a => if a = y then s.met + 1 else s.L a), arT n s.D, ((s.met + 1 : Nat) : Int), callL n s.A s.cs ++ [⟨(y : Int), row n (f y)⟩], openE s ++ [(y : Int)], compE s) = eS n (s.enter y (f y)) := by
    unfold eS
    refine Prod.ext rfl (Prod.ext rfl (Prod.ext rfl (Prod.ext rfl (Prod.ext ?_ (Prod.ext ?_ rfl)))))
    · show callL n s.A s.cs ++ [⟨(y : Int), row n (f y)⟩] = callL n (s.enter y (f y)).A (y :: s.cs)
      have a1 : (s.enter y (f y)).A y = f y := if_pos rfl
      rw [callL_cons, a1, hc]; rfl
    · show openE s ++ [(y : Int)] = cl (y :: s.os).reverse
      simp [openE, cl]
  rw [hstart]
  have key := Sh.loop_fam (b := fun (p : (List Int) × (List Int) × (List Bool) × Int × (List G.scc_place) × (List Int) × (List (List Int))) => G.scc_walk_from__1_b1 (n : Int) (rows n f) ((n + 1 : Nat) : Int) ((n + 1 : Nat) : Int) p.1 p.2.1 p.2.2.1 p.2.2.2.1 p.2.2.2.2.1 p.2.2.2.2.2.1 p.2.2.2.2.2.2)
    (eS n) (fun s' => Ok n f s' ∧ (∀ a, (s.enter y (f y)).W a ≠ 0 → s'.W a ≠ 0)) (mu n) (fun r => ∃ s', Ok n f s' ∧ s'.cs = [] ∧ (∀ a, (s.enter y (f y)).W a ≠ 0 → s'.W a ≠ 0) ∧ r = (wI n s'.W, wI n s'.L, arT n s'.D, (s'.met : Int), compE s', callL n s'.A s'.cs, openE s')) (i0 := s.enter y (f y))
    ⟨T, fun _ h => h⟩ (fuel_gt (by
      have h1 : unm n (s.enter y (f y)) ≤ n := Nat.le_trans (List.length_filter_le _ _) (by simp)
      have h2 := cs_le T.t
      unfold mu; omega)) (fun s1 ⟨h1, h2⟩ => ?_)
  · obtain ⟨r, q1, s', q2, q3, q4, q5⟩ := key
    exact ⟨s', q2, q3, fun a ha => q4 a (mono0 a ha), q4 y hWy, by rw [q1, q5]⟩
  · have hcl := cs_le h1.t
    cases hcs : s1.cs with
    | nil =>
      right
      refine ⟨_, ?_, s1, h1, hcs, h2, rfl⟩
      have e0 : callL n s1.A s1.cs = [] := by rw [hcs]; rfl
      simp only [eS, e0, G.scc_walk_from__1_b1, G.stack_Stack_scc_place_Len__1, Option.bind_some]
      rfl
    | cons x cs' =>
      left
      rw [hcs, List.length_cons] at hcl
      obtain ⟨s', q1, q2, q3, q4⟩ := pInner hn h1 hcs ⟨(x : Int), row n (s1.A x)⟩
      refine ⟨s', ⟨q1, fun a ha => q2 a (h2 a ha)⟩, q3, ?_⟩
      have e0 : callL n s1.A s1.cs = callL n s1.A cs' ++ [⟨(x : Int), row n (s1.A x)⟩] := by rw [hcs, callL_cons]
      have hpos : (0 : Int) < Sh.len (callL n s1.A cs' ++ [(⟨(x : Int), row n (s1.A x)⟩ : G.scc_place)]) := by simp only [Sh.len, List.length_append, List.length_cons, List.length_nil]; omega
      simp only [eS, e0, G.scc_walk_from__1_b1, G.stack_Stack_scc_place_Len__1, Option.bind_some, decide_eq_true hpos, if_true, popP _ _ _ (show (callL n s1.A cs').length < 1000 by rw [callL_len]; omega)]
      exact q4

theorem comps_end {n : Nat} (hn : n ≤ 64) {f : Nat → Nat → Bool} {s : Ts} (h : Ok n f s) (hc : s.cs = []) (hall : ∀ y, y < n → s.W y ≠ 0) : Sh.sortFirst (compE s) = some (canon n (tog n f)) := by
  have e := tog_eqv n f
  have hos := h.t.idle (rch n f) hc
  have hD : ∀ y, y < n → s.D y = true := fun y hy => by
    cases hd : s.D y with
    | true => rfl
    | false =>
      have := (h.t.oiff y).2 ⟨hall y hy, hd⟩
      rw [hos] at this; simp at this
  have hlt : ∀ c ∈ s.comps, ∀ x ∈ c, x < n := fun c hcm x hx => h.t.lt x (h.t.done x (h.t.cdone c hcm x hx))
  have hself : ∀ c ∈ s.comps, ∃ x, x < n ∧ x ∈ c ∧ c = compL n (tog n f) x := fun c hcm => by
    obtain ⟨x, hx, hm⟩ := h.t.cis c hcm
    refine ⟨x, hlt c hcm x hx, hx, ?_⟩
    have : cl c = cl (compL n (tog n f) x) := by
      refine asc_ext (cl_sorted (h.asc c hcm)) (cl_sorted (comp_sorted x)) fun a => ?_
      rw [mem_cl, mem_cl]
      have : ∀ k, k ∈ c ↔ k ∈ compL n (tog n f) x := fun k => by
        rw [mem_comp, tog_iff, hm k]
        exact ⟨fun q => ⟨hlt c hcm k ((hm k).2 q), q⟩, fun q => q.2⟩
      exact ⟨fun ⟨k, k1, k2⟩ => ⟨k, (this k).1 k1, k2⟩, fun ⟨k, k1, k2⟩ => ⟨k, (this k).2 k1, k2⟩⟩
    exact cl_inj this
  have hfirst : ∀ c ∈ s.comps, ∃ a r, c = a :: r ∧ Sh.first (cl c) = (a : Int) := fun c hcm => by
    obtain ⟨x, _, hx, _⟩ := hself c hcm
    cases c with
    | nil => simp at hx
    | cons a r => exact ⟨a, r, rfl, rfl⟩
  have hnd : ((compE s).map Sh.first).Nodup := by
    unfold compE
    rw [List.map_map]
    refine List.pairwise_map.2 (h.t.cdis.imp_of_mem fun {c d} hcm hdm hcd e => ?_)
    obtain ⟨a, r, rfl, ea⟩ := hfirst c hcm
    obtain ⟨b, q, rfl, eb⟩ := hfirst d hdm
    have e : Sh.first (cl (a :: r)) = Sh.first (cl (b :: q)) := e
    rw [ea, eb] at e
    have : a = b := Int.ofNat_inj.1 e
    subst this
    exact hcd a (List.mem_cons_self ..) (List.mem_cons_self ..)
  have hne : ∀ r ∈ compE s, r ≠ [] := fun r hr => by
    obtain ⟨c, hcm, rfl⟩ := List.mem_map.1 hr
    obtain ⟨a, q, rfl, _⟩ := hfirst c hcm
    simp [cl]
  have hlen : (compE s).length < 4611686018427387904 := by
    have := comps_le h.t
    simp only [compE, List.length_map]; omega
  unfold Sh.sortFirst
  rw [if_pos ⟨hlen, hne, hnd⟩]
  congr 1
  have hp := Sh.fsort_perm (compE s)
  refine canon_of e (fun l hl => ?_) (fun x hx => ?_) ?_
  · obtain ⟨c, hcm, rfl⟩ := List.mem_map.1 (hp.mem_iff.1 hl)
    obtain ⟨x, hx, _, hcx⟩ := hself c hcm
    exact ⟨x, hx, by rw [hcx]⟩
  · obtain ⟨c, hcm, hxc⟩ := h.t.call x (hD x hx)
    obtain ⟨z, hz, _, hcz⟩ := hself c hcm
    have : compL n (tog n f) x = c := by
      rw [hcz] at hxc ⊢
      exact (comp_same e (mem_comp.1 hxc).2).symm
    rw [this]
    exact hp.mem_iff.2 (List.mem_map.2 ⟨c, hcm, rfl⟩)
  · have h1 := Sh.fsort_sorted (compE s)
    have h2 : ((Sh.fsort (compE s)).map Sh.first).Nodup := ((hp.map Sh.first).nodup_iff).2 hnd
    have h3 := List.pairwise_map.1 h2
    exact (h1.and h3).imp fun {a b} ⟨k1, k2⟩ => by
      show Sh.first a < Sh.first b
      have : Sh.first a ≠ Sh.first b := k2
      omega

theorem pComps {n : Nat} (hn : n ≤ 64) (f : Nat → Nat → Bool) : G.scc_Comps (gr n f) = some (canon n (tog n f)) := by
  unfold G.scc_Comps
  rw [graph_Right _ (by simp [rows]; omega), right_rows hn f]
  simp only [Option.bind_some, Bool.not_true, Bool.false_eq_true, if_false]
  rw [mk_ok (by omega) (by omega), mk_ok (by omega) (by omega)]
  have hw1 : w64 ((n : Int) + 1) = ((n + 1 : Nat) : Int) := w64_succ (by omega)
  simp only [Option.bind_some, G.stack_New_scc_place, G.stack_Ints, G.stack_New_int]
  have h0 : Ok n f .start := ⟨Ti.start, fun _ _ h => (by cases h), (by
    show 0 + unm n .start ≤ n
    rw [Nat.zero_add]; exact Nat.le_trans (List.length_filter_le _ _) (by simp)), fun c hcm => by simp [Ts.start] at hcm⟩
  have key := Sh.loop_fam (b := fun (p : (List Int) × (List Int) × (List Bool) × Int × (List G.scc_place) × (List Int) × (List (List Int)) × Int) => G.scc_Comps_b1 (gr n f) p.1 p.2.1 p.2.2.1 p.2.2.2.1 p.2.2.2.2.1 p.2.2.2.2.2.1 p.2.2.2.2.2.2.1 p.2.2.2.2.2.2.2)
    (fun q : Ts × Nat => (wI n q.1.W, wI n q.1.L, arT n q.1.D, (q.1.met : Int), callL n q.1.A q.1.cs, openE q.1, compE q.1, (q.2 : Int))) (fun q => Ok n f q.1 ∧ q.1.cs = [] ∧ (∀ y, y < q.2 → q.1.W y ≠ 0) ∧ q.2 ≤ n) (fun q => n - q.2) (fun r => r = canon n (tog n f)) (i0 := (Ts.start, 0))
    ⟨h0, rfl, fun y hy => by omega, Nat.zero_le _⟩ (fuel_gt (by omega)) (fun ⟨s, v⟩ ⟨h1, h2, h3, h4⟩ => ?_)
  · obtain ⟨r, q1, q2⟩ := key
    rw [← q2, ← q1]
    congr 1
    refine Prod.ext ?_ (Prod.ext ?_ (Prod.ext ?_ rfl))
    · exact arT_zero _
    · exact arT_zero _
    · exact arT_zero _
  · by_cases hv : v < n
    · left
      have hd : (v : Int) < (n : Int) := by omega
      have hvs : w64 ((v : Int) + 1) = ((v + 1 : Nat) : Int) := w64_succ (by omega)
      by_cases hw : s.W v = 0
      · obtain ⟨s', q1, q2, q3, q4, q5⟩ := pFrom hn h1 h2 hv hw
        refine ⟨(s', v + 1), ⟨q1, q2, fun y hy => ?_, hv⟩, by omega, ?_⟩
        · by_cases e : y = v
          · rw [e]; exact q4
          · exact q3 y (h3 y (by omega))
        · have e0 : ((s.W v : Nat) : Int) = 0 := by rw [hw]; rfl
          simp only [G.scc_Comps_b1, decide_eq_true hd, if_true, wI_idx _ hv, Option.bind_some, decide_eq_true e0, hw1, q5, G.scc_Comps_j2, hvs]; rfl
      · refine ⟨(s, v + 1), ⟨h1, h2, fun y hy => ?_, hv⟩, by omega, ?_⟩
        · by_cases e : y = v
          · rw [e]; exact hw
          · exact h3 y (by omega)
        · have e0 : ¬ ((s.W v : Nat) : Int) = 0 := by omega
          simp only [G.scc_Comps_b1, decide_eq_true hd, if_true, wI_idx _ hv, Option.bind_some, decide_eq_false e0, Bool.false_eq_true, if_false, G.scc_Comps_j2, hvs]; rfl
    · right
      have hvn : v = n := by omega
      subst hvn
      have hd : ¬ (v : Int) < (v : Int) := by omega
      refine ⟨_, ?_, rfl⟩
      simp only [G.scc_Comps_b1, decide_eq_false hd, Bool.false_eq_true, if_false, G.scc_Comps_j1, comps_end hn h1 h2 h3, Option.bind_some]; rfl
end Pl
end

section
/- The statements on graphs. -/

namespace Pl
open Go Go.Av

theorem short {l : List (BitVec 64)} (h : ¬ (70 : Int) < Sh.len l) : l.length ≤ 70 := by simp only [len_eq] at h; omega
end Pl
end

section
/- The statements on where ways lead. -/

namespace Pl
open Go Go.Av

end Pl
end

section
/- Which component is whose, and who is on a cycle: the program and the reference. -/
namespace Pl
open Go Go.Av

theorem mem_tk {α : Type} {l : List α} {k : Nat} (hk : k < l.length) {a : α} : a ∈ l.take (k + 1) ↔ a ∈ l.take k ∨ a = l[k] := by
  rw [List.take_succ_eq_append_getElem hk, List.mem_append, List.mem_singleton]
theorem canon_at {n : Nat} {m : Nat → Nat → Bool} (e : Eqv n m) {i : Nat} (hi : i < (canon n m).length) : ∃ h, h < n ∧ h ∈ headsL n m ∧ (canon n m)[i] = cl (compL n m h) ∧ rk n m h = i := by
  have hi' : i < (headsL n m).length := by rwa [canon_len] at hi
  refine ⟨(headsL n m)[i], (mem_heads.1 (List.getElem_mem hi')).1, List.getElem_mem hi', by simp [canon], ?_⟩
  have hh := List.getElem_mem hi'
  have h1 := heads_split hh
  have h2 : hdOf n m (headsL n m)[i] = (headsL n m)[i] := hd_head e hh
  have h3 : (headsL n m)[rk n m (headsL n m)[i]]? = some (headsL n m)[i] := by
    generalize hq : (headsL n m)[i] = q at h1 h2
    unfold rk
    rw [h2, h1, List.getElem?_append_right (Nat.le_refl _), Nat.sub_self]; rfl
  obtain ⟨hj, h4⟩ := List.getElem?_eq_some_iff.1 h3
  have hp := List.pairwise_iff_getElem.1 (heads_sorted (n := n) (m := m))
  rcases Nat.lt_trichotomy (rk n m (headsL n m)[i]) i with c | c | c
  · have := hp _ _ hj hi' c; omega
  · exact c
  · have := hp _ _ hi' hj c; omega
theorem comp_le {n : Nat} {m : Nat → Nat → Bool} {x : Nat} : (compL n m x).length ≤ n := Nat.le_trans (List.length_filter_le _ _) (by simp)
theorem canon_le {n : Nat} {m : Nat → Nat → Bool} : (canon n m).length ≤ n := by rw [canon_len]; exact Nat.le_trans (List.length_filter_le _ _) (by simp)
noncomputable def whichL (n : Nat) (f : Nat → Nat → Bool) : List Int := arT n fun x => (rk n (tog n f) x : Int)
theorem cl_at {l : List Nat} {k : Nat} (hk : k < l.length) : Sh.idx (cl l) (k : Int) = some (l[k] : Int) := by
  rw [idx_at (by rw [cl_len]; exact hk)]; simp [cl]
theorem pWhich {n : Nat} (hn : n ≤ 64) (f : Nat → Nat → Bool) : G.scc_Which (gr n f) = some (whichL n f) := by
  have e := tog_eqv n f
  unfold G.scc_Which
  rw [pComps hn f]
  simp only [Option.bind_some]
  by_cases h0 : n = 0
  · subst h0; rfl
  · have hlen : 0 < (canon n (tog n f)).length := Nat.lt_of_le_of_lt (Nat.zero_le _) (rk_lt e (show 0 < n by omega))
    have h1 : ¬ (Sh.len (canon n (tog n f))) = 0 := by simp only [Sh.len]; omega
    have hcl := canon_le (n := n) (m := tog n f)
    rw [decide_eq_false h1, mk_ok (by omega) (by omega)]
    simp only [Bool.false_eq_true, if_false, Option.bind_some]
    refine run_exit (fun i => (arT n (fun x => if rk n (tog n f) x < i then (rk n (tog n f) x : Int) else 0), (i : Int))) (canon n (tog n f)).length _ (fuel_gt (by omega)) (fun i hi => ?_) ?_ ?_
    · obtain ⟨h, hh, _, hc, hr⟩ := canon_at e hi
      have hcm := comp_le (n := n) (m := tog n f) (x := h)
      simp only [G.scc_Which_b1, dec_lt, hi, decide_true, if_true, idx_at hi, hc, Option.bind_some]
      refine run_exit (fun k => (arT n (fun x => if x ∈ (compL n (tog n f) h).take k then (i : Int) else if rk n (tog n f) x < i then (rk n (tog n f) x : Int) else 0), (k : Int))) (compL n (tog n f) h).length _ (fuel_gt (by omega)) (fun k hk => ?_) ?_ ?_
      · have hkn := (mem_comp.1 (List.getElem_mem hk)).1
        simp only [G.scc_Which_b2, Sh.len, cl_len, dec_lt, hk, decide_true, if_true, cl_at hk, Option.bind_some, arT_idx _ hkn, Sh.next, w64_succ (show k < 9223372036854775807 by omega), arT_set]
        congr 3
        refine arT_ext fun x _ => ?_
        have hm := mem_tk (a := x) hk
        by_cases hx : x = (compL n (tog n f) h)[k]
        · rw [if_pos hx, if_pos (hm.2 (.inr hx))]
        · rw [if_neg hx]
          simp only [hm, hx, or_false]
      · simp only [G.scc_Which_b2, Sh.len, cl_len, dec_lt, Nat.lt_irrefl, decide_false, Bool.false_eq_true, if_false, G.scc_Which_j2, Sh.next, w64_succ (show i < 9223372036854775807 by omega), List.take_length]
        simp only [Sh.exit, Option.map_some]
        congr 4
        refine arT_ext fun x hx => ?_
        have hmx : x ∈ compL n (tog n f) h ↔ rk n (tog n f) x = i := by
          rw [mem_comp, ← rk_iff e hh hx, hr]
          exact ⟨fun q => q.2.symm, fun q => ⟨hx, q.symm⟩⟩
        by_cases hq : rk n (tog n f) x = i
        · rw [if_pos (hmx.2 hq), if_pos (by omega), hq]
        · rw [if_neg (fun q => hq (hmx.1 q))]
          by_cases h2 : rk n (tog n f) x < i
          · rw [if_pos h2, if_pos (by omega)]
          · rw [if_neg h2, if_neg (by omega)]
      · congr 1
    · simp only [G.scc_Which_b1, dec_lt, Nat.lt_irrefl, decide_false, Bool.false_eq_true, if_false, G.scc_Which_j1]
      congr 2
      unfold whichL
      exact arT_ext fun x hx => by rw [if_pos (rk_lt e hx)]
    · congr 1
      rw [arT_zero]
      exact arT_ext fun x _ => by simp
noncomputable def compN (n : Nat) (f : Nat → Nat → Bool) : List (List Nat) := (headsL n (tog n f)).map (compL n (tog n f))
theorem canon_eq (n : Nat) (f : Nat → Nat → Bool) : canon n (tog n f) = (compN n f).map cl := by simp [canon, compN]
theorem flat_facts {n : Nat} {f : Nat → Nat → Bool} (L : List (List Nat)) (hL : L.Sublist (compN n f)) : L.flatten.Nodup ∧ (∀ x ∈ L.flatten, x < n) ∧ L.flatten.length ≤ n := by
  have e := tog_eqv n f
  have h1 : (compN n f).Pairwise fun a b => ∀ x ∈ a, ∀ y ∈ b, x ≠ y := by
    unfold compN
    refine List.pairwise_map.2 ((heads_sorted (n := n) (m := tog n f)).imp_of_mem fun {a b} ha hb hab x hx y hy exy => ?_)
    subst exy
    have h2 := e.trans _ _ _ (mem_comp.1 hx).2 (e.symm _ _ (mem_comp.1 hy).2)
    have h3 := (hd_same e (mem_heads.1 ha).1 (mem_heads.1 hb).1).2 h2
    rw [hd_head e ha, hd_head e hb] at h3
    omega
  have h2 : ∀ l ∈ L, ∃ h, l = compL n (tog n f) h := fun l hl => by
    obtain ⟨h, _, rfl⟩ := List.mem_map.1 (hL.subset hl)
    exact ⟨h, rfl⟩
  have hnd : L.flatten.Nodup := List.pairwise_flatten.2 ⟨fun l hl => by
    obtain ⟨h, rfl⟩ := h2 l hl
    exact (comp_sorted h).imp fun h => Nat.ne_of_lt h, h1.sublist hL⟩
  have hlt : ∀ x ∈ L.flatten, x < n := fun x hx => by
    obtain ⟨l, hl, hxl⟩ := List.mem_flatten.1 hx
    obtain ⟨h, rfl⟩ := h2 l hl
    exact (mem_comp.1 hxl).1
  refine ⟨hnd, hlt, ?_⟩
  have h3 := len_of_cover (n := n) (l := cl L.flatten) (fun a ha => by
    obtain ⟨k, hk, rfl⟩ := mem_cl.1 ha
    have := hlt k hk
    omega) (List.pairwise_map.2 (hnd.imp fun {a b} h e => h (Int.ofNat_inj.1 e)))
  rwa [cl_len] at h3
end Pl
end

section
/- The statements of layer 14, in plain words: each answers true. -/
namespace Pl
open Go Go.Av

noncomputable def hb (n : Nat) (f : Nat → Nat → Bool) (x : Nat) : Nat := ((List.range x).filter (isHd (tog n f))).length
noncomputable def part (n : Nat) (f : Nat → Nat → Bool) (x i : Nat) : List Nat := (List.range x).filter fun y => decide (rk n (tog n f) y = i)
theorem awake14 : G.inquestlaw14_awake = some true := by kernel_rfl
end Pl
end

section
/- The statements of layer 14, in plain words: components and ways. -/
namespace Pl
open Go Go.Av

theorem heads_rk {n : Nat} {m : Nat → Nat → Bool} (e : Eqv n m) {i : Nat} (hi : i < (headsL n m).length) : rk n m (headsL n m)[i] = i := by
  have hi' : i < (canon n m).length := by rw [canon_len]; exact hi
  obtain ⟨h, hh, hm, hc, hr⟩ := canon_at e hi'
  have : (canon n m)[i] = cl (compL n m (headsL n m)[i]) := by simp [canon]
  rw [this] at hc
  have h1 := cl_inj hc
  have h2 := (mem_heads.1 (List.getElem_mem hi)).1
  have h3 : (headsL n m)[i] ∈ compL n m h := by rw [← h1]; exact mem_comp.2 ⟨h2, e.refl _ h2⟩
  exact ((rk_iff e h2 hh).2 (e.symm _ _ (mem_comp.1 h3).2)).trans hr
theorem flat_all (n : Nat) (f : Nat → Nat → Bool) : (compN n f).flatten.length = n := by
  have e := tog_eqv n f
  obtain ⟨h1, h2, _⟩ := flat_facts (compN n f) (List.Sublist.refl _)
  have hp : (compN n f).flatten.Perm (List.range n) := (List.perm_ext_iff_of_nodup h1 List.nodup_range).2 fun x => by
    rw [List.mem_range]
    refine ⟨h2 x, fun hx => List.mem_flatten.2 ?_⟩
    obtain ⟨_, _, h3, h4, _, _⟩ := hd_spec e hx
    exact ⟨_, List.mem_map.2 ⟨_, h3, rfl⟩, mem_comp.2 ⟨hx, e.symm _ _ h4⟩⟩
  rw [hp.length_eq]; simp
theorem SccParts (g : G.graph_Graph) : G.inquestlaw14_SccParts g = some true := by
  unfold G.inquestlaw14_SccParts
  simp only [awake14, Option.bind_some, Bool.not_true, Bool.false_eq_true, if_false]
  by_cases h70 : (70 : Int) < Sh.len g.Rows
  · simp only [h70, decide_true, if_true, G.inquestlaw14_SccParts_j1]
  have hs := short h70
  have hl : g.Rows.length < 9223372036854775808 := by omega
  simp only [h70, decide_false, Bool.false_eq_true, if_false, graph_Right g hl, Option.bind_some]
  cases hr : rightB g.N g.Rows with
  | false => rfl
  | true =>
    obtain ⟨n, f, hn, rfl⟩ := right_g hr
    have e := tog_eqv n f
    have hwl : ¬ (Sh.len (whichL n f)) ≠ (n : Int) := fun h => h (by simp [Sh.len, whichL])
    simp only [Bool.not_true, G.inquestlaw14_SccParts_j1, Bool.false_eq_true, if_false, pComps hn f, pWhich hn f, Option.bind_some, decide_eq_false hwl]
    have hcl := canon_le (n := n) (m := tog n f)
    have hclen := canon_len (n := n) (m := tog n f)
    have hcN : (compN n f).length = (canon n (tog n f)).length := by rw [canon_eq]; simp
    have hfl : ∀ i, ((compN n f).take i).flatten.length ≤ n := fun i => (flat_facts _ (List.take_sublist _ _)).2.2
    refine run_exit (fun i => ((((compN n f).take i).flatten.length : Int), (i : Int))) (canon n (tog n f)).length _ (fuel_gt (by omega)) (fun i hi => ?_) ?_ rfl
    · have hih : i < (headsL n (tog n f)).length := by omega
      have hhn := (mem_heads.1 (List.getElem_mem hih)).1
      have hrk := heads_rk e hih
      have hrow : (canon n (tog n f))[i] = cl (compL n (tog n f) (headsL n (tog n f))[i]) := by simp [canon]
      have hrowN : (compN n f)[i]'(by omega) = compL n (tog n f) (headsL n (tog n f))[i] := by simp [compN]
      obtain ⟨r, hr1, _⟩ := hd_spec e hhn
      rw [hd_head e (List.getElem_mem hih)] at hr1
      have hcs := comp_sorted (n := n) (m := tog n f) (headsL n (tog n f))[i]
      have hcm := comp_le (n := n) (m := tog n f) (x := (headsL n (tog n f))[i])
      have hfi := hfl i
      have hfi1 := hfl (i + 1)
      have hsum : ((compN n f).take (i + 1)).flatten.length = ((compN n f).take i).flatten.length + (compL n (tog n f) (headsL n (tog n f))[i]).length := by
        rw [List.take_succ_eq_append_getElem (show i < (compN n f).length by omega), hrowN]; simp
      have hmem' : ∀ y ∈ compL n (tog n f) (headsL n (tog n f))[i], y < n ∧ rk n (tog n f) y = i := fun y hy => by
        have hm := mem_comp.1 hy
        exact ⟨hm.1, ((rk_iff e hhn hm.1).2 hm.2).symm.trans hrk⟩
      generalize compL n (tog n f) (headsL n (tog n f))[i] = c at hrow hr1 hcs hcm hsum hmem'
      have hne : ¬ (Sh.len (cl c)) = 0 := by simp only [Sh.len, cl_len, hr1, List.length_cons]; omega
      have hmem : ∀ k (hk : k < c.length), c[k] < n ∧ rk n (tog n f) c[k] = i := fun k hk => hmem' _ (List.getElem_mem hk)
      simp only [G.inquestlaw14_SccParts_b1, dec_lt, hi, decide_true, if_true, idx_at hi, hrow, Option.bind_some, decide_eq_false hne, Bool.false_eq_true, if_false]
      refine run_exit (fun k => (((((compN n f).take i).flatten.length + k : Nat) : Int), (k : Int))) c.length _ (fuel_gt (by omega)) (fun k hk => ?_) ?_ (by simp)
      · obtain ⟨hkn, hkr⟩ := hmem k hk
        have hw : Sh.idx (whichL n f) (c[k] : Int) = some (i : Int) := by rw [show Sh.idx (whichL n f) (c[k] : Int) = some (rk n (tog n f) c[k] : Int) from arT_idx _ hkn, hkr]
        have h1 : ¬ (c[k] : Int) < 0 := by omega
        have h2 : ¬ (n : Int) ≤ (c[k] : Int) := by omega
        have h3 : ¬ (i : Int) ≠ (i : Int) := fun h => h rfl
        have hj : ∀ v, v = false → G.inquestlaw14_SccParts_j6 (whichL n f) (i : Int) ((((compN n f).take i).flatten.length + k : Nat) : Int) (k : Int) (c[k] : Int) v = some (.inl (((((compN n f).take i).flatten.length + (k + 1) : Nat) : Int), ((k + 1 : Nat) : Int))) := fun v hv => by
          subst hv
          simp only [G.inquestlaw14_SccParts_j6, Bool.false_eq_true, if_false, hw, Option.bind_some, decide_eq_false h3, Sh.next, w64_succ (show k < 9223372036854775807 by omega), w64_succ (show ((compN n f).take i).flatten.length + k < 9223372036854775807 by omega)]; rfl
        simp only [G.inquestlaw14_SccParts_b2, idx_at hi, hrow, Option.bind_some, Sh.len, cl_len, dec_lt, hk, decide_true, if_true, cl_at hk, decide_eq_false h1, decide_eq_false h2, Bool.false_eq_true, if_false]
        by_cases hk0 : (0 : Int) < (k : Int)
        · have hkm : w64 ((k : Int) - 1) = ((k - 1 : Nat) : Int) := by rw [w64_id (by omega) (by omega)]; omega
          have hk1 : k - 1 < c.length := by omega
          have hlt := List.pairwise_iff_getElem.1 hcs (k - 1) k hk1 hk (by omega)
          have h4 : ¬ (c[k] : Int) ≤ (c[k - 1] : Int) := by omega
          rw [decide_eq_true hk0]
          simp only [if_true, hkm, cl_at hk1, Option.bind_some]
          exact hj _ (decide_eq_false h4)
        · rw [decide_eq_false hk0]
          simp only [Bool.false_eq_true, if_false]
          exact hj _ rfl
      · simp only [G.inquestlaw14_SccParts_b2, idx_at hi, hrow, Option.bind_some, Sh.len, cl_len, dec_lt, Nat.lt_irrefl, decide_false, Bool.false_eq_true, if_false, G.inquestlaw14_SccParts_j4, ← hsum]
        have hj : ∀ v, v = false → G.inquestlaw14_SccParts_j5 (i : Int) ((((compN n f).take (i + 1)).flatten.length : Nat) : Int) v = some (.inl (((((compN n f).take (i + 1)).flatten.length : Nat) : Int), ((i + 1 : Nat) : Int))) := fun v hv => by
          subst hv
          simp only [G.inquestlaw14_SccParts_j5, Bool.false_eq_true, if_false, G.inquestlaw14_SccParts_j3, Sh.next, w64_succ (show i < 9223372036854775807 by omega)]
        by_cases hi0 : (0 : Int) < (i : Int)
        · have him : w64 ((i : Int) - 1) = ((i - 1 : Nat) : Int) := by rw [w64_id (by omega) (by omega)]; omega
          have hi1 : i - 1 < (canon n (tog n f)).length := by omega
          have hih1 : i - 1 < (headsL n (tog n f)).length := by omega
          have hrow1 : (canon n (tog n f))[i - 1] = cl (compL n (tog n f) (headsL n (tog n f))[i - 1]) := by simp [canon]
          obtain ⟨r', hr1', _⟩ := hd_spec e (mem_heads.1 (List.getElem_mem hih1)).1
          rw [hd_head e (List.getElem_mem hih1)] at hr1'
          have hlt := List.pairwise_iff_getElem.1 (heads_sorted (n := n) (m := tog n f)) (i - 1) i hih1 hih (by omega)
          have h4 : ¬ (((headsL n (tog n f))[i] : Nat) : Int) ≤ (((headsL n (tog n f))[i - 1] : Nat) : Int) := by omega
          have hi2 : Sh.idx (cl c) 0 = some (((headsL n (tog n f))[i] : Nat) : Int) := by rw [hr1]; rfl
          have hi3 : Sh.idx (cl (compL n (tog n f) (headsL n (tog n f))[i - 1])) 0 = some (((headsL n (tog n f))[i - 1] : Nat) : Int) := by rw [hr1']; rfl
          rw [decide_eq_true hi0]
          simp only [if_true, him, idx_at hi1, hrow1, Option.bind_some, hi2, hi3]
          rw [hj _ (decide_eq_false h4)]
        · rw [decide_eq_false hi0]
          simp only [Bool.false_eq_true, if_false]
          rw [hj _ rfl]
    · have h1 : (((compN n f).take (canon n (tog n f)).length).flatten.length : Nat) = n := by rw [← hcN, List.take_length, flat_all]
      simp only [G.inquestlaw14_SccParts_b1, dec_lt, Nat.lt_irrefl, decide_false, Bool.false_eq_true, if_false, G.inquestlaw14_SccParts_j2, h1, decide_true]
end Pl
end
