/- What a proof sees of a run, and the rules by which it goes through a text. -/
import Derived.Test.YtcoegkcdabpijaaBase
import Derived.Laws.StructEq
import Derived.Sort.Grow
import Derived.Lib.SlicesCompact
import Derived.KernelRfl
import Derived.RecoverIn
import Derived.Carry
import Derived.ProofKit
import Derived.OpenShut
import Derived.Lib.LaidTab
set_option linter.unusedSimpArgs false
set_option linter.unusedVariables false
section
/- Regions in whatever order is drawn: what writes stands where it must; what only computes may stand elsewhere. -/
namespace Go.Av
open Go.RowKit (Below)

abbrev Flags := List (Bool × Bool)
def Flags.calm (fs : Flags) (i : Nat) : Bool := (fs.getD i (false, true)).1 && !(fs.getD i (false, true)).2
def Flags.loud (fs : Flags) (i : Nat) : Bool := (fs.getD i (false, true)).2

def calmB (md : Region.Mode) (ops : Array Oper) (fs : Flags) (listed : Array Bool) (i : Nat) : Bool :=
  (List.range ops.size).all fun j => j == i || listed.getD j true || match ops[j]? with
    | some oj => oj.after.any (fun e => Region.binds md e && e.on == i) || ((!fs.loud j || fs.calm i) && (!fs.loud i || fs.calm j))
    | none => true

def behindL (md : Region.Mode) (ops : Array Oper) (i : Nat) : Nat → List Bool
  | 0 => []
  | k + 1 => (behindL md ops i k) ++ [match ops[k]? with
    | some o => o.after.any fun e => Region.binds md e && (e.on == i || (behindL md ops i k).getD e.on false)
    | none => false]
def calmT (md : Region.Mode) (ops : Array Oper) (fs : Flags) (listed : Array Bool) (i : Nat) : Bool :=
  (fun B : List Bool => (List.range ops.size).all fun j => j == i || (if listed.getD j true then !B.getD j false else B.getD j false || ((!fs.loud j || fs.calm i) && (!fs.loud i || fs.calm j)))) (behindL md ops i ops.size)

def lexH (md : Region.Mode) (ops : Array Oper) (fs : Flags) (stop : Option Nat) : Nat → Nat → Array Bool → Bool
  | 0, _, listed => (Region.ready md ops listed).isEmpty
  | f + 1, k, listed => stop == some k || ((match ops[k]? with
      | some _ => decide (Region.ready md ops listed = [k]) || ((Region.ready md ops listed).contains k && Region.free md ops listed k && (calmB md ops fs listed k || calmT md ops fs listed k))
      | none => false) && lexH md ops fs stop f (k + 1) (listed.setIfInBounds k true))

def drawB (fs : Flags) (stop : Option Nat) (ops : Array Oper) : Bool := lexH .any ops fs stop ops.size 0 (Array.replicate ops.size false)
def lst (n : Nat) : Nat → Array Bool
  | 0 => Array.replicate n false
  | k + 1 => (lst n k).setIfInBounds k true

section
variable {P : Program} {W0 : Base} {N : Nat} {C : Ctx} {fr : Fr} {a : Act} {H : Heap} {ops : Array Oper} {md : Region.Mode} {fs : Flags}

def YieldsH (P : Program) (W0 : Base) (ops : Array Oper) (fs : Flags) (i : Nat) (o : Oper) (r : AV) (H1 : Heap) (fr : Fr) (H : Heap) : Prop :=
  (wantA ops fr o = some true ∧ AOp P W0 o fr H r H1 ∧ (fs.loud i = false → H1 = H) ∧ (fs.calm i = true → ∀ H', AOp P W0 o fr H' r H')) ∨ (wantA ops fr o = some false ∧ r = .tuple [] ∧ H1 = H)

theorem YieldsH.quiet {i : Nat} {o : Oper} {r : AV} {H1 : Heap} (h : YieldsH P W0 ops fs i o r H1 fr H) (hq : fs.loud i = false) : H1 = H := by
  rcases h with ⟨_, _, h, _⟩ | ⟨_, _, h⟩
  · exact h hq
  · exact h

theorem calm_quiet {i : Nat} (h : fs.calm i = true) : fs.loud i = false := by
  simp only [Flags.calm, Bool.and_eq_true, Bool.not_eq_true'] at h
  exact h.2

theorem YieldsH.dry {i : Nat} {o : Oper} {r : AV} {H1 : Heap} (h : YieldsH P W0 ops fs i o r H1 fr H) (hd : fs.calm i = true) (H' : Heap) : YieldsH P W0 ops fs i o r H' fr H' := by
  rcases h with ⟨h1, _, _, h2⟩ | ⟨h1, h2, _⟩
  · exact .inl ⟨h1, h2 hd H', fun _ => rfl, h2⟩
  · exact .inr ⟨h1, h2, rfl⟩

theorem aop_put {o : Oper} {r : AV} {H1 : Heap} {dst : Option Nat} {s : AV} (hd : ∀ d, dst = some d → d ∉ o.looksAt ops) : AOp P W0 o (fr.put dst s) H r H1 ↔ AOp P W0 o fr H r H1 := by
  have hR : ∀ C (a : Act) (x : Operand), x ∈ o.op.operands → (RepO C (fr.put dst s) a x ↔ RepO C fr a x) := fun C a x hx => by
    unfold RepO
    constructor
    · intro h t ht av hav
      subst ht
      exact h t rfl av (by rw [Fr.put_other (fun he => hd t he (mem_looksAt_tmp hx))]; exact hav)
    · intro h t ht av hav
      subst ht
      rw [Fr.put_other (fun he => hd t he (mem_looksAt_tmp hx))] at hav
      exact h t rfl av hav
  unfold AOp
  constructor
  · exact fun h2 C a hI hH hx => h2 C a hI hH (fun x hm => (hR C a x hm).2 (hx x hm))
  · exact fun h2 C a hI hH hx => h2 C a hI hH (fun x hm => (hR C a x hm).1 (hx x hm))

theorem wantA_put {o : Oper} {dst : Option Nat} {s : AV} (hd : ∀ d, dst = some d → d ∉ o.looksAt ops) : wantA ops (fr.put dst s) o = wantA ops fr o := by
  unfold wantA
  cases hg : o.guard with
  | none => rfl
  | some p =>
    obtain ⟨j, b⟩ := p
    simp only
    cases hj : (ops[j]?).bind (·.dst) with
    | none => rfl
    | some d =>
      simp only
      rw [Fr.put_other]
      intro he
      exact hd d he (by unfold Oper.looksAt; exact List.mem_append_right _ (by simp [hg, hj]))

theorem YieldsH.put {i : Nat} {o : Oper} {r : AV} {H1 : Heap} {dst : Option Nat} {s : AV} (hd : ∀ d, dst = some d → d ∉ o.looksAt ops) : YieldsH P W0 ops fs i o r H1 (fr.put dst s) H ↔ YieldsH P W0 ops fs i o r H1 fr H := by
  unfold YieldsH
  rw [wantA_put hd, aop_put hd]
  have : (∀ H', AOp P W0 o (fr.put dst s) H' r H') ↔ ∀ H', AOp P W0 o fr H' r H' := forall_congr' fun H' => aop_put hd
  rw [this]

def AStH (P : Program) (W0 : Base) (ops : Array Oper) (fs : Flags) (i : Nat) (K : Fr → Heap → Prop) (fr : Fr) (H : Heap) : Prop :=
  match ops[i]? with
  | none => K fr H
  | some o => ∃ r H1, YieldsH P W0 ops fs i o r H1 fr H ∧ K (fr.put o.dst r) H1

theorem AStH.of {i : Nat} {o : Oper} {r : AV} {H1 : Heap} {K : Fr → Heap → Prop} (hi : ops[i]? = some o) (hy : YieldsH P W0 ops fs i o r H1 fr H) (h : K (fr.put o.dst r) H1) : AStH P W0 ops fs i K fr H := by
  unfold AStH
  simp only [hi]
  exact ⟨r, H1, hy, h⟩

def AAnyH (P : Program) (W0 : Base) (md : Region.Mode) (ops : Array Oper) (fs : Flags) (L : Fr → Heap → Prop) : Nat → Array Bool → Fr → Heap → Prop
  | 0, listed, fr, H => Region.ready md ops listed = [] ∧ L fr H
  | f + 1, listed, fr, H => Region.ready md ops listed ≠ [] ∧ ∀ i ∈ Region.ready md ops listed, AStH P W0 ops fs i (AAnyH P W0 md ops fs L f (listed.setIfInBounds i true)) fr H

theorem wantA_mono {o : Oper} {fr0 : Fr} {b : Bool} (hk : ∀ t x, fr0 t = some x → fr t = some x) (h : wantA ops fr0 o = some b) : wantA ops fr o = some b := by
  unfold wantA at *
  split at h
  · assumption
  · split at h
    · split at h
      · rename_i hc; simp only [hk _ _ hc]; exact h
      · rename_i hc; simp only [hk _ _ hc]; exact h
      · cases h
    · cases h

theorem AOp.mono {o : Oper} {fr0 : Fr} {r : AV} {H1 : Heap} (hk : ∀ t x, fr0 t = some x → fr t = some x) (h : AOp P W0 o fr0 H r H1) : AOp P W0 o fr H r H1 :=
  fun C a hI hH hx => h C a hI hH (fun x hm t ht av hav => hx x hm t ht av (hk t av hav))

theorem YieldsH.mono {i : Nat} {o : Oper} {fr0 : Fr} {r : AV} {H1 : Heap} (hk : ∀ t x, fr0 t = some x → fr t = some x) (h : YieldsH P W0 ops fs i o r H1 fr0 H) : YieldsH P W0 ops fs i o r H1 fr H := by
  rcases h with ⟨h1, h2, h3, h4⟩ | ⟨h1, h2⟩
  · exact .inl ⟨wantA_mono hk h1, h2.mono hk, h3, fun hd H' => (h4 hd H').mono hk⟩
  · exact .inr ⟨wantA_mono hk h1, h2⟩

theorem put_mono {fr0 : Fr} {dst : Option Nat} {r : AV} (hk : ∀ t x, fr0 t = some x → fr t = some x) : ∀ t x, fr0.put dst r t = some x → fr.put dst r t = some x := by
  cases dst with
  | none => exact hk
  | some d =>
    intro t x h
    simp only [Fr.put] at *
    split at h
    · rename_i ht; rw [if_pos ht]; exact h
    · rename_i ht; rw [if_neg ht]; exact hk t x h

theorem AAnyH.mono {L : Fr → Heap → Prop} (hL : ∀ fr0 fr H, (∀ t x, fr0 t = some x → fr t = some x) → L fr0 H → L fr H) : ∀ (f : Nat) (listed : Array Bool) (fr0 fr : Fr) (H : Heap), (∀ t x, fr0 t = some x → fr t = some x) → AAnyH P W0 md ops fs L f listed fr0 H → AAnyH P W0 md ops fs L f listed fr H
  | 0, _, _, _, _, hk, h => ⟨h.1, hL _ _ _ hk h.2⟩
  | f + 1, listed, fr0, fr, H, hk, h => ⟨h.1, fun i hi => by
    have h1 := h.2 i hi
    unfold AStH at *
    split
    · rename_i ho; simp only [ho] at h1; exact AAnyH.mono hL f _ _ _ _ hk h1
    · rename_i o ho
      simp only [ho] at h1
      obtain ⟨r, H1, hy, hK⟩ := h1
      exact ⟨r, H1, hy.mono hk, AAnyH.mono hL f _ _ _ _ (put_mono hk) hK⟩⟩

theorem AAnyH_first {i : Nat} {oi : Oper} {v : AV} {L : Fr → Heap → Prop} (B B' : Nat → Bool) (hBB : ∀ j, B' j = true → B j = true)
    (hB : ∀ j oj, ops[j]? = some oj → B j = true → ∃ e ∈ oj.after, Region.binds md e = true ∧ (e.on = i ∨ B' e.on = true)) (hi : ops[i]? = some oi) :
    ∀ (f : Nat) (listed : Array Bool) (fr : Fr) (H H1 : Heap), (∀ j, B' j = true → listed.getD j true = false) →
      (∀ j oj, ops[j]? = some oj → j ≠ i → listed.getD j true = false → B j = false → oi.apart ops oj = true ∧ (fs.loud j = true → fs.calm i = true) ∧ (fs.loud i = true → fs.calm j = true)) →
      i ∈ Region.ready md ops listed → YieldsH P W0 ops fs i oi v H1 fr H →
      AAnyH P W0 md ops fs L f (listed.setIfInBounds i true) (fr.put oi.dst v) H1 → AAnyH P W0 md ops fs L (f + 1) listed fr H := by
  intro f
  induction f with
  | zero =>
    intro listed fr H H1 _ _ hr hy HL
    refine ⟨fun h => (by rw [h] at hr; cases hr), fun j hjr => ?_⟩
    by_cases hji : j = i
    · subst hji; exact .of hi hy HL
    · have h1 := ready_mono hjr hji
      rw [HL.1] at h1; cases h1
  | succ f ih =>
    intro listed fr H H1 hBl hfree hr hy HL
    have hun := (mem_ready.1 hr).1
    refine ⟨fun h => (by rw [h] at hr; cases hr), fun j hjr => ?_⟩
    by_cases hji : j = i
    · subst hji; exact .of hi hy HL
    · have h1 := HL.2 j (ready_mono hjr hji)
      obtain ⟨hjun, oj, hoj, hall⟩ := mem_ready.1 hjr
      have hnot : B j = false := by
        cases hbj : B j with
        | false => rfl
        | true =>
          obtain ⟨e, he, hb, heq⟩ := hB j oj hoj hbj
          have h2 := hall e he hb
          rcases heq with heq | heq
          · rw [heq, getD_both hun] at h2
            cases h2
          · rw [getD_both (hBl _ heq)] at h2
            cases h2
      have hBl2 : ∀ k, B' k = true → (listed.setIfInBounds j true).getD k true = false := fun k hk => by
        have hjk : j ≠ k := fun e => by subst e; rw [hBB _ hk] at hnot; cases hnot
        rw [getD_set_ne true hjk]; exact hBl k hk
      obtain ⟨hap, hdr, hdr2⟩ := hfree j oj hoj hji hjun hnot
      obtain ⟨a1, a2, a3⟩ := Oper.apart_spec hap
      unfold AStH at h1
      simp only [hoj] at h1
      obtain ⟨s, H2, hs, hK⟩ := h1
      rw [YieldsH.put a1] at hs
      have rest : ∀ k ok, ops[k]? = some ok → k ≠ i → (listed.setIfInBounds j true).getD k true = false → B k = false → oi.apart ops ok = true ∧ (fs.loud k = true → fs.calm i = true) ∧ (fs.loud i = true → fs.calm k = true) := fun k ok hk hki hku hno => by
        refine hfree k ok hk hki ?_ hno
        by_cases hjk : j = k
        · subst hjk; exact hjun
        · rw [getD_set_ne true hjk] at hku; exact hku
      cases hli : fs.loud i with
      | true =>
        -- what turns the heap stays where it is; the other one does the same in any heap
        have hcj := hdr2 hli
        have hH2 := hs.quiet (calm_quiet hcj)
        subst hH2
        refine .of hoj (hs.dry hcj H) (ih (listed.setIfInBounds j true) (fr.put oj.dst s) H H2 hBl2 rest (ready_mono hr (Ne.symm hji)) ((YieldsH.put a3).2 hy) ?_)
        rw [Array.setIfInBounds_comm _ _ hji, ← Fr.put_comm fr v s a2]
        exact hK
      | false =>
        have hH1 := hy.quiet hli
        subst hH1
        have hy' : YieldsH P W0 ops fs i oi v H2 fr H2 := by
          cases hl : fs.loud j with
          | true => exact hy.dry (hdr hl) H2
          | false => rw [hs.quiet hl]; exact hy
        refine .of hoj hs (ih (listed.setIfInBounds j true) (fr.put oj.dst s) H2 H2 hBl2 rest (ready_mono hr (Ne.symm hji)) ((YieldsH.put a3).2 hy') ?_)
        rw [Array.setIfInBounds_comm _ _ hji, ← Fr.put_comm fr v s a2]
        exact hK

inductive ARunH (P : Program) (W0 : Base) (ops : Array Oper) (fs : Flags) (stop : Option Nat) (L : Fr → Heap → Prop) : Nat → List Oper → Fr → Heap → Prop
  | nil (k : Nat) (fr : Fr) (H : Heap) : L fr H → ARunH P W0 ops fs stop L k [] fr H
  | op {k : Nat} {o : Oper} {rest : List Oper} {fr : Fr} {H H1 : Heap} {r : AV} : (stop == some k) = false → YieldsH P W0 ops fs k o r H1 fr H → ARunH P W0 ops fs stop L (k + 1) rest (fr.put o.dst r) H1 → ARunH P W0 ops fs stop L k (o :: rest) fr H
  | drop {k : Nat} {l : List Oper} {fr fr0 : Fr} {H : Heap} : (∀ t x, fr0 t = some x → fr t = some x) → ARunH P W0 ops fs stop L k l fr0 H → ARunH P W0 ops fs stop L k l fr H
  | fork {k : Nat} {l : List Oper} {fr : Fr} {H : Heap} : AAnyH P W0 .any ops fs L l.length (lst ops.size k) fr H → ARunH P W0 ops fs stop L k l fr H

theorem calm_spec {i : Nat} {listed : Array Bool} (h : calmB md ops fs listed i = true) (j : Nat) (oj : Oper)
    (hj : ops[j]? = some oj) (hne : j ≠ i) (hun : listed.getD j true = false) (hno : ∀ e ∈ oj.after, Region.binds md e = true → e.on ≠ i) : (fs.loud j = true → fs.calm i = true) ∧ (fs.loud i = true → fs.calm j = true) := by
  simp only [calmB, List.all_eq_true, List.mem_range] at h
  have h1 := h j (Array.getElem?_eq_some_iff.1 hj).1
  simp only [hj, Bool.or_eq_true, beq_iff_eq, hne, false_or, hun, Bool.false_eq_true] at h1
  rcases h1 with h1 | h1
  · obtain ⟨e, he, hb⟩ := Array.any_eq_true'.1 h1
    simp only [Bool.and_eq_true, beq_iff_eq] at hb
    exact absurd hb.2 (hno e he hb.1)
  · simp only [Bool.and_eq_true, Bool.or_eq_true, Bool.not_eq_true'] at h1
    refine ⟨fun h => ?_, fun h => ?_⟩
    · rcases h1.1 with h2 | h2
      · rw [h] at h2; cases h2
      · exact h2
    · rcases h1.2 with h2 | h2
      · rw [h] at h2; cases h2
      · exact h2

def direct (md : Region.Mode) (ops : Array Oper) (i j : Nat) : Bool := match ops[j]? with
  | some oj => oj.after.any fun e => Region.binds md e && e.on == i
  | none => false
theorem direct_no {i j : Nat} {oj : Oper} (hj : ops[j]? = some oj) (h : direct md ops i j = false) : ∀ e ∈ oj.after, Region.binds md e = true → e.on ≠ i := by
  unfold direct at h
  simp only [hj] at h
  intro e he hb heq
  have : (oj.after.any fun e => Region.binds md e && e.on == i) = true := Array.any_eq_true'.2 ⟨e, he, by simp [hb, heq]⟩
  rw [h] at this; cases this
theorem direct_is {i j : Nat} {oj : Oper} (hj : ops[j]? = some oj) (h : direct md ops i j = true) : ∃ e ∈ oj.after, Region.binds md e = true ∧ e.on = i := by
  unfold direct at h
  simp only [hj] at h
  obtain ⟨e, he, hb⟩ := Array.any_eq_true'.1 h
  simp only [Bool.and_eq_true, beq_iff_eq] at hb
  exact ⟨e, he, hb.1, hb.2⟩
theorem behind_len (i : Nat) : ∀ k, (behindL md ops i k).length = k
  | 0 => rfl
  | k + 1 => by simp [behindL, behind_len i k]
theorem behind_at (i : Nat) : ∀ k j, j < k → (behindL md ops i k).getD j false = (behindL md ops i (j + 1)).getD j false := by
  intro k
  induction k with
  | zero => intro j h; omega
  | succ k ih =>
    intro j h
    by_cases hj : j = k
    · subst hj; rfl
    · rw [← ih j (by omega)]
      have hl := behind_len (md := md) (ops := ops) i k
      simp only [behindL, List.getD]
      rw [List.getElem?_append_left (by omega)]
theorem behind_self (i j : Nat) {oj : Oper} (hj : ops[j]? = some oj) : (behindL md ops i (j + 1)).getD j false = oj.after.any fun e => Region.binds md e && (e.on == i || (behindL md ops i j).getD e.on false) := by
  have hl := behind_len (md := md) (ops := ops) i j
  simp only [behindL, hj, List.getD]
  rw [List.getElem?_append_right (by omega), hl]
  simp
theorem behind_is {i j : Nat} {oj : Oper} (hj : ops[j]? = some oj) (h : (behindL md ops i ops.size).getD j false = true) : ∃ e ∈ oj.after, Region.binds md e = true ∧ (e.on = i ∨ (behindL md ops i ops.size).getD e.on false = true) := by
  have hlt : j < ops.size := (Array.getElem?_eq_some_iff.1 hj).1
  rw [behind_at i _ j hlt, behind_self i j hj] at h
  obtain ⟨e, he, hb⟩ := Array.any_eq_true'.1 h
  simp only [Bool.and_eq_true, Bool.or_eq_true, beq_iff_eq] at hb
  refine ⟨e, he, hb.1, hb.2.imp id fun h2 => ?_⟩
  have hej : e.on < j := by
    rcases Nat.lt_or_ge e.on j with h3 | h3
    · exact h3
    · have hl := behind_len (md := md) (ops := ops) i j
      simp only [List.getD] at h2
      rw [List.getElem?_eq_none (by omega)] at h2
      cases h2
  rw [behind_at i _ _ hej] at h2
  rw [behind_at i _ _ (show e.on < ops.size by omega)]
  exact h2
theorem behind_direct {i j : Nat} {oj : Oper} (hj : ops[j]? = some oj) (h : (behindL md ops i ops.size).getD j false = false) : ∀ e ∈ oj.after, Region.binds md e = true → e.on ≠ i := by
  have hlt : j < ops.size := (Array.getElem?_eq_some_iff.1 hj).1
  rw [behind_at i _ j hlt, behind_self i j hj] at h
  intro e he hb heq
  have : (oj.after.any fun e => Region.binds md e && (e.on == i || (behindL md ops i j).getD e.on false)) = true := Array.any_eq_true'.2 ⟨e, he, by simp [hb, heq]⟩
  rw [h] at this; cases this
theorem calmT_spec {i : Nat} {listed : Array Bool} (h : calmT md ops fs listed i = true) : (∀ j, (behindL md ops i ops.size).getD j false = true → j = i ∨ listed.getD j true = false) ∧
    ∀ j oj, ops[j]? = some oj → j ≠ i → listed.getD j true = false → (behindL md ops i ops.size).getD j false = false → (fs.loud j = true → fs.calm i = true) ∧ (fs.loud i = true → fs.calm j = true) := by
  simp only [calmT, List.all_eq_true, List.mem_range] at h
  constructor
  · intro j hj
    have hlt : j < ops.size := by
      rcases Nat.lt_or_ge j ops.size with h3 | h3
      · exact h3
      · have hl := behind_len (md := md) (ops := ops) i ops.size
        simp only [List.getD] at hj
        rw [List.getElem?_eq_none (by omega)] at hj
        cases hj
    have h1 := h j hlt
    rw [hj] at h1
    simp only [Bool.or_eq_true, beq_iff_eq] at h1
    rcases h1 with h1 | h1
    · exact .inl h1
    · right
      cases hl : listed.getD j true with
      | false => rfl
      | true => rw [hl] at h1; simp at h1
  · intro j oj hj hne hl hb
    have h1 := h j (Array.getElem?_eq_some_iff.1 hj).1
    rw [hl, hb] at h1
    simp only [Bool.or_eq_true, beq_iff_eq, hne, false_or, Bool.false_eq_true, if_false, Bool.and_eq_true, Bool.not_eq_true'] at h1
    refine ⟨fun h => ?_, fun h => ?_⟩
    · rcases h1.1 with h2 | h2
      · rw [h] at h2; cases h2
      · exact h2
    · rcases h1.2 with h2 | h2
      · rw [h] at h2; cases h2
      · exact h2

theorem AAnyH_lex {L : Fr → Heap → Prop} {stop : Option Nat} (hL : ∀ fr0 fr H, (∀ t x, fr0 t = some x → fr t = some x) → L fr0 H → L fr H) {k : Nat} {l : List Oper} {fr : Fr} {H : Heap} (h : ARunH P W0 ops fs stop L k l fr H) : (∀ j, j < l.length → l[j]? = ops[k + j]?) → lexH .any ops fs stop l.length k (lst ops.size k) = true →
      AAnyH P W0 .any ops fs L l.length (lst ops.size k) fr H := by
  induction h with
  | nil k fr H hQ => intro _ hc; exact ⟨by simpa [lexH] using hc, hQ⟩
  | drop hk _ ih => intro hl hc; exact AAnyH.mono hL _ _ _ _ _ hk (ih hl hc)
  | fork h => intro _ _; exact h
  | @op k o l fr H H1 r hs hy h' ih =>
    intro hl hc
    have h0 : ops[k]? = some o := by simpa using (hl 0 (by simp)).symm
    simp only [List.length_cons, lexH, h0, hs, Bool.false_or, Bool.and_eq_true] at hc
    obtain ⟨hc1, hc2⟩ := hc
    have rest := ih (fun j hjl => by have := hl (j + 1) (by simp; omega); simpa [Nat.add_assoc, Nat.add_comm 1 j] using this) hc2
    simp only [Bool.or_eq_true, decide_eq_true_eq, Bool.and_eq_true] at hc1
    rcases hc1 with hc1 | ⟨⟨g1, g2⟩, g3⟩
    · refine ⟨fun he => (by rw [hc1] at he; cases he), fun j hj => ?_⟩
      rw [hc1] at hj
      have : j = k := by simpa using hj
      subst this
      exact .of h0 hy rest
    · have hr : k ∈ Region.ready .any ops (lst ops.size k) := by simpa using g1
      have hun := (mem_ready.1 hr).1
      rcases g3 with g3 | g3
      · exact AAnyH_first (direct .any ops k) (fun _ => false) (fun _ h => by cases h) (fun j oj hj h => by
          obtain ⟨e, h1, h2, h3⟩ := direct_is hj h
          exact ⟨e, h1, h2, .inl h3⟩) h0 l.length (lst ops.size k) fr _ _ (fun _ h => by cases h) (fun j oj hj hne hun hno => ⟨Region.free_spec h0 g2 j oj hj hne hun (direct_no hj hno), calm_spec g3 j oj hj hne hun (direct_no hj hno)⟩) hr hy rest
      · obtain ⟨c1, c2⟩ := calmT_spec g3
        exact AAnyH_first (fun j => (behindL .any ops k ops.size).getD j false) (fun j => (behindL .any ops k ops.size).getD j false) (fun _ h => h) (fun j oj hj h => behind_is hj h) h0 l.length (lst ops.size k) fr _ _ (fun j h => (c1 j h).elim (fun e => by rw [e]; exact hun) id) (fun j oj hj hne hun hno => ⟨Region.free_spec h0 g2 j oj hj hne hun (behind_direct hj hno), c2 j oj hj hne hun hno⟩) hr hy rest

theorem wpAny_of_AAnyH {L : Fr → Heap → Prop} {Q : Exit → Act → World → Prop} (hN : ∀ o ∈ ops, dstOk N o = true) :
    ∀ (f : Nat) (listed : Array Bool) (fr : Fr) (H : Heap) (C : Ctx) (a : Act), Rel W0 N fr H C a →
      (∀ fr H C' a', Ext C C' → Rel W0 N fr H C' a' → L fr H → Q .normal a' C'.w) → AAnyH P W0 md ops fs L f listed fr H → wpAny P md ops Q f listed a C.w
  | 0, listed, fr, H, C, a, hr, hL, h => ⟨h.1, hL _ _ C a (.refl C) hr h.2⟩
  | f + 1, listed, fr, H, C, a, hr, hL, h => by
    refine ⟨fun h0 => absurd h0 h.1, fun i hi => ?_⟩
    have h1 := h.2 i hi
    obtain ⟨_, o, ho, _⟩ := mem_ready.1 hi
    unfold AStH at h1
    simp only [ho] at h1
    obtain ⟨r, H1, hy, hK⟩ := h1
    have hd : ∀ d, o.dst = some d → d < N := dstOk.lt (hN o (Array.mem_of_getElem? ho))
    unfold wpOp
    simp only [ho]
    rcases hy with ⟨hw, hop, _, _⟩ | ⟨hw, rfl, rfl⟩
    · rw [wantA_spec hr.rep hw]
      simp only [if_true]
      refine .inl (hop C a hr.inv hr.heap (fun x _ t _ av hav => hr.rep t av hav) _ _ (fun v C' he hi' hH hv => ?_))
      exact wpAny_of_AAnyH hN f _ _ _ C' _ (hr.put he hi' hH hv hd) (fun f2 H2 C2 a2 h2 => hL f2 H2 C2 a2 (he.trans h2)) hK
    · rw [wantA_spec hr.rep hw]
      simp only [Bool.false_eq_true, if_false]
      exact wpAny_of_AAnyH hN f _ _ _ C _ (hr.put (.refl C) hr.inv hr.heap rep_skip hd) hL hK

def LK (K : List (Nat × AV) → Heap → Prop) (f : Fr) (g : Heap) : Prop := ∃ frl, (∀ t x, lk frl t = some x → f t = some x) ∧ K frl g
theorem LK.mono {K : List (Nat × AV) → Heap → Prop} (fr0 fr : Fr) (H : Heap) (hk : ∀ t x, fr0 t = some x → fr t = some x) (h : LK K fr0 H) : LK K fr H := by
  obtain ⟨frl, h1, h2⟩ := h
  exact ⟨frl, fun t x h => hk t x (h1 t x h), h2⟩

def ARH (P : Program) (W0 : Base) (ops : Array Oper) (fs : Flags) (stop : Option Nat) (k : Nat) (l : List Oper) (fr : List (Nat × AV)) (H : Heap) (K : List (Nat × AV) → Heap → Prop) : Prop :=
  ARunH P W0 ops fs stop (LK K) k l (lk fr) H

variable {Q : Exit → St → Prop} {frl : List (Nat × AV)} {K : List (Nat × AV) → Heap → Prop} {o : Oper} {rest : List Oper} {k : Nat} {stop : Option Nat}

theorem ARH.nil (h : K frl H) : ARH P W0 ops fs stop k [] frl H K := ARunH.nil _ _ _ ⟨frl, fun _ _ h => h, h⟩
theorem ARH.drop {l : List Oper} {frx : List (Nat × AV)} (h : Keeps frl frx) (h2 : ARH P W0 ops fs stop k l frx H K) : ARH P W0 ops fs stop k l frl H K := ARunH.drop (Keeps.lk h) h2
theorem ARH.keep (ts : List Nat) {l : List Oper} {frx : List (Nat × AV)} (h : pick frl ts = some frx) (h2 : ARH P W0 ops fs stop k l frx H K) : ARH P W0 ops fs stop k l frl H K := ARH.drop (pick_keeps h) h2
theorem ARH.step {r : AV} {H1 : Heap} (h : YieldsH P W0 ops fs k o r H1 (lk frl) H) (h2 : ARH P W0 ops fs stop (k + 1) rest (putL frl o.dst r) H1 K) (hs : (stop == some k) = false := by rfl) : ARH P W0 ops fs stop k (o :: rest) frl H K := by
  unfold ARH at h2
  rw [lk_putL] at h2
  exact ARunH.op hs h h2
theorem ARH.skip (hw : wantA ops (lk frl) o = some false) (h2 : ARH P W0 ops fs stop (k + 1) rest (putL frl o.dst (.tuple [])) H K) (hs : (stop == some k) = false := by rfl) : ARH P W0 ops fs stop k (o :: rest) frl H K := .step (.inr ⟨hw, rfl, rfl⟩) h2 hs
theorem ARH.dry {r : AV} (hw : wantA ops (lk frl) o = some true) (h : ∀ H', AOp P W0 o (lk frl) H' r H') (h2 : ARH P W0 ops fs stop (k + 1) rest (putL frl o.dst r) H K) (hs : (stop == some k) = false := by rfl) : ARH P W0 ops fs stop k (o :: rest) frl H K :=
  .step (.inl ⟨hw, h H, fun _ => rfl, fun _ => h⟩) h2 hs
theorem ARH.op {r : AV} (hw : wantA ops (lk frl) o = some true) (hd : fs.calm k = false) (h : AOp P W0 o (lk frl) H r H) (h2 : ARH P W0 ops fs stop (k + 1) rest (putL frl o.dst r) H K) (hs : (stop == some k) = false := by rfl) : ARH P W0 ops fs stop k (o :: rest) frl H K :=
  .step (.inl ⟨hw, h, fun _ => rfl, fun he => by rw [hd] at he; cases he⟩) h2 hs
theorem yields_loud {r : AV} {H1 : Heap} (hw : wantA ops (lk frl) o = some true) (hl : fs.loud k = true) (h : AOp P W0 o (lk frl) H r H1) : YieldsH P W0 ops fs k o r H1 (lk frl) H :=
  .inl ⟨hw, h, (fun he => by rw [hl] at he; cases he), (fun he => by have := calm_quiet he; rw [hl] at this; cases this)⟩
theorem ARH.loud {r : AV} {H1 : Heap} (hw : wantA ops (lk frl) o = some true) (hl : fs.loud k = true) (h : AOp P W0 o (lk frl) H r H1) (h2 : ARH P W0 ops fs stop (k + 1) rest (putL frl o.dst r) H1 K) (hs : (stop == some k) = false := by rfl) : ARH P W0 ops fs stop k (o :: rest) frl H K :=
  .step (yields_loud hw hl h) h2 hs

def AF (P : Program) (W0 : Base) (ops : Array Oper) (fs : Flags) (f : Nat) (listed : Array Bool) (fr : List (Nat × AV)) (H : Heap) (K : List (Nat × AV) → Heap → Prop) : Prop :=
  AAnyH P W0 .any ops fs (LK K) f listed (lk fr) H
def AF1 (P : Program) (W0 : Base) (ops : Array Oper) (fs : Flags) (f : Nat) (listed : Array Bool) (fr : List (Nat × AV)) (H : Heap) (K : List (Nat × AV) → Heap → Prop) (i : Nat) : Prop :=
  AStH P W0 ops fs i (AAnyH P W0 .any ops fs (LK K) f (listed.setIfInBounds i true)) (lk fr) H
def AFs (P : Program) (W0 : Base) (ops : Array Oper) (fs : Flags) (f : Nat) (listed : Array Bool) (fr : List (Nat × AV)) (H : Heap) (K : List (Nat × AV) → Heap → Prop) : List Nat → Prop
  | [] => True
  | i :: l => AF1 P W0 ops fs f listed fr H K i ∧ AFs P W0 ops fs f listed fr H K l
theorem AFs.spec {f : Nat} {listed : Array Bool} : ∀ {l : List Nat}, AFs P W0 ops fs f listed frl H K l → ∀ i ∈ l, AF1 P W0 ops fs f listed frl H K i
  | i :: l, h, j, hj => by
    rcases List.mem_cons.1 hj with rfl | hj
    · exact h.1
    · exact AFs.spec h.2 j hj
theorem ARH.fork {l : List Oper} (h : AF P W0 ops fs l.length (lst ops.size k) frl H K) : ARH P W0 ops fs stop k l frl H K := ARunH.fork h
theorem AF.done {listed : Array Bool} (hr : (Region.ready .any ops listed).isEmpty = true) (h : K frl H) : AF P W0 ops fs 0 listed frl H K := ⟨by simpa using hr, frl, fun _ _ h => h, h⟩
theorem AF.many {f : Nat} {listed : Array Bool} (i : Nat) (is : List Nat) (hr : Region.ready .any ops listed = i :: is) (h : AFs P W0 ops fs f listed frl H K (i :: is)) : AF P W0 ops fs (f + 1) listed frl H K :=
  ⟨by rw [hr]; simp, fun j hj => by rw [hr] at hj; exact AFs.spec h j hj⟩
theorem AF1.loud {f i : Nat} {listed : Array Bool} {r : AV} {H1 : Heap} (o : Oper) (ho : ops[i]? = some o) (hw : wantA ops (lk frl) o = some true) (hl : fs.loud i = true) (h : AOp P W0 o (lk frl) H r H1) (h2 : AF P W0 ops fs f (listed.setIfInBounds i true) (putL frl o.dst r) H1 K) : AF1 P W0 ops fs f listed frl H K i := by
  refine .of ho (yields_loud hw hl h) ?_
  unfold AF at h2
  rw [lk_putL] at h2
  exact h2

theorem AF.keep (ts : List Nat) {f : Nat} {listed : Array Bool} {frx : List (Nat × AV)} (h : pick frl ts = some frx) (h2 : AF P W0 ops fs f listed frx H K) : AF P W0 ops fs f listed frl H K := AAnyH.mono LK.mono _ _ _ _ _ (Keeps.lk (pick_keeps h)) h2
theorem AF.dry {f : Nat} {listed : Array Bool} {r : AV} (i : Nat) {o : Oper} (ho : ops[i]? = some o) (hc : ((Region.ready .any ops listed).contains i && Region.free .any ops listed i && (fs.calm i && (calmB .any ops fs listed i || calmT .any ops fs listed i))) = true) (hw : wantA ops (lk frl) o = some true) (h : ∀ H', AOp P W0 o (lk frl) H' r H')
    (h2 : AF P W0 ops fs f (listed.setIfInBounds i true) (putL frl o.dst r) H K) : AF P W0 ops fs (f + 1) listed frl H K := by
  simp only [Bool.and_eq_true, Bool.or_eq_true] at hc
  obtain ⟨⟨g1, g2⟩, _, g3⟩ := hc
  have hr : i ∈ Region.ready .any ops listed := by simpa using g1
  have hun := (mem_ready.1 hr).1
  unfold AF at h2
  rw [lk_putL] at h2
  have hy : YieldsH P W0 ops fs i o r H (lk frl) H := .inl ⟨hw, h H, fun _ => rfl, fun _ => h⟩
  rcases g3 with g3 | g3
  · exact AAnyH_first (direct .any ops i) (fun _ => false) (fun _ h => by cases h) (fun j oj hj h => by
      obtain ⟨e, h1, h2, h3⟩ := direct_is hj h
      exact ⟨e, h1, h2, .inl h3⟩) ho f listed (lk frl) _ _ (fun _ h => by cases h) (fun j oj hj hne hun hno => ⟨Region.free_spec ho g2 j oj hj hne hun (direct_no hj hno), calm_spec g3 j oj hj hne hun (direct_no hj hno)⟩) hr hy h2
  · obtain ⟨c1, c2⟩ := calmT_spec g3
    exact AAnyH_first (fun j => (behindL .any ops i ops.size).getD j false) (fun j => (behindL .any ops i ops.size).getD j false) (fun _ h => h) (fun j oj hj h => behind_is hj h) ho f listed (lk frl) _ _ (fun j h => (c1 j h).elim (fun e => by rw [e]; exact hun) id) (fun j oj hj hne hun hno => ⟨Region.free_spec ho g2 j oj hj hne hun (behind_direct hj hno), c2 j oj hj hne hun hno⟩) hr hy h2

theorem awp_anyF (fs : Flags) (stop : Option Nat) {id : Nat} {l : List Oper} (hm : P.follows .mixedOrders = true) (hB : drawB fs stop l.toArray = true) (hN : l.all (dstOk N) = true) (h : ARH P W0 l.toArray fs stop 0 l frl H (fun f g => Q .normal ⟨f, g⟩)) (hro : W0.ro = none := by rfl) : AWP P W0 N (.region id l.toArray true) ⟨frl, H⟩ Q := fun C a hr => by
  obtain ⟨hE, hR⟩ := rel_drew hr
  rw [hro, fw_none]
  refine wpIn_wide.2 (wp_region_any hm ?_)
  have hB' : lexH .any l.toArray fs stop l.length 0 (lst l.toArray.size 0) = true := by simpa [drawB, lst] using hB
  have key := AAnyH_lex (P := P) (W0 := W0) (ops := l.toArray) LK.mono h (fun j _ => by simp) hB'
  have := wpAny_of_AAnyH (P := P) (Q := Post W0 N C Q) (fun o ho => List.all_eq_true.1 hN o (by simpa using ho)) _ _ _ _ _ _ hR (fun f g C' a' he hrel hL => by
    obtain ⟨fr', hk, hq⟩ := hL
    exact ⟨⟨fr', g⟩, C', rfl, (hE.trans he).mem, ⟨hrel.heap, hrel.inv, hrel.size, hrel.defers, fun t x hx => hrel.rep t x (hk t x hx)⟩, hq⟩) key
  simpa [Ctx.inW, lst] using this
theorem awp_any (fs : Flags) {id : Nat} {l : List Oper} (hm : P.follows .mixedOrders = true) (hB : drawB fs none l.toArray = true) (hN : l.all (dstOk N) = true) (h : ARH P W0 l.toArray fs none 0 l frl H (fun f g => Q .normal ⟨f, g⟩)) (hro : W0.ro = none := by rfl) : AWP P W0 N (.region id l.toArray true) ⟨frl, H⟩ Q := awp_anyF fs none hm hB hN h hro

end
end Go.Av
end

section
/- Structs of numbers, held against each other. -/
namespace Go.Av
open Go

def intsB (P : Program) (t : TypeId) (n : Nat) : Bool :=
  (match P.underlying t with
    | some (.struct fs) => decide (fs.size = n) && (fs.toList.zipIdx.all fun p => p.1.offset == p.2 && p.1.name != "_" && (match P.underlying p.1.type with | some (.int .i64) => true | _ => false))
    | _ => false) && !P.stoodInHeld t && !P.eqGuardType P.depth t

section
variable {P : Program} {W0 : Base} {fr : Fr} {H : Heap} {o : Oper}

theorem part_int {t : TypeId} {cs : Array Value} {off : Nat} {v : Value} (ht : P.underlying t = some (.int .i64)) (hv : cs[off]? = some v) (w : World) : (part t cs off).run P w = .ok v w := by
  have h : (isAgg t).run P w = .ok false w := by
    simp only [isAgg, Sem.run_bind, run_underlying ht, Result.andThen_ok]
    rfl
  unfold part
  rw [Sem.run_bind, h]
  simp [hv]

theorem run_eqFields (d : Nat) (w : World) (as bs : List Int) (hl : as.length = bs.length) : ∀ (fs : List Field) (k : Nat), (fs.zipIdx k).all (fun p => p.1.offset == p.2 && p.1.name != "_" && (match P.underlying p.1.type with | some (.int .i64) => true | _ => false)) = true → k + fs.length = as.length →
    (Op.eqFields (d + 1) (as.map fun n => Value.int .i64 n).toArray (bs.map fun n => Value.int .i64 n).toArray fs).run P w = .ok (decide (as.drop k = bs.drop k)) w
  | [], k, _, hk => by
    have h1 : as.drop k = [] := List.drop_eq_nil_of_le (by simp at hk; omega)
    have h2 : bs.drop k = [] := List.drop_eq_nil_of_le (by simp at hk; omega)
    simp [Op.eqFields, h1, h2]
  | f :: fs, k, h, hk => by
    simp only [List.zipIdx_cons, List.all_cons, Bool.and_eq_true, beq_iff_eq, bne_iff_ne] at h
    obtain ⟨⟨⟨h1, h2⟩, h3⟩, h4⟩ := h
    have hu : P.underlying f.type = some (.int .i64) := by
      split at h3
      · assumption
      · cases h3
    simp only [List.length_cons] at hk
    have hka : k < as.length := by omega
    have hkb : k < bs.length := by omega
    have ga : (as.map fun n => Value.int .i64 n).toArray[f.offset]? = some (.int .i64 as[k]) := by simp [h1, hka]
    have gb : (bs.map fun n => Value.int .i64 n).toArray[f.offset]? = some (.int .i64 bs[k]) := by simp [h1, hkb]
    have ih := run_eqFields d w as bs hl fs (k + 1) h4 (by omega)
    rw [List.drop_eq_getElem_cons hka, List.drop_eq_getElem_cons hkb]
    unfold Op.eqFields
    rw [if_pos h2, Sem.run_bind, part_int hu ga]
    simp only [Result.andThen_ok]
    rw [Sem.run_bind, part_int hu gb]
    simp only [Result.andThen_ok]
    rw [Sem.run_bind, run_equalIn_int w d f.type .i64 .i64 as[k] bs[k] hu]
    simp only [Result.andThen_ok]
    generalize as.drop (k + 1) = A at ih ⊢
    generalize bs.drop (k + 1) = B at ih ⊢
    generalize as[k] = x
    generalize bs[k] = y
    by_cases he : x = y
    · simp [he, ih]
    · simp [he]

theorem run_eq_ints {t : TypeId} {n : Nat} (ht : intsB P t n = true) (as bs : List Int) (ha : as.length = n) (hb : bs.length = n) (w : World) :
    (Op.equalIn 10000 t (.agg (as.map fun n => Value.int .i64 n).toArray) (.agg (bs.map fun n => Value.int .i64 n).toArray)).run P w = .ok (decide (as = bs)) w ∧ P.eqGuardType P.depth t = false := by
  simp only [intsB, Bool.and_eq_true, Bool.not_eq_true'] at ht
  obtain ⟨⟨h1, h2⟩, h3⟩ := ht
  refine ⟨?_, h3⟩
  split at h1
  · rename_i fs hu
    simp only [Bool.and_eq_true, decide_eq_true_eq] at h1
    obtain ⟨h4, h5⟩ := h1
    have hf : P.fieldsOf t = fs := by simp [Program.fieldsOf, hu]
    have h6 := run_equalIn_struct (P := P) w 9999 t (as.map fun n => Value.int .i64 n).toArray (bs.map fun n => Value.int .i64 n).toArray (by rw [hf]; exact hu) h2
    rw [h6, hf]
    have := run_eqFields (P := P) 9998 w as bs (by omega) fs.toList 0 h5 (by simp; omega)
    simpa using this
  · cases h1

theorem rep_ints {C : Ctx} {l : List Int} {v : Value} (h : Rep C (.agg (l.map i64)) v) : v = .agg (l.map fun n => Value.int .i64 n).toArray := by
  refine rep_toV (x := .agg (l.map i64)) ?_ h
  have : toVs (l.map i64) = some (l.map fun n => Value.int .i64 n) := by
    clear h
    induction l with
    | nil => rfl
    | cons a l ih => simp [toVs, ih]
  simp [AV.toV, this]

theorem t_ne_ints {t t' : TypeId} {n : Nat} {x y : Operand} (as bs : List Int) (ht : intsB P t n = true) (ha : as.length = n) (hb : bs.length = n) (ho : o.op = .binOp .neq t x y t') (hx : evalA fr x = some (.agg (as.map i64))) (hy : evalA fr y = some (.agg (bs.map i64))) : AOp P W0 o fr H (bl (!decide (as = bs))) H :=
  .of_pure fun C a _ _ hr => by
    have e1 := rep_ints (rep_eval (hr x (by simp [ho, Op.operands])) hx)
    have e2 := rep_ints (rep_eval (hr y (by simp [ho, Op.operands])) hy)
    obtain ⟨h1, h2⟩ := run_eq_ints (P := P) ht as bs ha hb C.w
    refine ⟨.bool (!decide (as = bs)), ?_, .imm _ rfl⟩
    simp only [execOp, ho, e1, e2, Sem.run_bind, run_eqGuard_agg _ _ _ _ _ _ _ h2, Result.andThen_ok, run_neq_struct, h1]
    rfl
end
end Go.Av
end

section
/- Sorting numbers, and leaving out what comes twice: by what is known of the library's functions. -/
namespace Go.Av
open Go.RowKit (Below)

def Sh.put (x : Int) : List Int → List Int
  | [] => [x]
  | y :: l => if x ≤ y then x :: y :: l else y :: Sh.put x l
section
variable {P : Program} {W0 : Base} {C : Ctx} {fr : Fr} {a : Act} {H : Heap} {o : Oper} {N : Nat}

end
end Go.Av
end

section
/- Rows of numbers are sorted by their first ones, where they lie: by what is known of the library's function. -/
namespace Go.Av
open Go.RowKit (Below)

@[simp] theorem all_bools (p q : Prop) (R : AV → Prop) : (∀ e : AV, p ∧ bl false = e ∨ q ∧ bl true = e → R e) ↔ (p → R (bl false)) ∧ (q → R (bl true)) := ⟨fun h => ⟨fun hp => h _ (.inl ⟨hp, rfl⟩), fun hq => h _ (.inr ⟨hq, rfl⟩)⟩, fun ⟨h1, h2⟩ e h => by rcases h with ⟨hp, rfl⟩ | ⟨hq, rfl⟩; exact h1 hp; exact h2 hq⟩
def Sh.first (l : List Int) : Int := l.headD 0
section
variable {P : Program} {W0 : Base} {C : Ctx} {fr : Fr} {a : Act} {H : Heap} {o : Oper} {N : Nat}

end
end Go.Av
end

section
/- Arrays of things of one cell: as values of one element of the proof's own; literals of the proof's own. -/
namespace Go.Av
open Go.RowKit (Below)
section
variable {P : Program} {W0 : Base} {C : Ctx} {fr : Fr} {a : Act} {H : Heap} {o : Oper}

end
end Go.Av
namespace Go.Sh
def whole {α : Type} (n : Nat) (l : List α) : Option (List α) := if l.length = n then some l else none
def aidx {α : Type} (n : Nat) (l : List α) (i : Int) : Option α := if l.length = n then idx l i else none
theorem aidx_some {α : Type} {n : Nat} {l : List α} {i : Int} {x : α} (h : aidx n l i = some x) : l.length = n ∧ ∃ k : Nat, i = k ∧ l[k]? = some x := by
  unfold aidx at h
  split at h
  · rename_i h0; exact ⟨h0, idx_some h⟩
  · cases h
end Go.Sh
namespace Go.Av
section
variable {P : Program} {W0 : Base} {fr : Fr} {H : Heap} {o : Oper} {α : Type} {enc : α → AV} {l : List α} {i : Int} {x : α} {ki : IntKind}

theorem t_index_arr {t : TypeId} {N id k : Nat} {xo io : Operand} (enc : α → AV) (l : List α) (hi : i = k) (hl : l[k]? = some x) (hN : l.length = N) (ho : o.op = .indexAddr t xo io) (hx : evalA fr xo = some (.ref id 0 0)) (hid : H.get id = some [arA enc l]) (hio : evalA fr io = some (.imm (.int ki i)))
    (ht : arT P t = some (N, 1)) : AOp P W0 o fr H (.ref id 0 k) H :=
  (aop_index_in ho hx hid hio ht hi (by have := (List.getElem?_eq_some_iff.1 hl).1; omega)).conv (by simp)
theorem t_load_arr {t : TypeId} {xo : Operand} {id k : Nat} (enc : α → AV) (l : List α) (hl : l[k]? = some x) (ho : o.op = .load t xo) (hx : evalA fr xo = some (.ref id 0 k)) (hid : H.get id = some [arA enc l])
    (ht : szT P t = some (1, false)) : AOp P W0 o fr H (enc x) H :=
  aop_load_ref ho hx hid (i := 0) (e := arA enc l) rfl ht (by simp [partA, AV.flat, hl])
theorem t_store_arr {t : TypeId} {xo yo : Operand} {id k : Nat} (enc : α → AV) (l : List α) (x' : α) (hi : i = k) (hl : l[k]? = some x) (hfl : (enc x').flat = [enc x']) (hsol : (enc x').solid = true) (ho : o.op = .store t xo yo) (hx : evalA fr xo = some (.ref id 0 k)) (hy : evalA fr yo = some (enc x'))
    (hid : H.get id = some [arA enc l]) (ht : szT P t = some (1, false)) : AOp P W0 o fr H .any (H.set id [arA enc (Sh.set l i x')]) := by
  have hk := (List.getElem?_eq_some_iff.1 hl).1
  have := aop_store (P := P) (W0 := W0) (o := o) (fr := fr) (H := H) (e := arA enc l) (e' := arA enc (Sh.set l i x')) (i := 0) ho hx hy hsol hid rfl ht (by rw [hfl]; rfl) (by simp [AV.flat]; omega) (by
    subst hi
    rw [hfl]
    simp only [AV.flat, Sh.set, Int.toNat_natCast, List.map_set]
    rw [List.set_eq_take_append_cons_drop, if_pos (by simpa using hk)]
    simp)
  exact this
end
end Go.Av
end

section
/- Literals with empty slices in them, or slices of a known end. -/
namespace Go.Av
inductive Wid : AV → AV → Prop
  | same (x : AV) : Wid x x
  | clip (es : List AV) : Wid (.clip es) (.sl es)
  | nil : Wid (.imm (.slice none 0 0)) (.sl [])
def widF : List AV → List AV → Prop
  | [], [] => True
  | x :: xs, y :: ys => Wid x y ∧ widF xs ys
  | _, _ => False
def widEs : List AV → List AV → Prop
  | [], [] => True
  | e :: es, y :: ys => widF e.flat y.flat ∧ widEs es ys
  | _, _ => False
section
variable {P : Program} {W0 : Base} {C : Ctx} {fr : Fr} {H H' : Heap} {o : Oper}

theorem Wid.rep {a b : AV} {v : Value} (h : Wid a b) (r : Rep C a v) : Rep C b v := by
  cases h with
  | same => exact r
  | clip es =>
    match r with
    | .clipNil a => exact .slNil a 0
    | .clip _ b off sz c h1 h2 h3 h4 h5 => exact .sl es b off sz es.length c h1 h2 (Nat.le_refl _) h3 h4 h5
  | nil =>
    have := rep_toV (v := .slice none 0 0) rfl r
    subst this
    exact .slNil _ _
theorem widF.spec : ∀ {xs ys : List AV}, widF xs ys → xs.length = ys.length ∧ ∀ (j : Nat) (y : AV), ys[j]? = some y → ∃ x, xs[j]? = some x ∧ Wid x y
  | [], [], _ => ⟨rfl, fun j y h => by simp at h⟩
  | x :: xs, y :: ys, h => by
    obtain ⟨a, b⟩ := widF.spec h.2
    refine ⟨by simp [a], fun j z hz => ?_⟩
    cases j with
    | zero => simp at hz; subst hz; exact ⟨x, rfl, h.1⟩
    | succ j => simpa using b j z (by simpa using hz)
  | [], _ :: _, h => h.elim
  | _ :: _, [], h => h.elim
theorem widEs.spec : ∀ {es ys : List AV}, widEs es ys → es.length = ys.length ∧ ∀ (i : Nat) (y : AV), ys[i]? = some y → ∃ e, es[i]? = some e ∧ widF e.flat y.flat
  | [], [], _ => ⟨rfl, fun j y h => by simp at h⟩
  | x :: xs, y :: ys, h => by
    obtain ⟨a, b⟩ := widEs.spec h.2
    refine ⟨by simp [a], fun j z hz => ?_⟩
    cases j with
    | zero => simp at hz; subst hz; exact ⟨x, rfl, h.1⟩
    | succ j => simpa using b j z (by simpa using hz)
  | [], _ :: _, h => h.elim
  | _ :: _, [], h => h.elim
theorem clip_wid {es ys : List AV} {v : Value} (h : widEs es ys) (r : Rep C (.clip es) v) : Rep C (.clip ys) v := by
  obtain ⟨hl, hs⟩ := h.spec
  match r with
  | .clipNil a =>
    have : ys = [] := List.eq_nil_of_length_eq_zero (by simpa using hl.symm)
    subst this
    exact .clipNil a
  | .clip _ b off sz c h1 h2 h3 h4 h5 =>
    rw [hl]
    refine .clip ys b off sz c h1 h2 (fun i y hy => ?_) (fun i j y z hy hz => ?_) (fun i j y z hy hz => ?_)
    · obtain ⟨e, he, hw⟩ := hs i y hy
      rw [← hw.spec.1]; exact h3 i e he
    · obtain ⟨e, he, hw⟩ := hs i y hy
      obtain ⟨x, hx, _⟩ := hw.spec.2 j z hz
      exact h4 i j e x he hx
    · obtain ⟨e, he, hw⟩ := hs i y hy
      obtain ⟨x, hx, hxy⟩ := hw.spec.2 j z hz
      exact hxy.rep (h5 i j e x he hx)
theorem AOp.clipw {es ys : List AV} (h : AOp P W0 o fr H (.clip es) H') (hw : widEs es ys) : AOp P W0 o fr H (.clip ys) H' := by
  intro C a hI hH hop K Q hK
  exact h C a hI hH hop K Q (fun v C' h1 h2 h3 h4 => hK v C' h1 h2 h3 (clip_wid hw h4))
end
end Go.Av
namespace Go.Av
section
variable {P : Program} {W0 : Base} {C : Ctx} {fr : Fr} {H : Heap} {o : Oper}

end
end Go.Av
end

section
/- Calls of what writes into what is the caller's own: a part of the heap is handed over, and comes back. -/
namespace Go.Av

structure Fun3 (P : Program) (B : Base) (f : FuncId) (xs : List AV) (Hin : Heap) (r : AV) (Hout : Heap) : Prop where
  call : Callable P f
  runs : ∀ (C : Ctx) (vals : Array Value), Inv B C → C.H = Hin → C.dfs = [] → vals.size = xs.length → (∀ (k : Nat) (x : AV), xs[k]? = some x → Rep C x (vals.getD k undef)) →
    Calls P f vals C.w (fun e w' => ∃ v C', e = .returned v ∧ C'.w = w' ∧ Mem C C' ∧ Inv B C' ∧ C'.H = Hout ∧ C'.dfs = [] ∧ Rep C' r v)

section
variable {P : Program} {W0 : Base} {C : Ctx} {fr : Fr} {a : Act} {H : Heap} {o : Oper} {N : Nat}

theorem fun3_of_awp {B : Base} {f : FuncId} {fn : Func} {c : Code} {xs : List AV} {r : AV} {Hin Hr : Heap} (hro : B.ro = none) (hf : P.funcs[f]? = some fn) (hb : fn.body = some c) (hname : (fn.name == "runtime.NumGoroutine") = false) (hN : fn.ntmps = N) (hxN : xs.length ≤ N)
    (h : AWP P B N c ⟨argsFr 0 xs, Hin⟩ (fun e s => (e = .normal ∨ e = .ret) ∧ ∃ q, resA P fn.results.toList s = some q ∧ Weak B 1 ⟨[(0, q)], s.H⟩ ⟨[(0, r)], Hr⟩)) (hdx : B.dx = [] := by rfl) : Fun3 P B f xs Hin r Hr where
  call := callable_of hf hname hb
  runs C vals hI hH hd hsz hrep := calls_of_awp hf hb hN hxN hro h C vals hI hH hd hsz hrep hdx


def Ctx.hide (C : Ctx) (Hs : Heap) : Ctx :=
  { w := C.w, H := Hs, pl := C.pl, prot := fun b => C.prot b ∨ (C.own b ∧ ¬ Ctx.own { C with H := Hs, dfs := [] } b), dfs := [], pin := 0 }

structure Part (Hs H : Heap) : Prop where
  next : Hs.next = H.next
  objs : ∀ k v, lk Hs.objs k = some v → lk H.objs k = some v
  lps : ∀ l r, lk Hs.lps l = some r → lk H.lps l = some r

theorem hide_own {Hs : Heap} (hp : Part Hs C.H) {b : Nat} (h : (C.hide Hs).own b) : C.own b := by
  rcases h with ⟨id, es, h1, h2, h3⟩ | ⟨r, h⟩ | h
  · refine .inl ⟨id, es, ?_, h2, h3⟩
    obtain ⟨p, h4, h5⟩ := Option.map_eq_some_iff.1 h1
    exact Option.map_eq_some_iff.2 ⟨p, hp.objs id p h4, h5⟩
  · exact .inr (.inl ⟨r, hp.lps b r h⟩)
  · simp [Ctx.hide] at h

theorem hide_bad {Hs : Heap} (hp : Part Hs C.H) {b : Nat} (h : (C.hide Hs).bad b) : C.bad b := by
  rcases h with h | h | h
  · exact .inl (hide_own hp h)
  · exact .inr h
  · exact .inl h.1

theorem part_get {Hs H : Heap} (hp : Part Hs H) {id : Nat} {es : List AV} (h : Hs.get id = some es) : H.get id = some es := by
  obtain ⟨p, h4, h5⟩ := Option.map_eq_some_iff.1 h
  exact Option.map_eq_some_iff.2 ⟨p, hp.objs id p h4, h5⟩

theorem Rep.hide {Hs : Heap} (hp : Part Hs C.H) {x : AV} {v : Value} (h : Rep C x v) : Rep (C.hide Hs) x v :=
  h.sub rfl (by show C.H.next ≤ Hs.next; rw [hp.next]; exact Nat.le_refl _) (fun id es _ h => ⟨es, part_get hp h⟩) (fun _ _ => rfl) (fun b h => hide_bad hp h)

theorem Inv.hide (hI : Inv W0 C) {Hs : Heap} (hp : Part Hs C.H) : Inv (.of W0.w) (C.hide Hs) where
  fresh id es h := by show id < Hs.next; rw [hp.next]; exact hI.fresh id es (part_get hp h)
  nil id es h := hI.nil id es (part_get hp h)
  obj id es h hn := by
    have hO := hI.obj id es (part_get hp h) hn
    exact ⟨hO.n, hO.cap, hO.blk, hO.one, hO.flat, fun i j e x v h1 h2 h3 => (hO.cell i j e x v h1 h2 h3).hide hp⟩
  sep i1 i2 e1 e2 h1 h2 := hI.sep i1 i2 e1 e2 (part_get hp h1) (part_get hp h2)
  prot id es h hn hb := by
    rcases hb with hb | hb
    · exact hI.prot id es (part_get hp h) hn hb
    · exact hb.2 (.inl ⟨id, es, h, hn, rfl⟩)
  szok id s h := by
    obtain ⟨p, h4, h5⟩ := Option.map_eq_some_iff.1 h
    exact hI.szok id s (Option.map_eq_some_iff.2 ⟨p, hp.objs id p h4, h5⟩)
  protlt b h := by
    rcases h with h | h
    · exact hI.protlt b h
    · exact hI.own_lt h.1
  protge b h := by
    rcases h with h | h
    · exact hI.protge b h
    · exact hI.own_ge h.1
  size := hI.size
  glob b h := ⟨(hI.glob b h).1, fun ho => (hI.glob b h).2 (hide_own hp ho)⟩
  lps l r h := hI.lps l r (hp.lps l r h)
  dfs d h := by simp [Ctx.hide] at h
  dnd := .nil
  rod := fun _ _ => rfl
  spprot b h hb := by
    rcases h with ⟨r, h⟩ | h
    · rcases hb with hb | hb
      · exact hI.spprot b (.inl ⟨r, hp.lps b r h⟩) hb
      · exact hb.2 (.inr (.inl ⟨r, h⟩))
    · simp [Ctx.hide] at h
  pinB := rfl
  pinlt := Nat.zero_le _
  gh := trivial


inductive Ren (ok : AV → Prop) (m : List (Nat × Nat)) : AV → AV → Prop
  | same (x : AV) : ok x → Ren ok m x x
  | any (x : AV) : Ren ok m x .any
  | view {id k off len : Nat} : lk m id = some k → Ren ok m (.view id off len) (.view k off len)
  | ref {id k i j : Nat} : lk m id = some k → Ren ok m (.ref id i j) (.ref k i j)
  | agg (cs cs' : List AV) : cs.length = cs'.length → (∀ (k : Nat) (x x' : AV), cs[k]? = some x → cs'[k]? = some x' → Ren ok m x x') → Ren ok m (.agg cs) (.agg cs')
  | tuple (cs cs' : List AV) : cs.length = cs'.length → (∀ (k : Nat) (x x' : AV), cs[k]? = some x → cs'[k]? = some x' → Ren ok m x x') → Ren ok m (.tuple cs) (.tuple cs')
  | clo (fn : Fn) (cs cs' : List AV) : cs.length = cs'.length → (∀ (k : Nat) (x x' : AV), cs[k]? = some x → cs'[k]? = some x' → Ren ok m x x') → Ren ok m (.clo fn cs) (.clo fn cs')
  | ifc (t : TypeId) (x x' : AV) : Ren ok m x x' → Ren ok m (.ifc t x) (.ifc t x')

structure RenL (ok : AV → Prop) (m : List (Nat × Nat)) (es es' : List AV) : Prop where
  len : es.length = es'.length
  see : ∀ (k : Nat) (e e' : AV), es[k]? = some e → es'[k]? = some e' → e.flat.length = e'.flat.length ∧ ∀ (j : Nat) (x x' : AV), e.flat[j]? = some x → e'.flat[j]? = some x' → Ren ok m x x'

theorem RenL.same {ok : AV → Prop} {m : List (Nat × Nat)} {es : List AV} (h : ∀ e ∈ es, ∀ x ∈ e.flat, ok x) : RenL ok m es es :=
  ⟨rfl, fun k e e' h1 h2 => by
    rw [h1] at h2; cases h2
    exact ⟨rfl, fun j x x' h3 h4 => by rw [h3] at h4; cases h4; exact .same x (h e (List.mem_of_getElem? h1) x (List.mem_of_getElem? h3))⟩⟩

def RenAll (ok : AV → Prop) (m : List (Nat × Nat)) : List AV → List AV → Prop
  | [], [] => True
  | x :: l, y :: r => Ren ok m x y ∧ RenAll ok m l r
  | _, _ => False

theorem RenAll.spec {ok : AV → Prop} {m : List (Nat × Nat)} : ∀ {l r : List AV}, RenAll ok m l r → l.length = r.length ∧ ∀ (k : Nat) (x x' : AV), l[k]? = some x → r[k]? = some x' → Ren ok m x x'
  | [], [], _ => ⟨rfl, fun k x x' h => by simp at h⟩
  | x :: l, y :: r, h => by
    obtain ⟨h1, h2⟩ := RenAll.spec h.2
    refine ⟨by simp [h1], fun k u v hu hv => ?_⟩
    cases k with
    | zero => simp at hu hv; subst hu hv; exact h.1
    | succ k => simp at hu hv; exact h2 k u v hu hv
  | [], _ :: _, h => h.elim
  | _ :: _, [], h => h.elim
theorem Ren.ag {ok : AV → Prop} {m : List (Nat × Nat)} {cs cs' : List AV} (h : RenAll ok m cs cs') : Ren ok m (.agg cs) (.agg cs') := .agg cs cs' h.spec.1 h.spec.2
theorem Ren.tp {ok : AV → Prop} {m : List (Nat × Nat)} {cs cs' : List AV} (h : RenAll ok m cs cs') : Ren ok m (.tuple cs) (.tuple cs') := .tuple cs cs' h.spec.1 h.spec.2
theorem RenL.one {ok : AV → Prop} {m : List (Nat × Nat)} {e e' : AV} (h : RenAll ok m e.flat e'.flat) : RenL ok m [e] [e'] :=
  ⟨rfl, fun k a b h1 h2 => by
    cases k with
    | zero => simp at h1 h2; subst h1 h2; exact ⟨h.spec.1, h.spec.2⟩
    | succ k => simp at h1⟩

def Back (ok : AV → Prop) (H : Heap) (g m : List (Nat × Nat)) (Hout : Heap) : List (Nat × (Nat × List AV)) → Prop
  | [] => True
  | (k, (s, es')) :: r => ((lk H.objs k = some (s, es') ∧ g.all (fun p => p.2 != k) = true) ∨ ∃ i es, lk m i = some k ∧ lk Hout.objs i = some (s, es) ∧ RenL ok m es es') ∧ Back ok H g m Hout r

theorem Back.spec {ok : AV → Prop} {H : Heap} {g m : List (Nat × Nat)} {Hout : Heap} : ∀ {l : List (Nat × (Nat × List AV))}, Back ok H g m Hout l → ∀ {k s : Nat} {es' : List AV}, lk l k = some (s, es') →
    (lk H.objs k = some (s, es') ∧ ∀ p ∈ g, p.2 ≠ k) ∨ ∃ i es, lk m i = some k ∧ lk Hout.objs i = some (s, es) ∧ RenL ok m es es'
  | [], _, _, _, _, h => by cases h
  | (q, (s, es)) :: l, hl, k, s', es', h => by
    simp only [lk] at h
    split at h
    · rename_i hm; subst hm; cases h
      refine hl.1.imp (fun h => ⟨h.1, fun p hp => ?_⟩) id
      have := List.all_eq_true.1 h.2 p hp
      simpa using this
    · exact Back.spec hl.2 h
theorem Back.kept {ok : AV → Prop} {H : Heap} {g m : List (Nat × Nat)} {Hout : Heap} {k s : Nat} {es : List AV} {r : List (Nat × (Nat × List AV))} (h1 : lk H.objs k = some (s, es)) (h2 : g.all (fun p => p.2 != k) = true) (h3 : Back ok H g m Hout r) : Back ok H g m Hout ((k, (s, es)) :: r) :=
  ⟨.inl ⟨h1, h2⟩, h3⟩
theorem Back.new {ok : AV → Prop} {H : Heap} {g m : List (Nat × Nat)} {Hout : Heap} {k s : Nat} {es' : List AV} {r : List (Nat × (Nat × List AV))} (i : Nat) {es : List AV} (h1 : lk m i = some k) (h2 : lk Hout.objs i = some (s, es)) (h3 : RenL ok m es es') (h4 : Back ok H g m Hout r) : Back ok H g m Hout ((k, (s, es')) :: r) :=
  ⟨.inr ⟨i, es, h1, h2, h3⟩, h4⟩

def mapOk (p n : Nat) (g m : List (Nat × Nat)) : Bool := m.all fun q => (decide (q.1 < p) && (lk g q.1 == some q.2)) || q.2 == n + q.1

def Ctx.back (C C2 : Ctx) (H' : Heap) : Ctx := { w := C2.w, H := H', pl := fun k => if k < C.H.next then C.pl k else C2.pl (k - C.H.next), prot := C.prot, dfs := C.dfs, pin := C.pin }

theorem sub_out {ok : AV → Prop} {Hs Hin H' : Heap} {g m : List (Nat × Nat)} {nw : List Nat} {p : Nat} {B1 : Base} {C2 : Ctx} (hI : Inv W0 C) (hp : Part Hs C.H) (hB : B1.w = W0.w)
    (hH : Held Hs g nw Hin.next Hin.objs) (hnw : ∀ n ∈ nw, lk g n = none) (hginj : g.all (fun p => g.all (fun q => p.2 != q.2 || p.1 == q.1)) = true) (hgin : ∀ q ∈ g, (lk Hs.objs q.2).isSome = true) (hlp : Hin.lps = Hs.lps)
    (hM : Mem { (C.hide Hs).re g Hin with pin := p } C2) (hpin : p ≤ Hin.next) (hI2 : Inv B1 C2) (hd2 : C2.dfs = [])
    (hm : mapOk p C.H.next g m = true) (hnext : H'.next = C.H.next + C2.H.next) (hback : Back ok C.H g m C2.H H'.objs)
    (hlps : ∀ l r, lk H'.lps l = some r → lk C2.H.lps l = some r ∨ (lk C.H.lps l = some r ∧ lk Hs.lps l = none))
    (mode : (∀ x, ok x → Dry x) ∨ ((∀ x, ok x → NoId x) ∧ ∀ k v, lk C.H.objs k = some v → (∀ q ∈ g, q.2 ≠ k) → lk Hs.objs k = none)) :
    Ext C (C.back C2 H') ∧ Inv W0 (C.back C2 H') ∧ ∀ x x' v, Ren ok m x x' → Rep C2 x v → Rep (C.back C2 H') x' v := by
  have hs : C.w.heap.size ≤ C2.w.heap.size := hM.below.size
  have hpr : C2.prot = (C.hide Hs).prot := hM.prot
  have getS : ∀ {K : Heap} {n : Nat} {es' : List AV}, K.get n = some es' → ∃ s, lk K.objs n = some (s, es') := fun {K n es'} h => by
    obtain ⟨⟨s, e⟩, h1, h2⟩ := Option.map_eq_some_iff.1 h
    simp only at h2; subst h2; exact ⟨s, h1⟩
  have getO : ∀ {K : Heap} {n s : Nat} {es' : List AV}, lk K.objs n = some (s, es') → K.get n = some es' := fun {K n s es'} h => by simp [Heap.get, h]
  have gmem : ∀ {n k : Nat}, lk g n = some k → k < C.H.next ∧ ∃ v, lk Hs.objs k = some v := fun {n k} h => by
    obtain ⟨v, hv⟩ := Option.isSome_iff_exists.1 (hgin _ (lk_mem h))
    exact ⟨hI.fresh k v.2 (getO (s := v.1) (hp.objs k v hv)), v, hv⟩
  have ginj : ∀ {n n' k : Nat}, lk g n = some k → lk g n' = some k → n = n' := fun {n n' k} h1 h2 => by
    have := List.all_eq_true.1 (List.all_eq_true.1 hginj _ (lk_mem h1)) _ (lk_mem h2)
    simpa using this
  have rePl : ∀ {n k : Nat}, lk g n = some k → ((C.hide Hs).re g Hin).pl n = C.pl k := fun {n k} h => by simp [Ctx.re, Ctx.hide, h]
  have mS : ∀ {i k : Nat}, lk m i = some k → (i < p ∧ lk g i = some k) ∨ k = C.H.next + i := fun {i k} h => by
    have := List.all_eq_true.1 hm _ (lk_mem h)
    simpa using this
  -- what was handed over
  have passed : ∀ {b : Nat}, ((C.hide Hs).re g Hin).cells b → ∃ n k es, lk g n = some k ∧ C.H.get k = some es ∧ (C.pl k).nil = false ∧ (C.pl k).blk = b := fun {b} h => by
    obtain ⟨n, es', h1, h2, h3⟩ := h
    obtain ⟨s, h4⟩ := getS (K := Hin) h1
    rcases (hH.spec h4).1 with ⟨old, es, q1, q2, _⟩ | ⟨q, _⟩
    · rw [rePl q1] at h2 h3
      exact ⟨n, old, es, q1, getO (hp.objs old _ q2), h2, h3⟩
    · have : ((C.hide Hs).re g Hin).pl n = ⟨0, 0, 0, 0, true⟩ := by simp [Ctx.re, hnw n q]
      rw [this] at h2; cases h2
  have own1 : ∀ {b : Nat}, ((C.hide Hs).re g Hin).own b → C.own b := fun {b} h => by
    rcases h with h | ⟨r, h⟩ | h
    · obtain ⟨n, k, es, _, h2, h3, h4⟩ := passed h
      exact .inl ⟨k, es, h2, h3, h4⟩
    · exact .inr (.inl ⟨r, hp.lps b r (by rw [← hlp]; exact h)⟩)
    · simp [Ctx.re, Ctx.hide] at h
  have keep : ∀ b, b < C.w.heap.size → ¬ ((C.hide Hs).re g Hin).own b → C2.w.heap[b]? = C.w.heap[b]? := fun b hb hn => hM.keep b hb hn
  have own2 : ∀ {b : Nat}, b < C.w.heap.size → C2.own b → ((C.hide Hs).re g Hin).own b := fun {b} hb h => hM.own b hb h
  -- cells, records, and what is put off, are told apart by what lies there
  have cellHeap : ∀ {k : Nat} {es : List AV}, C.H.get k = some es → (C.pl k).nil = false → ∃ arr el, C.w.heap[(C.pl k).blk]? = some (.cells arr el (0, 0)) := fun {k es} h1 h2 => by
    obtain ⟨arr, el, h3, _⟩ := (hI.obj k es h1 h2).blk
    exact ⟨arr, el, h3⟩
  have keptFree : ∀ {k : Nat} {es : List AV}, C.H.get k = some es → (C.pl k).nil = false → (∀ q ∈ g, q.2 ≠ k) → ¬ ((C.hide Hs).re g Hin).own (C.pl k).blk := fun {k es} h1 h2 h3 h => by
    obtain ⟨arr, el, hc⟩ := cellHeap h1 h2
    rcases h with h | ⟨r, h⟩ | h
    · obtain ⟨n, k', es', q1, q2, q3, q4⟩ := passed h
      have := hI.sep k' k es' es q2 h1 q3 h2 q4
      exact h3 _ (lk_mem q1) this
    · exact hI.sp_ne (.inl ⟨r, hp.lps _ r (by rw [← hlp]; exact h)⟩) hc
    · simp [Ctx.re, Ctx.hide] at h
  -- an object behind the call
  have plO : ∀ {k : Nat}, k < C.H.next → (C.back C2 H').pl k = C.pl k := fun {k} h => by simp [Ctx.back, h]
  have plN : ∀ {i k s : Nat} {es : List AV}, lk m i = some k → lk C2.H.objs i = some (s, es) → (C.back C2 H').pl k = C2.pl i ∧ (k < C.H.next → ∃ n, i = n ∧ lk g n = some k) := fun {i k s es} h h2 => by
    rcases mS h with ⟨h3, h4⟩ | h3
    · refine ⟨?_, fun _ => ⟨i, rfl, h4⟩⟩
      rw [plO (gmem h4).1]
      have h5 := (hM.pins hpin).2 i es h3 (getO h2)
      rw [h5.2]; exact (rePl h4).symm
    · subst h3
      refine ⟨?_, fun h => by omega⟩
      have h1 : ¬ C.H.next + i < C.H.next := by omega
      have h2 : C.H.next + i - C.H.next = i := by omega
      show (if C.H.next + i < C.H.next then _ else _) = _
      rw [if_neg h1, h2]
  have objJ : ∀ {k : Nat} {es' : List AV}, (C.back C2 H').H.get k = some es' → ∃ s, lk H'.objs k = some (s, es') ∧ ((lk C.H.objs k = some (s, es') ∧ (∀ q ∈ g, q.2 ≠ k) ∧ k < C.H.next) ∨ ∃ i es, lk m i = some k ∧ lk C2.H.objs i = some (s, es) ∧ RenL ok m es es') := fun {k es'} h => by
    obtain ⟨s, h1⟩ := getS (K := H') h
    refine ⟨s, h1, (hback.spec h1).imp (fun h => ⟨h.1, h.2, hI.fresh k es' (getO h.1)⟩) id⟩
  have ownJ : ∀ b, (C.back C2 H').own b → C.own b ∨ C2.own b := by
    rintro b (⟨k, es', h1, h2, h3⟩ | ⟨r, h⟩ | h)
    · obtain ⟨s, _, ⟨q1, q2, q3⟩ | ⟨i, es, q1, q2, _⟩⟩ := objJ h1
      · rw [plO q3] at h2 h3; exact .inl (.inl ⟨k, es', getO q1, h2, h3⟩)
      · rw [(plN q1 q2).1] at h2 h3; exact .inr (.inl ⟨i, es, getO q2, h2, h3⟩)
    · rcases hlps b r h with h | h
      · exact .inr (.inr (.inl ⟨r, h⟩))
      · exact .inl (.inr (.inl ⟨r, h.1⟩))
    · exact .inl (.inr (.inr h))
  have ext : Ext C (C.back C2 H') := {
    below := ⟨hM.below.os, hM.below.tape, hM.below.output, hs, fun k hk => absurd hk (Nat.not_lt_zero k)⟩
    keep := fun b hb hn => keep b hb (fun h => hn (own1 h))
    own := fun b hb h => by
      rcases ownJ b h with h | h
      · exact h
      · exact own1 (own2 hb h)
    next := by show C.H.next ≤ H'.next; rw [hnext]; exact Nat.le_add_right _ _
    id := fun k es' hk h => by
      obtain ⟨s, _, ⟨q1, q2, q3⟩ | ⟨i, es, q1, q2, _⟩⟩ := objJ h
      · exact ⟨⟨es', getO q1⟩, plO q3⟩
      · obtain ⟨n, _, h3⟩ := (plN q1 q2).2 hk
        obtain ⟨_, v, hv⟩ := gmem h3
        exact ⟨⟨v.2, getO (s := v.1) (hp.objs k v hv)⟩, plO hk⟩
    prot := rfl
    dfs := rfl
    pin := rfl }
  -- what nobody owned behind the call is nobody's now
  have protOf : ∀ {b : Nat}, C.own b → ¬ Ctx.own { C with H := Hs, dfs := [] } b → C2.bad b := fun {b} h1 h2 => .inr (by rw [hpr]; exact .inr ⟨h1, h2⟩)
  have badJ : (∀ k v, lk C.H.objs k = some v → (∀ q ∈ g, q.2 ≠ k) → lk Hs.objs k = none) → ∀ b, (C.back C2 H').bad b → C2.bad b := by
    rintro hmd b ((⟨k, es', h1, h2, h3⟩ | ⟨r, h⟩ | h) | h)
    · obtain ⟨s, _, ⟨q1, q2, q3⟩ | ⟨i, es, q1, q2, _⟩⟩ := objJ h1
      · rw [plO q3] at h2 h3
        obtain ⟨arr, el, hc⟩ := cellHeap (getO q1) h2
        rw [h3] at hc
        refine protOf (.inl ⟨k, es', getO q1, h2, h3⟩) ?_
        rintro (⟨k', e', r1, r2, r3⟩ | ⟨r, h⟩ | h)
        · have := hI.sep k' k e' es' (part_get hp r1) (getO q1) r2 h2 (r3.trans h3.symm)
          subst this
          have hnone := hmd k' _ q1 q2
          simp [Heap.get, hnone] at r1
        · exact hI.sp_ne (.inl ⟨r, hp.lps b r h⟩) hc
        · simp at h
      · rw [(plN q1 q2).1] at h2 h3; exact .inl (.inl ⟨i, es, getO q2, h2, h3⟩)
    · rcases hlps b r h with h | ⟨h, h'⟩
      · exact .inl (.inr (.inl ⟨r, h⟩))
      · refine protOf (.inr (.inl ⟨r, h⟩)) ?_
        rintro (⟨k', e', r1, r2, r3⟩ | ⟨r', h2⟩ | h2)
        · obtain ⟨arr, el, hc⟩ := cellHeap (part_get hp r1) r2
          have r3' : (C.pl k').blk = b := r3
          rw [r3'] at hc
          exact hI.sp_ne (.inl ⟨r, h⟩) hc
        · have h2' : lk Hs.lps b = some r' := h2
          rw [h'] at h2'; cases h2'
        · simp at h2
    · refine protOf (.inr (.inr h)) ?_
      rintro (⟨k', e', r1, r2, r3⟩ | ⟨r', h2⟩ | h2)
      · obtain ⟨arr, el, hc⟩ := cellHeap (part_get hp r1) r2
        have r3' : (C.pl k').blk = b := r3
        rw [r3'] at hc
        exact hI.sp_ne (.inr h) hc
      · have q1 := hI.lps b r' (hp.lps b r' h2)
        have q2 := hI.dfs b h
        rw [q1] at q2; cases q2
      · simp at h2
    · exact .inr (by rw [hpr]; exact .inl h)
  have atom : ∀ x v, ok x → Rep C2 x v → Rep (C.back C2 H') x v := fun x v hx hr => by
    rcases mode with h | ⟨h1, h2⟩
    · exact (h x hx).rep hr
    · exact hr.move (h1 x hx) (Nat.le_refl _) (fun b _ q2 => ⟨rfl, fun h => q2 (badJ h2 b h)⟩)
  have repJ : ∀ x x' v, Ren ok m x x' → Rep C2 x v → Rep (C.back C2 H') x' v := by
    intro x x' v hs
    induction hs generalizing v with
    | same x hx => exact atom x v hx
    | any x => intro _; exact .any v
    | @view id k off len hk =>
      intro h
      match h with
      | .view _ _ _ _ h1 h2 h3 =>
      refine .view _ _ _ _ ?_ (fun es' he => ?_) h3
      · show k < H'.next
        rw [hnext]
        rcases mS hk with ⟨_, h5⟩ | rfl
        · have := (gmem h5).1; omega
        · omega
      · obtain ⟨s, _, ⟨q1, q2, q3⟩ | ⟨i, es, q1, q2, _⟩⟩ := objJ he
        · exfalso
          rcases mS hk with ⟨_, h5⟩ | h5
          · exact q2 _ (lk_mem h5) rfl
          · omega
        · have hi : i = id := by
            rcases mS hk with ⟨_, h5⟩ | h5 <;> rcases mS q1 with ⟨_, h6⟩ | h6
            · exact (ginj h5 h6).symm
            · have := (gmem h5).1; omega
            · have := (gmem h6).1; omega
            · omega
          subst hi
          rw [(plN q1 q2).1]; exact h2 es (getO q2)
    | @ref id k i j hk =>
      intro h
      match h with
      | .ref _ _ _ _ h1 h2 h3 =>
      refine .ref _ _ _ _ ?_ (fun es' he => ?_) h3
      · show k < H'.next
        rw [hnext]
        rcases mS hk with ⟨_, h5⟩ | rfl
        · have := (gmem h5).1; omega
        · omega
      · obtain ⟨s, _, ⟨q1, q2, q3⟩ | ⟨i', es, q1, q2, _⟩⟩ := objJ he
        · exfalso
          rcases mS hk with ⟨_, h5⟩ | h5
          · exact q2 _ (lk_mem h5) rfl
          · omega
        · have hi : i' = id := by
            rcases mS hk with ⟨_, h5⟩ | h5 <;> rcases mS q1 with ⟨_, h6⟩ | h6
            · exact (ginj h5 h6).symm
            · have := (gmem h5).1; omega
            · have := (gmem h6).1; omega
            · omega
          subst hi
          rw [(plN q1 q2).1]; exact h2 es (getO q2)
    | agg cs cs' hl _ ih =>
      intro h
      match h with
      | .agg _ vs h1 h2 h3 =>
      refine .agg cs' vs (h1.trans hl) h2 (fun k x' hx' => ?_)
      have hk : k < cs.length := by rw [hl]; exact (List.getElem?_eq_some_iff.1 hx').1
      exact ih k cs[k] x' (List.getElem?_eq_getElem hk) hx' _ (h3 k _ (List.getElem?_eq_getElem hk))
    | tuple cs cs' hl _ ih =>
      intro h
      match h with
      | .tuple _ vs h1 h3 =>
      refine .tuple cs' vs (h1.trans hl) (fun k x' hx' => ?_)
      have hk : k < cs.length := by rw [hl]; exact (List.getElem?_eq_some_iff.1 hx').1
      exact ih k cs[k] x' (List.getElem?_eq_getElem hk) hx' _ (h3 k _ (List.getElem?_eq_getElem hk))
    | clo fn cs cs' hl _ ih =>
      intro h
      match h with
      | .clo _ _ vs h1 h3 =>
      refine .clo fn cs' vs (h1.trans hl) (fun k x' hx' => ?_)
      have hk : k < cs.length := by rw [hl]; exact (List.getElem?_eq_some_iff.1 hx').1
      exact ih k cs[k] x' (List.getElem?_eq_getElem hk) hx' _ (h3 k _ (List.getElem?_eq_getElem hk))
    | ifc t x x' _ ih =>
      intro h
      match h with
      | .ifc _ _ v h1 => exact .ifc t x' v (ih v h1)
  refine ⟨ext, ?_, repJ⟩
  have newBlk : ∀ {i s : Nat} {es : List AV} {k0 : Nat} {es0 : List AV}, lk C2.H.objs i = some (s, es) → (C2.pl i).nil = false → C.H.get k0 = some es0 → (C.pl k0).nil = false → (∀ q ∈ g, q.2 ≠ k0) → (C2.pl i).blk ≠ (C.pl k0).blk := fun {i s es k0 es0} h1 h2 h3 h4 h5 he => by
    have hlt := hI.lt h3 h4
    refine keptFree h3 h4 h5 (own2 hlt ?_)
    exact .inl ⟨i, es, getO h1, h2, he⟩
  exact {
    fresh := fun k es' h => by
      show k < H'.next
      rw [hnext]
      obtain ⟨s, _, ⟨q1, q2, q3⟩ | ⟨i, es, q1, q2, _⟩⟩ := objJ h
      · omega
      · rcases mS q1 with ⟨_, h5⟩ | rfl
        · have := (gmem h5).1; omega
        · have := hI2.fresh i es (getO q2); omega
    nil := fun k es' h hn => by
      obtain ⟨s, _, ⟨q1, q2, q3⟩ | ⟨i, es, q1, q2, q3⟩⟩ := objJ h
      · rw [plO q3] at hn; exact hI.nil k es' (getO q1) hn
      · rw [(plN q1 q2).1] at hn
        have := hI2.nil i es (getO q2) hn
        subst this
        exact List.eq_nil_of_length_eq_zero q3.len.symm
    obj := fun k es' h hn => by
      obtain ⟨s, _, ⟨q1, q2, q3⟩ | ⟨i, es, q1, q2, q3⟩⟩ := objJ h
      · rw [plO q3] at hn ⊢
        exact (hI.obj k es' (getO q1) hn).ext ext (keep _ (hI.lt (getO q1) hn) (keptFree (getO q1) hn q2))
      · rw [(plN q1 q2).1] at hn ⊢
        have hO := hI2.obj i es (getO q2) hn
        have bk : ∀ {q : Nat} {e' : AV}, es'[q]? = some e' → ∃ e, es[q]? = some e ∧ e.flat.length = e'.flat.length ∧ ∀ (j : Nat) (x x' : AV), e.flat[j]? = some x → e'.flat[j]? = some x' → Ren ok m x x' := fun {q e'} hq => by
          have hk : q < es.length := by rw [q3.len]; exact (List.getElem?_eq_some_iff.1 hq).1
          exact ⟨es[q], List.getElem?_eq_getElem hk, q3.see q _ e' (List.getElem?_eq_getElem hk) hq⟩
        refine ⟨hO.n.trans q3.len, hO.cap, hO.blk, hO.one, fun q e' he' => ?_, fun q j e' x' v he' hx' hv => ?_⟩
        · obtain ⟨e, h1, h2, _⟩ := bk he'
          rw [← h2]; exact hO.flat q e h1
        · obtain ⟨e, h1, h2, h3⟩ := bk he'
          have hj : j < e.flat.length := by rw [h2]; exact (List.getElem?_eq_some_iff.1 hx').1
          exact repJ _ _ _ (h3 j _ x' (List.getElem?_eq_getElem hj) hx') (hO.cell q j e _ v h1 (List.getElem?_eq_getElem hj) hv)
    sep := fun k1 k2 e1 e2 h1 h2 n1 n2 hb => by
      obtain ⟨s1, _, ⟨a1, a2, a3⟩ | ⟨i1, es1, a1, a2, _⟩⟩ := objJ h1 <;> obtain ⟨s2, _, ⟨b1, b2, b3⟩ | ⟨i2, es2, b1, b2, _⟩⟩ := objJ h2
      · rw [plO a3] at n1 hb; rw [plO b3] at n2 hb
        exact hI.sep k1 k2 e1 e2 (getO a1) (getO b1) n1 n2 hb
      · rw [plO a3] at n1 hb; rw [(plN b1 b2).1] at n2 hb
        exact absurd hb.symm (newBlk b2 n2 (getO a1) n1 a2)
      · rw [(plN a1 a2).1] at n1 hb; rw [plO b3] at n2 hb
        exact absurd hb (newBlk a2 n1 (getO b1) n2 b2)
      · rw [(plN a1 a2).1] at n1 hb; rw [(plN b1 b2).1] at n2 hb
        have := hI2.sep i1 i2 es1 es2 (getO a2) (getO b2) n1 n2 hb
        subst this
        rw [a1] at b1; exact Option.some.inj b1
    prot := fun k es' h hn hb => by
      obtain ⟨s, _, ⟨q1, q2, q3⟩ | ⟨i, es, q1, q2, q3⟩⟩ := objJ h
      · rw [plO q3] at hn hb; exact hI.prot k es' (getO q1) hn hb
      · rw [(plN q1 q2).1] at hn hb
        exact hI2.prot i es (getO q2) hn (by rw [hpr]; exact .inl hb)
    szok := fun k s h hn => by
      obtain ⟨⟨s', es'⟩, h1, h2⟩ := Option.map_eq_some_iff.1 h
      simp only at h2; subst h2
      rcases hback.spec h1 with ⟨q1, q2⟩ | ⟨i, es, q1, q2, _⟩
      · have q3 := hI.fresh k es' (getO q1)
        rw [plO q3] at hn ⊢; exact hI.szok k _ (by simp [Heap.sz, q1]) hn
      · rw [(plN q1 q2).1] at hn ⊢; exact hI2.szok i _ (by simp [Heap.sz, q2]) hn
    protlt := fun b hb => Nat.lt_of_lt_of_le (hI.protlt b hb) hs
    protge := hI.protge
    size := by have := hI2.size; rw [hB] at this; exact this
    glob := fun b hb => ⟨by have := (hI2.glob b (by rw [hB]; exact hb)).1; rw [hB] at this; exact this, fun ho => by
      rcases ownJ b ho with h | h
      · exact (hI.glob b hb).2 h
      · exact (hI2.glob b (by rw [hB]; exact hb)).2 h⟩
    lps := fun l r h => by
      rcases hlps l r h with h | ⟨h, h'⟩
      · exact hI2.lps l r h
      · have h1 := hI.lps l r h
        rw [← h1]
        refine keep l (Array.getElem?_eq_some_iff.1 h1).1 ?_
        rintro (h2 | ⟨r', h2⟩ | h2)
        · obtain ⟨n, k, es, _, q2, q3, q4⟩ := passed h2
          obtain ⟨arr, el, hc⟩ := cellHeap q2 q3
          rw [q4, h1] at hc; cases hc
        · have h2' : lk Hin.lps l = some r' := h2
          rw [hlp, h'] at h2'; cases h2'
        · simp [Ctx.re, Ctx.hide] at h2
    dfs := fun d h => by
      have h1 := hI.dfs d h
      rw [← h1]
      refine keep d (Array.getElem?_eq_some_iff.1 h1).1 ?_
      rintro (h2 | ⟨r', h2⟩ | h2)
      · obtain ⟨n, k, es, _, q2, q3, q4⟩ := passed h2
        obtain ⟨arr, el, hc⟩ := cellHeap q2 q3
        rw [q4, h1] at hc; cases hc
      · have q1 := hI.lps d r' (hp.lps d r' (by rw [← hlp]; exact h2))
        rw [h1] at q1; cases q1
      · simp [Ctx.re, Ctx.hide] at h2
    dnd := hI.dnd
    rod := hI.rod
    spprot := fun b h hb => by
      rcases h with ⟨r, h⟩ | h
      · rcases hlps b r h with h | ⟨h, _⟩
        · exact hI2.spprot b (.inl ⟨r, h⟩) (by rw [hpr]; exact .inl hb)
        · exact hI.spprot b (.inl ⟨r, h⟩) hb
      · exact hI.spprot b (.inr h) hb
    pinB := hI.pinB
    pinlt := Nat.le_trans hI.pinlt ext.next
    gh := W0.st C _ ext.mem hI.pinlt hI.gh }

theorem Inv.repin {B1 : Base} {p : Nat} (hI : Inv (.of W0.w) C) (hB : B1.w = W0.w) (hp : B1.p = p) (hle : p ≤ C.H.next) (hd : C.dfs = []) (hG : B1.G { C with pin := p }) : Inv B1 { C with pin := p } where
  fresh := hI.fresh
  nil := hI.nil
  obj id es h hn := by
    have hO := hI.obj id es h hn
    exact ⟨hO.n, hO.cap, hO.blk, hO.one, hO.flat, fun i j e x v h1 h2 h3 => (hO.cell i j e x v h1 h2 h3).sub rfl (Nat.le_refl _) (fun id es _ h => ⟨es, h⟩) (fun _ _ => rfl) (fun b h => h)⟩
  sep := hI.sep
  prot := hI.prot
  szok := hI.szok
  protlt := hI.protlt
  protge b h := by rw [hB]; exact hI.protge b h
  size := by rw [hB]; exact hI.size
  glob b h := by rw [hB] at h ⊢; exact hI.glob b h
  lps := hI.lps
  dfs := hI.dfs
  dnd := hI.dnd
  rod _ _ := hd
  spprot := hI.spprot
  pinB := hp.symm
  pinlt := hle
  gh := hG

def PartL (H : Heap) : List (Nat × (Nat × List AV)) → Prop
  | [] => True
  | (k, v) :: r => lk H.objs k = some v ∧ PartL H r
theorem PartL.spec {H : Heap} : ∀ {l : List (Nat × (Nat × List AV))}, PartL H l → ∀ k v, lk l k = some v → lk H.objs k = some v
  | [], _, _, _, h => by cases h
  | (q, u) :: l, hl, k, v, h => by
    simp only [lk] at h
    split at h
    · rename_i hq; subst hq; cases h; exact hl.1
    · exact PartL.spec hl.2 k v h

structure Pass (ok : AV → Prop) (fr fr' : List (Nat × AV)) (H Hs Hin Hout H' : Heap) (g m : List (Nat × Nat)) (nw : List Nat) (p : Nat) (r r' : AV) : Prop where
  next : Hs.next = H.next
  part : PartL H Hs.objs
  inj : g.all (fun p => g.all (fun q => p.2 != q.2 || p.1 == q.1)) = true
  lt : g.all (fun p => decide (p.1 < Hin.next)) = true
  nwf : nw.all (fun n => (lk g n).isNone && decide (n < Hin.next)) = true
  gin : g.all (fun q => (lk Hs.objs q.2).isSome) = true
  held : Held Hs g nw Hin.next Hin.objs
  seen : Seen Hs g nw fr fr'
  inlps : Hin.lps = Hs.lps
  ple : decide (p ≤ Hin.next) = true
  map : mapOk p H.next g m = true
  next' : H'.next = H.next + Hout.next
  back : Back ok H g m Hout H'.objs
  lps : (Hs.lps = [] ∧ H'.lps = H.lps) ∨ (Hs.lps = H.lps ∧ H'.lps = Hout.lps)
  mode : (∀ x, ok x → Dry x) ∨ ((∀ x, ok x → NoId x) ∧ H.objs.all (fun e => g.any (fun q => q.2 == e.1) || (lk Hs.objs e.1).isNone) = true)
  ren : Ren ok m r r'

def Ctx.sub (C : Ctx) (Hs Hin : Heap) (g : List (Nat × Nat)) (p : Nat) : Ctx := { (C.hide Hs).re g Hin with pin := p }

theorem Pass.isPart {ok : AV → Prop} {fr fr' : List (Nat × AV)} {H Hs Hin Hout H' : Heap} {g m : List (Nat × Nat)} {nw : List Nat} {p : Nat} {r r' : AV} (h : Pass ok fr fr' H Hs Hin Hout H' g m nw p r r') : Part Hs H :=
  ⟨h.next, h.part.spec, fun l r hl => by
    rcases h.lps with ⟨h1, _⟩ | ⟨h1, _⟩
    · rw [h1] at hl; cases hl
    · rw [h1] at hl; exact hl⟩

theorem Pass.into {ok : AV → Prop} {fr fr' : List (Nat × AV)} {H Hs Hin Hout H' : Heap} {g m : List (Nat × Nat)} {nw : List Nat} {p : Nat} {r r' : AV} {n : Nat} {vals : Array Value} (h : Pass ok fr fr' H Hs Hin Hout H' g m nw p r r')
    (hI : Inv W0 C) (hH : C.H = H) (hsz : vals.size = n) (hrep : ∀ t x, lk fr t = some x → Rep C x (vals.getD t undef)) :
    Rel (.of W0.w) n (lk fr') Hin ((C.hide Hs).re g Hin) { tmps := vals, defers := [] } := by
  have hp := h.isPart
  rw [← hH] at hp
  have hr0 : Rel (.of W0.w) n (lk fr) Hs (C.hide Hs) { tmps := vals, defers := [] } := ⟨rfl, hI.hide hp, hsz, rfl, fun t x hx => (hrep t x hx).hide hp⟩
  exact (re_rel (st := ⟨fr, Hs⟩) g nw h.inj h.lt h.nwf h.held h.seen (by simp [pinOk]) h.inlps hr0).2

theorem rep_pin {x : AV} {v : Value} {p : Nat} (h : Rep C x v) : Rep { C with pin := p } x v :=
  h.sub rfl (Nat.le_refl _) (fun id es _ h => ⟨es, h⟩) (fun _ _ => rfl) (fun b h => h)

theorem Pass.outof {ok : AV → Prop} {fr fr' : List (Nat × AV)} {H Hs Hin Hout H' : Heap} {g m : List (Nat × Nat)} {nw : List Nat} {p : Nat} {r r' : AV} {B1 : Base} {C2 : Ctx} (h : Pass ok fr fr' H Hs Hin Hout H' g m nw p r r')
    (hI : Inv W0 C) (hH : C.H = H) (hB : B1.w = W0.w) (hM : Mem (C.sub Hs Hin g p) C2) (hI2 : Inv B1 C2) (hH2 : C2.H = Hout) (hd2 : C2.dfs = []) :
    Ext C (C.back C2 H') ∧ Inv W0 (C.back C2 H') ∧ ∀ v, Rep C2 r v → Rep (C.back C2 H') r' v := by
  have hp := h.isPart
  subst hH hH2
  obtain ⟨h1, h2, h3⟩ := sub_out (ok := ok) (H' := H') (m := m) (nw := nw) hI hp hB h.held (fun n hn => by
      have := List.all_eq_true.1 h.nwf n hn
      simp at this; exact this.1) h.inj (fun q hq => List.all_eq_true.1 h.gin q hq) h.inlps hM (of_decide_eq_true h.ple) hI2 hd2 h.map h.next' h.back (fun l r hl => by
      rcases h.lps with ⟨q1, q2⟩ | ⟨q1, q2⟩
      · rw [q2] at hl; exact .inr ⟨hl, by rw [q1]; rfl⟩
      · rw [q2] at hl; exact .inl hl) (h.mode.imp id fun ⟨q1, q2⟩ => ⟨q1, fun k v hk hq => by
      have := List.all_eq_true.1 q2 _ (lk_mem hk)
      simp only [Bool.or_eq_true, List.any_eq_true, beq_iff_eq, Option.isNone_iff_eq_none] at this
      rcases this with ⟨q, hq1, hq2⟩ | h
      · exact absurd hq2 (hq q hq1)
      · exact h⟩)
  exact ⟨h1, h2, fun v hv => h3 r r' v h.ren hv⟩

theorem call3 {ok : AV → Prop} {f : FuncId} {ys xs : List AV} {r r' : AV} {Hs Hin Hout H' : Heap} {g m : List (Nat × Nat)} {nw : List Nat} {p : Nat} {B1 : Base} {vals : Array Value} (hf : Fun3 P B1 f xs Hin r Hout) (hB : B1.w = W0.w) (hBp : B1.p = p)
    (h : Pass ok (argsFr 0 ys) (argsFr 0 xs) H Hs Hin Hout H' g m nw p r r') (hl : xs.length = ys.length) (hI : Inv W0 C) (hH : C.H = H) (hsz : vals.size = ys.length) (hrep : ∀ t x, lk (argsFr 0 ys) t = some x → Rep C x (vals.getD t undef))
    (hG : B1.G (C.sub Hs Hin g p)) :
    Calls P f vals C.w (fun e w' => ∃ v C', e = .returned v ∧ C'.w = w' ∧ Ext C C' ∧ Inv W0 C' ∧ C'.H = H' ∧ Rep C' r' v) := by
  have h1 := h.into hI hH hsz hrep
  have h2 : Inv B1 (C.sub Hs Hin g p) := h1.inv.repin (W0 := W0) hB hBp (of_decide_eq_true h.ple) rfl hG
  refine (hf.runs (C.sub Hs Hin g p) vals h2 rfl rfl (by rw [hl]; exact hsz) (fun k x hx => rep_pin (rel_args h1 k x hx))).mono ?_
  rintro e w' ⟨v, C2, rfl, rfl, hM, hI2, hH2, hd2, hr⟩
  obtain ⟨q1, q2, q3⟩ := h.outof hI hH hB hM hI2 hH2 hd2
  exact ⟨v, C.back C2 H', rfl, rfl, q1, q2, rfl, q3 v hr⟩

end
end Go.Av
end

section
/- Ranges over functions: the statement, its rounds, and the calls of yield. -/
namespace Go.Av

def rangesOf : Code → List (Array Tmp × Code × Code)
  | .seq a b => rangesOf a ++ rangesOf b
  | .cond _ a b => rangesOf a ++ rangesOf b
  | .block _ c => rangesOf c
  | .loop c => rangesOf c
  | .scope c => rangesOf c
  | .rangeFunc _ ps a b => (ps, a, b) :: (rangesOf a ++ rangesOf b)
  | _ => []

structure RecAt (rec : Loop) (fn : Func) (k N : Nat) : Prop where
  ready : rec.state = .ready
  none : rec.pending = none
  code : (fn.body.bind fun c => (rangesOf c)[k]?) = some (rec.params, rec.assign, rec.body)
  size : rec.tmps.size = N

def lpst (rec : Loop) (j : Code) : Bool → Loop
  | true => rec
  | false => { rec with state := .done, pending := some j }

def endRec (rec : Loop) : Option Code → Loop
  | none => rec
  | some c => lpst rec c false

theorem RecAt.params {rec : Loop} {fn : Func} {k N : Nat} {ps : Array Tmp} {as bd : Code} (h : RecAt rec fn k N) (hc : (fn.body.bind fun c => (rangesOf c)[k]?) = some (ps, as, bd)) : rec.params = ps := by
  have := h.code
  rw [hc] at this
  simp only [Option.some.injEq, Prod.mk.injEq] at this
  exact this.1.symm

theorem RecAt.endRec {rec : Loop} {fn : Func} {k N : Nat} (h : RecAt rec fn k N) (j : Option Code) : ({ rec with state := if j.isNone then .ready else .done, pending := j } : Loop) = endRec rec j := by
  have h1 := h.ready
  have h2 := h.none
  cases rec
  simp only at h1 h2
  subst h1 h2
  cases j <;> rfl

def Base.it (W : World) (p : Nat) (rec : Loop) (frl : List (Nat × AV)) : Base where
  w := W
  p := p
  ro := none
  G C := C.pin = p ∧ ∀ t x, lk frl t = some x → Under p x ∧ Rep C x (rec.tmps.getD t undef)
  st C C' hM hp h := ⟨hM.pin.trans h.1, fun t x hx => ⟨(h.2 t x hx).1, (h.2 t x hx).2.mem hM hp (by rw [h.1]; exact (h.2 t x hx).1)⟩⟩
  dx := []

def Base.rd (W : World) (p : Nat) (l : Nat) : Base := ⟨W, p, some l, fun _ => True, fun _ _ _ _ _ => trivial, []⟩

section
variable {P : Program} {W0 : Base} {C : Ctx} {fr : Fr} {a : Act} {H : Heap} {o : Oper} {N : Nat}

theorem poke {C' : Ctx} (hI : Inv W0 C) {b : Nat} (hb : C.sp b) {ob : Obj} (hw : C'.w = C.w.putObj b ob) (hobjs : C'.H.objs = C.H.objs) (hnext : C'.H.next = C.H.next) (hpl : C'.pl = C.pl) (hprot : C'.prot = C.prot) (hpin : C'.pin = C.pin)
    (hsp : ∀ b, C'.sp b → C.sp b) (hlps : ∀ l r, lk C'.H.lps l = some r → C'.w.heap[l]? = some (.loop r)) (hdfs : ∀ d, d ∈ C'.dfs → C'.w.heap[d]? = some (.deferred (some []))) (hdnd : C'.dfs.Nodup) (hrod : ∀ l, W0.ro = some l → C'.dfs = []) :
    Mem C C' ∧ Inv W0 C' ∧ ∀ x v, Rep C x v → Rep C' x v := by
  obtain ⟨ob0, hd, hnc⟩ := hI.sp_heap hb
  have hsz : C'.w.heap.size = C.w.heap.size := by rw [hw]; simp
  have hne : ∀ q, q ≠ b → C'.w.heap[q]? = C.w.heap[q]? := fun q hq => by rw [hw]; exact World.putObj_heap_other hq
  have hcell : ∀ {q : Nat} {arr : Array Value} {el : TypeId} {fz : Nat × Nat}, C.w.heap[q]? = some (.cells arr el fz) → q ≠ b := fun {q arr el fz} h hq => by
    subst hq; rw [hd] at h; exact hnc _ _ _ (Option.some.inj h)
  have hget : ∀ id, C'.H.get id = C.H.get id := fun id => by simp [Heap.get, hobjs]
  have hown : ∀ q, C'.own q → C.own q := by
    rintro q (⟨id, es, h1, h2, h3⟩ | h)
    · exact .inl ⟨id, es, by rw [← hget]; exact h1, by rw [← hpl]; exact h2, by rw [← hpl]; exact h3⟩
    · exact .inr (hsp q h)
  have hbad : ∀ q, C'.bad q → C.bad q := fun q h => h.imp (hown q) (fun h => by rw [← hprot]; exact h)
  have hM : Mem C C' := ⟨by rw [hw]; exact ⟨rfl, rfl, rfl, by simp, fun k hk => absurd hk (Nat.not_lt_zero k)⟩, fun q _ hq => hne q (fun h => hq (.inr (h ▸ hb))), fun q _ h => hown q h, hprot, hpin, fun hp => ⟨by rw [hpin, hnext]; exact hp, fun k es' _ hg => ⟨⟨es', by rw [← hget]; exact hg⟩, by rw [hpl]⟩⟩⟩
  have hholds : ∀ {q i : Nat} {v : Value}, Holds C.w q i v → Holds C'.w q i v := fun {q i v} h => by
    refine ⟨?_, h.2⟩
    have hq : q ≠ b := fun hq => by
      subst hq
      have := h.1
      unfold World.cell? at this
      rw [hd] at this
      cases ob0 <;> first | exact hnc _ _ _ rfl | (simp at this)
    rw [World.cell?_of_block (w := C.w) (a := ⟨q, i, none⟩) (hne q hq)]
    exact h.1
  have hrep : ∀ x v, Rep C x v → Rep C' x v := by
    intro x v h
    induction h with
    | any v => exact .any v
    | imm v hv => exact .imm v hv
    | slNil a cap => exact .slNil a cap
    | sl es q off sz cap c hlt hbd hc hf hcell _ ih => exact .sl es q off sz cap c (by rw [hsz]; exact hlt) (fun h => hbd (hbad q h)) hc hf (fun i j e x he hx => hholds (hcell i j e x he hx)) ih
    | clipNil a => exact .clipNil a
    | clip es q off sz c hlt hbd hf hcell _ ih => exact .clip es q off sz c (by rw [hsz]; exact hlt) (fun h => hbd (hbad q h)) hf (fun i j e x he hx => hholds (hcell i j e x he hx)) ih
    | view id off len v hid hs h1 => exact .view id off len v (by rw [hnext]; exact hid) (fun es he => by rw [hpl]; exact hs es (by rw [← hget]; exact he)) h1
    | ref id i j v hid hs h1 => exact .ref id i j v (by rw [hnext]; exact hid) (fun es he => by rw [hpl]; exact hs es (by rw [← hget]; exact he)) h1
    | pp fl j q off c hlt hbd hcell _ ih => exact .pp fl j q off c (by rw [hsz]; exact hlt) (fun h => hbd (hbad q h)) (fun k x hx => hholds (hcell k x hx)) ih
    | agg cs vs hs h1 _ ih => exact .agg cs vs hs h1 ih
    | tuple cs vs hs _ ih => exact .tuple cs vs hs ih
    | ifc t x v _ ih => exact .ifc t x v ih
    | clo fn caps vs hs _ ih => exact .clo fn caps vs hs ih
  refine ⟨hM, ?_, hrep⟩
  exact {
    fresh := fun id es h => by rw [hnext]; exact hI.fresh id es (by rw [← hget]; exact h)
    nil := fun id es h hn => hI.nil id es (by rw [← hget]; exact h) (by rw [← hpl]; exact hn)
    obj := fun id es h hn => by
      rw [hget] at h; rw [hpl] at hn ⊢
      have hO := hI.obj id es h hn
      obtain ⟨arr, el, h1, h2⟩ := hO.blk
      have hq := hcell h1
      have hc : ∀ o, C'.w.cell? ⟨(C.pl id).blk, o, none⟩ = C.w.cell? ⟨(C.pl id).blk, o, none⟩ := fun o => World.cell?_of_block (w := C.w) (a := ⟨_, o, none⟩) (hne _ hq)
      exact ⟨hO.n, hO.cap, ⟨arr, el, by rw [← h1]; exact hne _ hq, h2⟩, fun o v hv => hO.one o v (by rw [← hc o]; exact hv), hO.flat, fun i j e x v h1 h2 h3 => hrep _ _ (hO.cell i j e x v h1 h2 (by rw [← hc]; exact h3))⟩
    sep := fun i1 i2 e1 e2 h1 h2 h3 h4 h5 => hI.sep i1 i2 e1 e2 (by rw [← hget]; exact h1) (by rw [← hget]; exact h2) (by rw [← hpl]; exact h3) (by rw [← hpl]; exact h4) (by rw [← hpl]; exact h5)
    prot := fun id es h hn hp => hI.prot id es (by rw [← hget]; exact h) (by rw [← hpl]; exact hn) (by rw [hprot, hpl] at hp; exact hp)
    szok := fun id s h hn => by
      rw [hpl] at hn ⊢
      exact hI.szok id s (by simpa [Heap.sz, hobjs] using h) hn
    protlt := fun q h => by rw [hsz]; exact hI.protlt q (by rw [← hprot]; exact h)
    protge := fun q h => hI.protge q (by rw [← hprot]; exact h)
    size := by rw [hsz]; exact hI.size
    glob := fun q h => ⟨by
      rw [← (hI.glob q h).1]
      exact hne q (fun hq => (hI.glob q h).2 (.inr (hq ▸ hb))), fun ho => (hI.glob q h).2 (hown q ho)⟩
    lps := hlps
    dfs := hdfs
    dnd := hdnd
    rod := hrod
    spprot := fun q h hp => hI.spprot q (hsp q h) (by rw [← hprot]; exact hp)
    pinB := by rw [hpin]; exact hI.pinB
    pinlt := by rw [hpin, hnext]; exact hI.pinlt
    gh := W0.st C C' hM hI.pinlt hI.gh }

def Ctx.turn (C : Ctx) (l : Nat) (r : Loop) : Ctx := { C with w := C.w.putObj l (.loop r), H := { C.H with lps := [(l, r)] } }

theorem rec_turns (hI : Inv W0 C) {l : Nat} {r0 : Loop} (r : Loop) (hl : C.H.lps = [(l, r0)]) : Mem C (C.turn l r) ∧ Inv W0 (C.turn l r) ∧ ∀ x v, Rep C x v → Rep (C.turn l r) x v := by
  have h0 : C.w.heap[l]? = some (.loop r0) := hI.lps l r0 (by rw [hl]; simp [lk])
  have hlt : l < C.w.heap.size := (Array.getElem?_eq_some_iff.1 h0).1
  refine poke (C' := C.turn l r) hI (b := l) (.inl ⟨r0, by rw [hl]; simp [lk]⟩) (ob := .loop r) rfl rfl rfl rfl rfl rfl (fun b h => ?_) (fun l' r' h => ?_) (fun d h => ?_) hI.dnd hI.rod
  · rcases h with ⟨r', h⟩ | h
    · simp only [Ctx.turn, lk] at h
      split at h
      · rename_i hb; subst hb; exact .inl ⟨r0, by rw [hl]; simp [lk]⟩
      · cases h
    · exact .inr h
  · simp only [Ctx.turn, lk] at h
    split at h
    · rename_i hb; subst hb; cases h; exact World.putObj_heap_same hlt
    · cases h
  · have h1 := hI.dfs d h
    rw [← h1]
    refine World.putObj_heap_other (fun hd => ?_)
    rw [hd, h0] at h1; cases h1


def Round3 (P : Program) (W : World) (p : Nat) (l : Nat) (rec : Loop) (frl : List (Nat × AV)) (xs : List AV) (Hin : Heap) (b : Bool) (Hout : Heap) : Prop :=
  ∀ (C : Ctx) (vals : Array Value), Inv (.rd W p l) C → C.H = Hin → vals.size = xs.length → (∀ (k : Nat) (x : AV), xs[k]? = some x → Rep C x (vals.getD k undef)) →
    (∀ t x, lk frl t = some x → Rep C x (rec.tmps.getD t undef)) →
    RoundIn Fence.wide 0 P l rec.fn ((rec.params.zip vals).foldl (fun tmps (t, a) => tmps.setIfInBounds t a) rec.tmps) rec.assign rec.body C.w
      (fun e w' => ∃ C', e = .returned (.bool b) ∧ C'.w = w' ∧ Mem C C' ∧ Inv (.rd W p l) C' ∧ C'.H = Hout)

def jumpOf : Exit → Option (Option Code)
  | .normal => some none
  | .ret => some (some .ret)
  | .exit id => some (some (.exit id))
  | .goto t => some (some (.goto t))
  | _ => none

theorem foldl_set_size (l : List (Nat × Value)) (tm : Array Value) : (l.foldl (fun tmps (t, a) => tmps.setIfInBounds t a) tm).size = tm.size := by
  induction l generalizing tm with
  | nil => rfl
  | cons p l ih => simp [ih]

theorem foldl_set_get (l : List (Nat × Value)) (tm : Array Value) (t : Nat) :
    (∃ (k : Nat) (v : Value), l[k]? = some (t, v) ∧ (l.foldl (fun tmps (t, a) => tmps.setIfInBounds t a) tm).getD t undef = (if t < tm.size then v else undef)) ∨
    ((∀ q ∈ l, q.1 ≠ t) ∧ (l.foldl (fun tmps (t, a) => tmps.setIfInBounds t a) tm).getD t undef = tm.getD t undef) := by
  induction l generalizing tm with
  | nil => exact .inr ⟨fun q h => (by cases h), rfl⟩
  | cons p l ih =>
    obtain ⟨s, u⟩ := p
    rcases ih (tm.setIfInBounds s u) with ⟨k, v, h1, h2⟩ | ⟨h1, h2⟩
    · left
      refine ⟨k + 1, v, by simpa using h1, ?_⟩
      simp only [List.foldl_cons]
      rw [h2]; simp
    · by_cases hs : s = t
      · subst hs
        left
        refine ⟨0, u, rfl, ?_⟩
        simp only [List.foldl_cons]
        rw [h2]
        by_cases hlt : s < tm.size
        · simp [hlt, Array.getD]
        · simp [hlt, Array.getD]
      · right
        refine ⟨fun q hq => ?_, ?_⟩
        · rcases List.mem_cons.1 hq with rfl | hq
          · exact hs
          · exact h1 q hq
        · simp only [List.foldl_cons]
          rw [h2]
          simp only [Array.getD_eq_getD_getElem?]
          rw [Array.getElem?_setIfInBounds_ne hs]

def roundFr (ps : List Nat) (xs : List AV) (frl : List (Nat × AV)) : List (Nat × AV) := ps.zip xs ++ frl

theorem round3_of_awp {W : World} {p l N k : Nat} {rec : Loop} {fn : Func} {frl : List (Nat × AV)} {xs : List AV} {Hin Hout : Heap} {b : Bool} {ps : Array Tmp} {as bd : Code} (hrec : RecAt rec fn k N) (hcode : (fn.body.bind fun c => (rangesOf c)[k]?) = some (ps, as, bd))
    (hlp : Hin.lps = [(l, rec)]) (hxs : xs.length = ps.size) (hN : ps.toList.all (fun t => decide (t < N)) = true) (hnd : ps.toList.Nodup)
    (h : AWP P (.rd W p l) N as ⟨roundFr ps.toList xs frl, Hin⟩ (fun e s => e = .normal ∧ s.H.lps = [(l, rec)] ∧
      AWP P (.rd W p l) N bd ⟨s.fr, { s.H with lps := [(l, { rec with state := .busy })] }⟩ (fun e s => s.H.lps = [(l, { rec with state := .busy })] ∧ ∃ j, jumpOf e = some j ∧ b = j.isNone ∧
        Weak (.rd W p l) 0 ⟨[], { s.H with lps := [(l, endRec rec j)] }⟩ ⟨[], Hout⟩))) :
    Round3 P W p l rec frl xs Hin b Hout := by
  intro C vals hI hH hsz hrep hrl
  have hc := hrec.code
  rw [hcode] at hc
  simp only [Option.some.injEq, Prod.mk.injEq] at hc
  obtain ⟨rfl, rfl, rfl⟩ := hc
  have hzip : ∀ (i : Nat) (t : Nat) (v : Value), (rec.params.zip vals).toList[i]? = some (t, v) → rec.params.toList[i]? = some t ∧ vals.toList[i]? = some v := fun i t v h => by
    rw [Array.toList_zip, List.getElem?_zip_eq_some] at h
    exact h
  have hfold : (rec.params.zip vals).foldl (fun tmps (t, a) => tmps.setIfInBounds t a) rec.tmps = (rec.params.zip vals).toList.foldl (fun tmps (t, a) => tmps.setIfInBounds t a) rec.tmps := by
    rw [← Array.foldl_toList]
  have hsize : ((rec.params.zip vals).foldl (fun tmps (t, a) => tmps.setIfInBounds t a) rec.tmps).size = N := by
    rw [hfold, foldl_set_size, hrec.size]
  have hrel : Rel (.rd W p l) N (lk (roundFr rec.params.toList xs frl)) Hin C { tmps := (rec.params.zip vals).foldl (fun tmps (t, a) => tmps.setIfInBounds t a) rec.tmps, defers := [] } := by
    refine ⟨hH, hI, hsize, by have := hI.rod l rfl; simp [this, Base.rd], fun t x hx => ?_⟩
    show Rep C x (((rec.params.zip vals).foldl (fun tmps (t, a) => tmps.setIfInBounds t a) rec.tmps).getD t undef)
    rw [hfold]
    simp only [roundFr] at hx
    rw [lk_append] at hx
    rcases foldl_set_get (rec.params.zip vals).toList rec.tmps t with ⟨i, v, h1, h2⟩ | ⟨h1, h2⟩
    · rw [h2]
      obtain ⟨q1, q2⟩ := hzip i t v h1
      have htN : t < rec.tmps.size := by
        rw [hrec.size]
        have := List.all_eq_true.1 hN t (List.mem_of_getElem? q1)
        simpa using this
      rw [if_pos htN]
      have hix : i < xs.length := by rw [hxs]; simpa using (List.getElem?_eq_some_iff.1 q1).1
      have hz : lk (rec.params.toList.zip xs) t = some xs[i] := by
        have key : ∀ (ps : List Nat) (xs : List AV) (i : Nat) (x : AV), ps.Nodup → ps[i]? = some t → xs[i]? = some x → lk (ps.zip xs) t = some x := by
          intro ps
          induction ps with
          | nil => intro xs i x _ h; simp at h
          | cons q ps ih =>
            intro xs i x hn hq hy
            cases xs with
            | nil => simp at hy
            | cons y ys =>
              cases i with
              | zero => simp at hq hy; subst hy; rw [hq]; simp [lk]
              | succ i =>
                simp at hq hy
                have hne : q ≠ t := fun he => (List.nodup_cons.1 hn).1 (he ▸ List.mem_of_getElem? hq)
                simp only [List.zip_cons_cons, lk]
                rw [if_neg hne]
                exact ih ys i x (List.nodup_cons.1 hn).2 hq hy
        exact key _ _ i _ hnd q1 (List.getElem?_eq_getElem hix)
      rw [hz] at hx
      simp only [Option.some.injEq] at hx
      subst hx
      have := hrep i xs[i] (List.getElem?_eq_getElem hix)
      have hv : vals.getD i undef = v := by
        have : vals[i]? = some v := by simpa using q2
        simp [Array.getD_eq_getD_getElem?, this]
      rwa [hv] at this
    · rw [h2]
      have hz : lk (rec.params.toList.zip xs) t = none := by
        have key : ∀ (ps : List Nat) (xs : List AV), (∀ q ∈ ps, q ≠ t) → lk (ps.zip xs) t = none := by
          intro ps
          induction ps with
          | nil => intro xs _; rfl
          | cons q ps ih =>
            intro xs hq
            cases xs with
            | nil => rfl
            | cons y ys =>
              simp only [List.zip_cons_cons, lk]
              rw [if_neg (hq q (List.mem_cons_self ..))]
              exact ih ys (fun r hr => hq r (List.mem_cons_of_mem _ hr))
        refine key _ _ (fun q hq => ?_)
        obtain ⟨i, hi⟩ := List.getElem?_of_mem hq
        have hil : i < vals.toList.length := by
          have := (List.getElem?_eq_some_iff.1 hi).1
          simp at this ⊢; omega
        have hm : (q, vals.toList[i]) ∈ (rec.params.zip vals).toList := by
          rw [Array.toList_zip]
          refine List.mem_of_getElem? (i := i) ?_
          rw [List.getElem?_zip_eq_some]
          exact ⟨hi, List.getElem?_eq_getElem hil⟩
        exact h1 _ hm
      rw [hz] at hx
      exact hrl t x hx
  refine roundIn_of_wpIn trivial (wpIn_mono (h C _ hrel) fun e a1 w1 ⟨s, C1, g1, g2, g3, g4⟩ => ?_)
  obtain ⟨rfl, hs1, hbody⟩ := g4
  subst g1
  have hl1 : C1.w.heap[l]? = some (.loop rec) := g3.inv.lps l rec (by rw [g3.heap, hs1]; simp [lk])
  obtain ⟨m1, i1, r1⟩ := rec_turns g3.inv { rec with state := .busy } (by rw [g3.heap]; exact hs1)
  refine ⟨C1.w.putObj l (.loop { rec with state := .busy }), run_beginRound hl1 hrec.ready, ?_⟩
  have hrel1 : Rel (.rd W p l) N (lk s.fr) { s.H with lps := [(l, { rec with state := .busy })] } (C1.turn l { rec with state := .busy }) a1 :=
    ⟨by simp only [Ctx.turn, g3.heap], i1, g3.size, g3.defers, fun t x hx => r1 _ _ (g3.rep t x hx)⟩
  refine wpIn_mono (hbody _ _ hrel1) fun e a2 w2 ⟨s2, C2, q1, q2, q3, q4, j, q5, q6, q7⟩ => ?_
  subst q1
  have hl2 : C2.w.heap[l]? = some (.loop { rec with state := .busy }) := q3.inv.lps l _ (by rw [q3.heap, q4]; simp [lk])
  rw [← hrec.endRec] at q7
  obtain ⟨m2, i2, r2⟩ := rec_turns q3.inv { rec with state := if j.isNone then .ready else .done, pending := j } (by rw [q3.heap]; exact q4)
  have fin : ∃ v w', (Instr.endRound l j).run P C2.w = .ok v w' ∧ ∃ C', Ending.returned v = .returned (.bool b) ∧ C'.w = w' ∧ Mem C C' ∧ Inv (.rd W p l) C' ∧ C'.H = Hout := by
    obtain ⟨C3, p1, p2, p3⟩ := q7 (C2.turn l { rec with state := if j.isNone then .ready else .done, pending := j }) { tmps := #[], defers := [] } ⟨by simp only [Ctx.turn, q3.heap], i2, rfl, by rw [i2.rod l rfl]; rfl, fun t x hx => by simp [lk] at hx⟩
    refine ⟨_, _, run_endRound j hl2, C3, by rw [q6], ?_, g2.trans (m1.trans (q2.trans (m2.trans p2))), p3.inv, p3.heap⟩
    rw [p1]
    rfl
  cases e with
  | normal => simp only [jumpOf, Option.some.injEq] at q5; subst q5; exact fin
  | ret => simp only [jumpOf, Option.some.injEq] at q5; subst q5; exact fin
  | exit id => simp only [jumpOf, Option.some.injEq] at q5; subst q5; exact fin
  | goto t => simp only [jumpOf, Option.some.injEq] at q5; subst q5; exact fin
  | panic c => simp [jumpOf] at q5
  | outgrown => simp [jumpOf] at q5

theorem see_lps {Hs Ht : Heap} {g : List (Nat × Nat)} {nw : List Nat} {x x' : AV} (ho : Hs.objs = Ht.objs) (h : See Hs g nw x x') : See Ht g nw x x' := by
  have hget : ∀ id, Hs.get id = Ht.get id := fun id => by simp [Heap.get, ho]
  induction h with
  | same x h => exact .same x h
  | any x => exact .any x
  | view h => exact .view h
  | viewL h h2 => exact .viewL h h2
  | ref h => exact .ref h
  | nil h => exact .nil h
  | lend h1 h2 h3 h4 => exact .lend (by rw [← hget]; exact h1) h2 h3 h4
  | agg cs cs' hl _ ih => exact .agg cs cs' hl ih
  | tuple cs cs' hl _ ih => exact .tuple cs cs' hl ih
  | clo fn cs cs' hl _ ih => exact .clo fn cs cs' hl ih
  | ifc t x x' _ ih => exact .ifc t x x' ih
  | wide es h => exact .wide es h
  | nilsl => exact .nilsl
  | frz h1 h2 h3 h4 h5 => exact .frz (by rw [← hget]; exact h1) h2 h3 h4 h5
theorem seen_lps' {Hs Ht : Heap} {g : List (Nat × Nat)} {nw : List Nat} {fr : List (Nat × AV)} (ho : Hs.objs = Ht.objs) : ∀ {l : List (Nat × AV)}, Seen Hs g nw fr l → Seen Ht g nw fr l
  | [], _ => trivial
  | _ :: _, ⟨⟨x, h1, h2⟩, h3⟩ => ⟨⟨x, h1, see_lps ho h2⟩, seen_lps' ho h3⟩
theorem seen_lps {Hs : Heap} {g : List (Nat × Nat)} {nw : List Nat} {fr : List (Nat × AV)} {l : List (Nat × AV)} {ll : List (Nat × Loop)} (h : Seen { Hs with lps := [] } g nw fr l) : Seen { Hs with lps := ll } g nw fr l := seen_lps' (Hs := { Hs with lps := [] }) (Ht := { Hs with lps := ll }) rfl h


theorem aop_yield3 {ok : AV → Prop} {args : Array Operand} {tys : Array TypeId} {f : Operand} {ys xs : List AV} {Hs Hin Hout H' : Heap} {g m : List (Nat × Nat)} {nw : List Nat} {p l k N : Nat} {rec : Loop} {fn : Func} {b : Bool} {frl : List (Nat × AV)} {W : World}
    (ho : o.op = .call { callee := .value f, args := args, argTypes := tys }) (hf : evalA fr f = some (.clo (.yield l) [])) (hys : args.toList.mapM (evalA fr) = some ys)
    (hround : Round3 P W p l rec frl xs Hin b Hout) (hrec : RecAt rec fn k N) (hlp : Hs.lps = [(l, rec)]) (hps : rec.params.size = ys.length)
    (h : Pass ok (argsFr 0 ys) (argsFr 0 xs) H Hs Hin Hout H' g m nw p (.imm (.bool b)) (.imm (.bool b))) (hl : xs.length = ys.length) (hg : (List.range p).all (fun k => lk g k == some k) = true) (hnp : (List.range p).all (fun k => !nw.contains k) = true) :
    AOpI P (.it W p rec frl) o fr H (.imm (.bool b)) H' := by
  intro C a hI hH hop K Q hK
  have hopy : ∀ y ∈ args.toList, RepO C fr a y := fun y hy => hop y (by rw [ho]; simp [Op.operands, Call.operands]; exact .inr (by simpa using hy))
  have hr0 := args_rep hopy hys
  have h1 := h.into hI hH hr0.1 hr0.2
  have h2 : Inv (.rd W p l) (C.sub Hs Hin g p) := h1.inv.repin (W0 := .it W p rec frl) rfl rfl (of_decide_eq_true h.ple) rfl trivial
  have hfv : a.eval f = .func (.yield l) #[] #[] := by
    have hmem : f ∈ o.op.operands := by rw [ho]; simp [Op.operands, Call.operands]
    have := rep_eval (hop f hmem) hf
    generalize a.eval f = v at this
    cases this with
    | clo _ _ vs hs _ =>
      have : vs = #[] := Array.eq_empty_of_size_eq_zero (by simpa using hs)
      rw [this]
  have hlr : C.w.heap[l]? = some (.loop rec) := hI.lps l rec (by
    have := h.isPart.lps l rec (by rw [hlp]; simp [lk])
    rw [hH]; exact this)
  have hyr := run_yield (P := P) (args := args.map a.eval) hlr (by rw [hr0.1]; exact hps.symm)
  have hrun : (execOp a.eval o).run P C.w = .ok (.round l rec.fn ((rec.params.zip (args.map a.eval)).foldl (fun tmps (t, a) => tmps.setIfInBounds t a) rec.tmps) rec.assign rec.body) C.w := by
    simp only [execOp, ho, resolve, hfv, Deferred.ofValue]
    simpa [invoke] using hyr
  -- what the rounds' frame holds, as the callee sees it
  have hfrl : ∀ t x, lk frl t = some x → Rep (C.sub Hs Hin g p) x (rec.tmps.getD t undef) := fun t x hx => by
    obtain ⟨hu, hr⟩ := hI.gh.2 t x hx
    have hp := h.isPart
    rw [← hH] at hp
    have hle : p ≤ Hin.next := of_decide_eq_true h.ple
    have key : ∀ x v, Under p x → Rep C x v → Rep (C.sub Hs Hin g p) x v := by
      intro x v hu hr
      have hbad : ∀ b, (C.sub Hs Hin g p).bad b → C.bad b := fun b hb => by
        have hb2 : ((C.hide Hs).re g Hin).bad b := hb
        rcases hb2 with hb2 | hb2
        · refine .inl ?_
          rcases hb2 with ⟨n, es', q1, q2, q3⟩ | ⟨r, q⟩ | q
          · obtain ⟨⟨s, e⟩, q4, q5⟩ := Option.map_eq_some_iff.1 (show (lk Hin.objs n).map (·.2) = some es' from q1)
            rcases (h.held.spec q4).1 with ⟨old, es, w1, w2, _⟩ | ⟨w, _⟩
            · have hpl : ((C.hide Hs).re g Hin).pl n = C.pl old := by simp [Ctx.re, Ctx.hide, w1]
              rw [hpl] at q2 q3
              refine .inl ⟨old, es, ?_, q2, q3⟩
              have := hp.objs old _ w2
              simp [Heap.get, this]
            · have hno : lk g n = none := by
                have := List.all_eq_true.1 h.nwf n w
                simp at this; exact this.1
              have hpl : ((C.hide Hs).re g Hin).pl n = ⟨0, 0, 0, 0, true⟩ := by simp [Ctx.re, hno]
              rw [hpl] at q2; cases q2
          · exact .inr (.inl ⟨r, hp.lps b r (by rw [← h.inlps]; exact q)⟩)
          · simp [Ctx.re, Ctx.hide] at q
        · rcases hb2 with hb2 | hb2
          · exact .inr hb2
          · exact .inl hb2.1
      have hids : ∀ id, id < p → ∀ es', Hin.get id = some es' → ∃ es, C.H.get id = some es ∧ (C.sub Hs Hin g p).pl id = C.pl id := fun id hid es' hes => by
        obtain ⟨⟨s, e⟩, q4, q5⟩ := Option.map_eq_some_iff.1 (show (lk Hin.objs id).map (·.2) = some es' from hes)
        have hgi : lk g id = some id := by
          have := List.all_eq_true.1 hg id (List.mem_range.2 hid)
          simpa using this
        rcases (h.held.spec q4).1 with ⟨old, es, w1, w2, _⟩ | ⟨w, _⟩
        · rw [hgi] at w1; cases w1
          have := hp.objs id _ w2
          exact ⟨es, by simp [Heap.get, this], by simp [Ctx.sub, Ctx.re, Ctx.hide, hgi]⟩
        · have := List.all_eq_true.1 hnp id (List.mem_range.2 hid)
          simp at this; exact absurd w this
      induction hr with
      | any v => exact .any v
      | imm v hv => exact .imm v hv
      | slNil a cap => exact .slNil a cap
      | sl es b off sz cap c hlt hn hc hf hcell _ ih =>
        cases hu with
        | sl _ hu => exact .sl es b off sz cap c hlt (fun h => hn (hbad b h)) hc hf hcell (fun i j e x he hx => ih i j e x he hx (hu e (List.mem_of_getElem? he) x (List.mem_of_getElem? hx)))
      | clipNil a => exact .clipNil a
      | clip es b off sz c hlt hn hf hcell _ ih =>
        cases hu with
        | clip _ hu => exact .clip es b off sz c hlt (fun h => hn (hbad b h)) hf hcell (fun i j e x he hx => ih i j e x he hx (hu e (List.mem_of_getElem? he) x (List.mem_of_getElem? hx)))
      | view id off len v hid hs h1 =>
        cases hu with
        | view _ _ _ hu =>
        refine .view id off len v (Nat.lt_of_lt_of_le hu hle) (fun es he => ?_) h1
        obtain ⟨es0, q1, q2⟩ := hids id hu es he
        rw [q2]; exact hs es0 q1
      | ref id i j v hid hs h1 =>
        cases hu with
        | ref _ _ _ hu =>
        refine .ref id i j v (Nat.lt_of_lt_of_le hu hle) (fun es he => ?_) h1
        obtain ⟨es0, q1, q2⟩ := hids id hu es he
        rw [q2]; exact hs es0 q1
      | pp fl j b off c hlt hn hcell _ ih =>
        cases hu with
        | pp _ _ hu => exact .pp fl j b off c hlt (fun h => hn (hbad b h)) hcell (fun k x hx => ih k x hx (hu x (List.mem_of_getElem? hx)))
      | agg cs vs hs h1 _ ih => cases hu with | agg _ hu => exact .agg cs vs hs h1 (fun k x hx => ih k x hx (hu x (List.mem_of_getElem? hx)))
      | tuple cs vs hs _ ih => cases hu with | tuple _ hu => exact .tuple cs vs hs (fun k x hx => ih k x hx (hu x (List.mem_of_getElem? hx)))
      | ifc t x v _ ih => cases hu with | ifc _ _ hu => exact .ifc t x v (ih hu)
      | clo fn caps vs hs _ ih => cases hu with | clo _ _ hu => exact .clo fn caps vs hs (fun k x hx => ih k x hx (hu x (List.mem_of_getElem? hx)))
    exact key x _ hu hr
  refine ⟨fun _ _ => trivial, ?_⟩
  show o.uponIn Fence.wide 0 P a K Q ((execOp a.eval o).run P C.w)
  rw [hrun]
  refine ⟨fun hd => by simp [Fence.wide] at hd, ?_⟩
  refine (hround (C.sub Hs Hin g p) (args.map a.eval) h2 rfl (by rw [hl]; exact hr0.1) (fun k x hx => rep_pin (rel_args h1 k x hx)) hfrl).mono ?_
  rintro e w' ⟨C2, rfl, rfl, hM, hI2, hH2⟩
  obtain ⟨q1, q2, q3⟩ := h.outof (W0 := .it W p rec frl) (B1 := .rd W p l) hI hH rfl hM hI2 hH2 (hI2.rod l rfl)
  exact hK _ (C.back C2 H') q1 q2 rfl (q3 _ (.imm _ rfl))


def Ctx.lay (C : Ctx) (r : Loop) : Ctx :=
  { C with w := (C.w.alloc (.deferred (some []))).alloc (.loop r), H := { C.H with lps := [(C.w.heap.size + 1, r)] }, dfs := C.w.heap.size :: C.dfs }

theorem lay_rules (hI : Inv W0 C) (r : Loop) (hl : C.H.lps = []) (hro : W0.ro = none) : Mem C (C.lay r) ∧ Inv W0 (C.lay r) ∧ ∀ x v, Rep C x v → Rep (C.lay r) x v := by
  have hB : RowKit.Below C.w.heap.size C.w (C.lay r).w := ((RowKit.Below.refl _ _).alloc (Nat.le_refl _) _).alloc (by simp) _
  have e1 : Ext C (C.inW (C.lay r).w) := ext_of_block hB
  have i1 := hI.inW hB
  have hs : (C.lay r).w.heap.size = C.w.heap.size + 2 := by show ((C.w.alloc _).alloc _).heap.size = _; rw [alloc_size, alloc_size]
  have h0 : (C.lay r).w.heap[C.w.heap.size]? = some (.deferred (some [])) := by
    show ((C.w.alloc (.deferred (some []))).heap.push _)[C.w.heap.size]? = _
    rw [Array.getElem?_push_lt (by rw [alloc_size]; exact Nat.lt_succ_self _)]
    exact (Array.getElem?_eq_getElem _).symm.trans (alloc_heap C.w _)
  have h1 : (C.lay r).w.heap[C.w.heap.size + 1]? = some (.loop r) := by
    have := alloc_heap (C.w.alloc (.deferred (some []))) (.loop r)
    rw [alloc_size] at this
    exact this
  have hsp : ∀ b, (C.lay r).sp b → C.sp b ∨ C.w.heap.size ≤ b := by
    rintro b (⟨r', h⟩ | h)
    · simp only [Ctx.lay, lk] at h
      split at h
      · rename_i hb; right; omega
      · cases h
    · rcases List.mem_cons.1 h with h | h
      · right; omega
      · exact .inl (.inr h)
  have hown : ∀ b, (C.lay r).own b → C.own b ∨ C.w.heap.size ≤ b := by
    rintro b (h | h)
    · exact .inl (.inl h)
    · exact (hsp b h).imp .inr id
  have hbadl : ∀ b, b < C.w.heap.size → (C.lay r).bad b → C.bad b := fun b hb h => by
    rcases h with h | h
    · rcases hown b h with h | h
      · exact .inl h
      · omega
    · exact .inr h
  have hM : Mem C (C.lay r) := ⟨⟨rfl, rfl, rfl, by rw [hs]; omega, fun k hk => absurd hk (Nat.not_lt_zero k)⟩, fun b hb hn => hB.block b hb, fun b hb h => by
    rcases hown b h with h | h
    · exact h
    · omega, rfl, rfl, fun hp => ⟨hp, fun k es' _ hg => ⟨⟨es', hg⟩, rfl⟩⟩⟩
  have hholds : ∀ {b i : Nat} {v : Value}, b < C.w.heap.size → Holds C.w b i v → Holds (C.lay r).w b i v := fun {b i v} hb h => by
    refine ⟨?_, h.2⟩
    rw [World.cell?_of_block (w := C.w) (a := ⟨b, i, none⟩) (hB.block b hb)]
    exact h.1
  have hrep : ∀ x v, Rep C x v → Rep (C.lay r) x v := by
    intro x v h
    induction h with
    | any v => exact .any v
    | imm v hv => exact .imm v hv
    | slNil a cap => exact .slNil a cap
    | sl es b off sz cap c hlt hbd hc hf hcell _ ih => exact .sl es b off sz cap c (by rw [hs]; omega) (fun h => hbd (hbadl b hlt h)) hc hf (fun i j e x he hx => hholds hlt (hcell i j e x he hx)) ih
    | clipNil a => exact .clipNil a
    | clip es b off sz c hlt hbd hf hcell _ ih => exact .clip es b off sz c (by rw [hs]; omega) (fun h => hbd (hbadl b hlt h)) hf (fun i j e x he hx => hholds hlt (hcell i j e x he hx)) ih
    | view id off len v hid hs' h1 => exact .view id off len v hid hs' h1
    | ref id i j v hid hs' h1 => exact .ref id i j v hid hs' h1
    | pp fl j b off c hlt hbd hcell _ ih => exact .pp fl j b off c (by rw [hs]; omega) (fun h => hbd (hbadl b hlt h)) (fun k x hx => hholds hlt (hcell k x hx)) ih
    | agg cs vs hs' h1 _ ih => exact .agg cs vs hs' h1 ih
    | tuple cs vs hs' _ ih => exact .tuple cs vs hs' ih
    | ifc t x v _ ih => exact .ifc t x v ih
    | clo fn caps vs hs' _ ih => exact .clo fn caps vs hs' ih
  refine ⟨hM, ?_, hrep⟩
  exact {
    fresh := hI.fresh
    nil := hI.nil
    obj := fun id es h hn => by
      have hO := hI.obj id es h hn
      have hlt := hI.lt h hn
      obtain ⟨arr, el, q1, q2⟩ := hO.blk
      have hc : ∀ o, (C.lay r).w.cell? ⟨(C.pl id).blk, o, none⟩ = C.w.cell? ⟨(C.pl id).blk, o, none⟩ := fun o => World.cell?_of_block (w := C.w) (a := ⟨_, o, none⟩) (hB.block _ hlt)
      exact ⟨hO.n, hO.cap, ⟨arr, el, by rw [← q1]; exact hB.block _ hlt, q2⟩, fun o v hv => hO.one o v (by rw [← hc o]; exact hv), hO.flat, fun i j e x v h1 h2 h3 => hrep _ _ (hO.cell i j e x v h1 h2 (by rw [← hc]; exact h3))⟩
    sep := hI.sep
    prot := hI.prot
    szok := hI.szok
    protlt := fun b h => Nat.lt_of_lt_of_le (hI.protlt b h) hB.size
    protge := hI.protge
    size := Nat.le_trans hI.size hB.size
    glob := fun b h => ⟨by rw [← (hI.glob b h).1]; exact hB.block b (Nat.lt_of_lt_of_le h hI.size), fun ho => by
      rcases hown b ho with h' | h'
      · exact (hI.glob b h).2 h'
      · have := hI.size; omega⟩
    lps := fun l r' h => by
      simp only [Ctx.lay, lk] at h
      split at h
      · rename_i hb; cases h; rw [← hb]; exact h1
      · cases h
    dfs := fun d h => by
      rcases List.mem_cons.1 h with h | h
      · rw [h]; exact h0
      · have h2 := hI.dfs d h
        rw [← h2]; exact hB.block d (Array.getElem?_eq_some_iff.1 h2).1
    dnd := List.nodup_cons.2 ⟨fun h => by
      have h2 := hI.dfs _ h
      have := (Array.getElem?_eq_some_iff.1 h2).1
      omega, hI.dnd⟩
    rod := fun l h => by rw [hro] at h; cases h
    spprot := fun b h hp => by
      rcases hsp b h with h | h
      · exact hI.spprot b h hp
      · have := hI.protlt b hp; omega
    pinB := hI.pinB
    pinlt := hI.pinlt
    gh := W0.st C _ hM hI.pinlt hI.gh }

theorem awp_range {ok : AV → Prop} {Q : Exit → St → Prop} {g0 : Operand} {ps : Array Tmp} {as bd j : Code} {frl fr : List (Nat × AV)} {H : Heap} {fi : FuncId} {fn : Func} {caps xs : List AV} {k p : Nat} {r : AV} {b : Bool} {Hs Hin Hout H' : Heap} {g m : List (Nat × Nat)} {nw : List Nat}
    (hro : W0.ro = none) (hcode : (fn.body.bind fun c => (rangesOf c)[k]?) = some (ps, as, bd)) (hg : evalA (lk fr) g0 = some (.clo (.func fi) caps)) (hc : Callable P fi) (hHl : H.lps = []) (hul : ∀ t x, lk frl t = some x → Under p x)
    (hseen : Seen { Hs with lps := [] } g nw fr frl)
    (hit : ∀ (l : Nat) (rec : Loop), RecAt rec fn k N → Fun3 P (.it W0.w p rec frl) fi (.clo (.yield l) [] :: xs) { Hin with lps := [(l, rec)] } r { Hout with lps := [(l, lpst rec j b)] })
    (hpass : ∀ (l : Nat) (rec : Loop), Pass ok (argsFr 0 (.clo (.yield l) [] :: caps)) (argsFr 0 (.clo (.yield l) [] :: xs)) { H with lps := [(l, rec)] } { Hs with lps := [(l, rec)] } { Hin with lps := [(l, rec)] } { Hout with lps := [(l, lpst rec j b)] } { H' with lps := [(l, lpst rec j b)] } g m nw p r .any)
    (hl : xs.length = caps.length) (hnext : b = true → Q .normal ⟨fr, { H' with lps := [] }⟩) (hjump : b = false → AWP P W0 N j ⟨fr, { H' with lps := [] }⟩ Q) :
    AWP P W0 N (.rangeFunc g0 ps as bd) ⟨fr, H⟩ Q := fun C a hr => by
  rw [hro, fw_none]
  refine wpIn_rangeFunc fun fnid _ => ?_
  -- the record
  let rc : Loop := { state := .ready, pending := none, fn := fnid, tmps := a.tmps, params := ps, assign := as, body := bd, defers := C.w.heap.size }
  have hrec : RecAt rc fn k N := ⟨rfl, rfl, hcode, hr.size⟩
  obtain ⟨m1, i1, r1⟩ := lay_rules hr.inv rc (by rw [hr.heap]; exact hHl) hro
  have hgv := rep_eval (C := C) (a := a) (fun q _ av hav => hr.rep q av hav) hg
  obtain ⟨vs, hvs, hsz, hcap⟩ : ∃ vs : Array Value, a.eval g0 = .func (.func fi) #[] vs ∧ vs.size = caps.length ∧ ∀ (k : Nat) (x : AV), caps[k]? = some x → Rep C x (vs.getD k undef) := by
    generalize a.eval g0 = u at hgv
    match hgv with
    | .clo _ _ vs h1 h2 => exact ⟨vs, rfl, h1, h2⟩
  refine ⟨C.w.heap.size + 1, [{ target := .collected C.w.heap.size, args := #[] }], (C.lay rc).w, { target := .fn (.func fi) vs, args := #[.func (.yield (C.w.heap.size + 1)) #[] #[]] }, (C.lay rc).w, fi, #[.func (.yield (C.w.heap.size + 1)) #[] #[]] ++ vs, (C.lay rc).w, run_enterLoop_outer fnid a.tmps ps as bd, ?_, fun _ _ => trivial, ?_, fun h => by simp [Fence.wide] at h, ?_⟩
  · show (resolve a.eval (rangeCall g0 (C.w.heap.size + 1)) 0).run P (C.lay rc).w = .ok { target := .fn (.func fi) vs, args := #[.func (.yield (C.w.heap.size + 1)) #[] #[]] } (C.lay rc).w
    have e1 : (#[Operand.const (.func (.yield (C.w.heap.size + 1)) #[] #[])].map a.eval) = #[.func (.yield (C.w.heap.size + 1)) #[] #[]] := by simp [Act.eval]
    simp only [resolve, rangeCall, hvs, Deferred.ofValue, e1]
    rfl
  · show (invoke (.fn (.func fi) vs) #[.func (.yield (C.w.heap.size + 1)) #[] #[]]).run P (C.lay rc).w = _
    simpa [invoke] using hc (#[.func (.yield (C.w.heap.size + 1)) #[] #[]] ++ vs) (C.lay rc).w
  · refine callsIn_wide.2 ?_
    have hHL : (C.lay rc).H = { H with lps := [(C.w.heap.size + 1, rc)] } := by simp only [Ctx.lay, hr.heap]
    have hrep : ∀ t x, lk (argsFr 0 (.clo (.yield (C.w.heap.size + 1)) [] :: caps)) t = some x → Rep (C.lay rc) x ((#[Value.func (.yield (C.w.heap.size + 1)) #[] #[]] ++ vs).getD t undef) := fun t x hx => by
      obtain ⟨_, h2⟩ := lk_argsFr _ 0 t x hx
      rw [Nat.sub_zero] at h2
      cases t with
      | zero =>
        simp at h2; subst h2
        have : (#[Value.func (.yield (C.w.heap.size + 1)) #[] #[]] ++ vs).getD 0 undef = .func (.yield (C.w.heap.size + 1)) #[] #[] := by
          rw [Array.getD_eq_getD_getElem?, Array.getElem?_append_left (by simp)]; rfl
        rw [this]
        exact .clo _ [] #[] rfl (fun k x h => by simp at h)
      | succ t =>
        simp at h2
        have hlt : t < vs.size := by rw [hsz]; exact (List.getElem?_eq_some_iff.1 h2).1
        have : (#[Value.func (.yield (C.w.heap.size + 1)) #[] #[]] ++ vs).getD (t + 1) undef = vs.getD t undef := by
          simp only [Array.getD_eq_getD_getElem?]
          rw [Array.getElem?_append_right (by simp)]
          simp
        rw [this]
        exact r1 _ _ (hcap t x h2)
    have hps := hpass (C.w.heap.size + 1) rc
    have hpart := hps.isPart
    rw [← hHL] at hpart
    have hG : (Base.it W0.w p rc frl).G ((C.lay rc).sub { Hs with lps := [(C.w.heap.size + 1, rc)] } { Hin with lps := [(C.w.heap.size + 1, rc)] } g p) := by
      refine ⟨rfl, fun t x hx => ⟨hul t x hx, ?_⟩⟩
      have hr0 : Rel (.of W0.w) N (lk fr) { Hs with lps := [(C.w.heap.size + 1, rc)] } ((C.lay rc).hide { Hs with lps := [(C.w.heap.size + 1, rc)] }) { tmps := a.tmps, defers := [] } :=
        ⟨rfl, i1.hide hpart, hr.size, rfl, fun t x hx => (r1 _ _ (hr.rep t x hx)).hide hpart⟩
      have hs2 : Seen { Hs with lps := [(C.w.heap.size + 1, rc)] } g nw fr frl := seen_lps hseen
      exact rep_pin ((re_rel (st := ⟨fr, { Hs with lps := [(C.w.heap.size + 1, rc)] }⟩) g nw hps.inj hps.lt hps.nwf hps.held hs2 (by simp [pinOk]) rfl hr0).2.rep t x hx)
    refine (call3 (W0 := W0) (C := C.lay rc) (hit (C.w.heap.size + 1) rc hrec) rfl rfl hps (by simp [hl]) i1 hHL (by simp [hsz]; omega) hrep hG).mono ?_
    rintro e w' ⟨v, C2, rfl, rfl, hE, hI2, hH2, _⟩
    have hl2 : C2.w.heap[C.w.heap.size + 1]? = some (.loop (lpst rc j b)) := hI2.lps _ _ (by rw [hH2]; simp [lk])
    have hbusy : (lpst rc j b).state ≠ .busy := by cases b <;> simp [lpst, rc]
    -- the record is of no more use
    let C3 : Ctx := { C2 with w := C2.w.putObj (C.w.heap.size + 1) (.loop { lpst rc j b with state := .exhausted }), H := { C2.H with lps := [] } }
    have hlt2 : C.w.heap.size + 1 < C2.w.heap.size := (Array.getElem?_eq_some_iff.1 hl2).1
    obtain ⟨m3, i3, r3⟩ := poke (C' := C3) hI2 (b := C.w.heap.size + 1) (.inl ⟨_, by rw [hH2]; simp [lk]; rfl⟩) (ob := .loop { lpst rc j b with state := .exhausted }) rfl rfl rfl rfl rfl rfl (fun b h => by
        rcases h with ⟨r', h⟩ | h
        · simp [C3, lk] at h
        · exact .inr h) (fun l r' h => by simp [C3, lk] at h) (fun d h => by
        have h1 := hI2.dfs d h
        rw [← h1]
        refine World.putObj_heap_other (fun hd => ?_)
        rw [hd, hl2] at h1; cases h1) hI2.dnd hI2.rod
    have hrel3 : Rel W0 N (lk fr) { H' with lps := [] } C3 { a with defers := [{ target := .collected C.w.heap.size, args := #[] }] ++ a.defers } := by
      refine ⟨by simp only [C3, hH2], i3, hr.size, ?_, fun t x hx => r3 _ _ ((r1 _ _ (hr.rep t x hx)).ext hE)⟩
      show _ = C2.dfs.map _ ++ _
      rw [hE.dfs]
      show _ = (C.w.heap.size :: C.dfs).map _ ++ _
      rw [hr.defers]; rfl
    have hMM : Mem C C3 := m1.trans (hE.mem.trans m3)
    refine ⟨(lpst rc j b).pending, C3.w, run_endLoop hl2 hbusy, ?_⟩
    cases b with
    | true => exact ⟨⟨fr, { H' with lps := [] }⟩, C3, rfl, hMM, hrel3, hnext rfl⟩
    | false =>
      have := (hjump rfl).at hMM hrel3
      rw [hro, fw_none] at this
      exact this

end

def UnderL (p : Nat) : List (Nat × AV) → Prop
  | [] => True
  | (_, x) :: r => Under p x ∧ UnderL p r
theorem UnderL.spec {p : Nat} : ∀ {l : List (Nat × AV)}, UnderL p l → ∀ t x, lk l t = some x → Under p x
  | [], _, _, _, h => by cases h
  | (q, u) :: l, hl, t, x, h => by
    simp only [lk] at h
    split at h
    · rename_i hq; subst hq; cases h; exact hl.1
    · exact UnderL.spec hl.2 t x h
theorem Under.noid {p : Nat} {x : AV} (h : NoId x) : Under p x := by
  have fl : ∀ (e x : AV), x ∈ e.flat → NoId e → (∀ y ∈ e.flat, NoId y) := fun e x _ hn y hy => by
    cases e <;> simp only [AV.flat, List.mem_singleton] at hy
    case agg cs => simp only [noId_agg] at hn; exact hn y hy
    all_goals (rw [hy]; exact hn)
  have key : ∀ x : AV, NoId x → Under p x ∧ ∀ y ∈ x.flat, Under p y := by
    intro x h
    induction h with
    | any => exact ⟨.any, fun y hy => by simp only [AV.flat, List.mem_singleton] at hy; rw [hy]; exact .any⟩
    | imm v => exact ⟨.imm v, fun y hy => by simp only [AV.flat, List.mem_singleton] at hy; rw [hy]; exact .imm v⟩
    | sl es _ ih =>
      have : Under p (.sl es) := .sl es (fun e he x hx => (ih e he).2 x hx)
      exact ⟨this, fun y hy => by simp only [AV.flat, List.mem_singleton] at hy; rw [hy]; exact this⟩
    | clip es _ ih =>
      have : Under p (.clip es) := .clip es (fun e he x hx => (ih e he).2 x hx)
      exact ⟨this, fun y hy => by simp only [AV.flat, List.mem_singleton] at hy; rw [hy]; exact this⟩
    | pp fl j _ ih =>
      have : Under p (.pp fl j) := .pp fl j (fun e he => (ih e he).1)
      exact ⟨this, fun y hy => by simp only [AV.flat, List.mem_singleton] at hy; rw [hy]; exact this⟩
    | agg cs _ ih => exact ⟨.agg cs (fun e he => (ih e he).1), fun y hy => by simp only [AV.flat] at hy; exact (ih y hy).1⟩
    | tuple cs _ ih =>
      have : Under p (.tuple cs) := .tuple cs (fun e he => (ih e he).1)
      exact ⟨this, fun y hy => by simp only [AV.flat, List.mem_singleton] at hy; rw [hy]; exact this⟩
    | ifc t x _ ih =>
      have : Under p (.ifc t x) := .ifc t x ih.1
      exact ⟨this, fun y hy => by simp only [AV.flat, List.mem_singleton] at hy; rw [hy]; exact this⟩
    | clo fn cs _ ih =>
      have : Under p (.clo fn cs) := .clo fn cs (fun e he => (ih e he).1)
      exact ⟨this, fun y hy => by simp only [AV.flat, List.mem_singleton] at hy; rw [hy]; exact this⟩
  exact (key x h).1
end Go.Av
end

section
/- Function values, methods behind interfaces, and loops gone through one by one. -/
namespace Go.Av

section
variable {P : Program} {W0 : Base} {C : Ctx} {fr : Fr} {a : Act} {H : Heap} {o : Oper} {N : Nat}

theorem Enters.clo {f : FuncId} {x : Operand} {args : Array Operand} {tys : Array TypeId} {ys caps : List AV} (ho : o.op = .call { callee := .value x, args := args, argTypes := tys }) (hx : evalA fr x = some (.clo (.func f) caps)) (hys : args.toList.mapM (evalA fr) = some ys) (hc : Callable P f) : Enters P o fr f (ys ++ caps) := fun C a hop => by
  have hopy : ∀ y ∈ args.toList, RepO C fr a y := fun y hy => hop y (by rw [ho]; simp [Op.operands, Call.operands]; exact .inr (by simpa using hy))
  obtain ⟨h1, h2⟩ := args_rep hopy hys
  have hv := rep_eval (hop x (by rw [ho]; simp [Op.operands, Call.operands])) hx
  obtain ⟨vs, hvs, hsz, hcap⟩ : ∃ vs : Array Value, a.eval x = .func (.func f) #[] vs ∧ vs.size = caps.length ∧ ∀ (k : Nat) (x : AV), caps[k]? = some x → Rep C x (vs.getD k undef) := by
    generalize a.eval x = u at hv
    match hv with
    | .clo _ _ vs h1 h2 => exact ⟨vs, rfl, h1, h2⟩
  refine ⟨args.map a.eval ++ vs, fun w => ?_, by simp [hsz] at h1 ⊢; omega, fun t z hz => ?_⟩
  · have := hc (args.map a.eval ++ vs) w
    simp only [execOp, ho, resolve, hvs, Deferred.ofValue]
    simpa [invoke] using this
  · obtain ⟨_, h3⟩ := lk_argsFr (ys ++ caps) 0 t z hz
    rw [Nat.sub_zero] at h3
    by_cases ht : t < ys.length
    · rw [List.getElem?_append_left ht] at h3
      have : (args.map a.eval ++ vs).getD t undef = (args.map a.eval).getD t undef := by
        rw [Array.getD_eq_getD_getElem?, Array.getElem?_append_left (by omega), ← Array.getD_eq_getD_getElem?]
      rw [this]
      refine h2 t z ?_
      have key : ∀ (xs : List AV) (q k : Nat) (x : AV), xs[k]? = some x → lk (argsFr q xs) (q + k) = some x := by
        intro xs
        induction xs with
        | nil => intro q k x h; simp at h
        | cons y ys ih =>
          intro q k x hk
          cases k with
          | zero => simp at hk; subst hk; simp [argsFr, lk]
          | succ k =>
            simp at hk
            simp only [argsFr, lk]
            rw [if_neg (by omega)]
            have := ih (q + 1) k x hk
            rwa [show q + 1 + k = q + (k + 1) by omega] at this
      have := key ys 0 t z h3
      rwa [Nat.zero_add] at this
    · rw [List.getElem?_append_right (by omega)] at h3
      have : (args.map a.eval ++ vs).getD t undef = vs.getD (t - ys.length) undef := by
        rw [Array.getD_eq_getD_getElem?, Array.getElem?_append_right (by omega), h1, ← Array.getD_eq_getD_getElem?]
      rw [this]
      exact hcap _ z h3

theorem Enters.iface {f : FuncId} {x : Operand} {name : String} {t : TypeId} {args : Array Operand} {tys : Array TypeId} {z : AV} {ys : List AV} (ho : o.op = .call { callee := .invoke x name, args := args, argTypes := tys }) (hx : evalA fr x = some (.ifc t z)) (hys : args.toList.mapM (evalA fr) = some ys)
    (hm : ∀ v w, (method (P.types.size + Made.depth) t v name).run P w = .ok (f, v) w) (hc : Callable P f) : Enters P o fr f (z :: ys) := fun C a hop => by
  have hopy : ∀ y ∈ args.toList, RepO C fr a y := fun y hy => hop y (by rw [ho]; simp [Op.operands, Call.operands]; exact .inr (by simpa using hy))
  obtain ⟨h1, h2⟩ := args_rep hopy hys
  have hv := rep_eval (hop x (by rw [ho]; simp [Op.operands, Call.operands])) hx
  obtain ⟨v, hvs, hrep⟩ : ∃ v : Value, a.eval x = .iface t v ∧ Rep C z v := by
    generalize a.eval x = u at hv
    match hv with
    | .ifc _ _ v h1 => exact ⟨v, rfl, h1⟩
  refine ⟨#[v] ++ args.map a.eval, fun w => ?_, by simpa [Nat.add_comm] using h1, fun k y hk => ?_⟩
  · have h3 := hc (#[v] ++ args.map a.eval) w
    have h4 := hm v w
    have e1 : (#[Value.iface t v] ++ args.map a.eval)[0]? = some (.iface t v) := by rw [Array.getElem?_append_left (by simp)]; rfl
    have e3 : (args.map a.eval).extract 0 args.size = args.map a.eval := by
      have h5 : args.size = (args.map a.eval).size := by simp
      rw [h5, Array.extract_size]
    have e4 : (#[Value.iface t v] ++ args.map a.eval).extract 1 (#[Value.iface t v] ++ args.map a.eval).size = args.map a.eval := by
      simp [e3]
    have h5 : (invoke (.fn (.method name) #[]) (#[.iface t v] ++ args.map a.eval)).run P w = .ok (.enter f (#[v] ++ args.map a.eval)) w := by
      simp only [invoke, e1, callMethod]
      rw [e4, Sem.run_bind]
      show (Result.andThen (.ok P w) _) = _
      simp only [Result.andThen_ok]
      rw [Sem.run_bind, h4]
      exact h3
    simp only [execOp, ho, resolve, hvs]
    rw [Sem.run_bind]
    exact h5
  · obtain ⟨_, h3⟩ := lk_argsFr (z :: ys) 0 k y hk
    rw [Nat.sub_zero] at h3
    cases k with
    | zero =>
      simp at h3; subst h3
      have : (#[v] ++ args.map a.eval).getD 0 undef = v := by
        rw [Array.getD_eq_getD_getElem?, Array.getElem?_append_left (by simp)]; rfl
      rw [this]; exact hrep
    | succ k =>
      simp at h3
      have : (#[v] ++ args.map a.eval).getD (k + 1) undef = (args.map a.eval).getD k undef := by
        rw [Array.getD_eq_getD_getElem?, Array.getElem?_append_right (by simp), ← Array.getD_eq_getD_getElem?]; simp
      rw [this]
      refine h2 k y ?_
      have key : ∀ (xs : List AV) (q k : Nat) (x : AV), xs[k]? = some x → lk (argsFr q xs) (q + k) = some x := by
        intro xs
        induction xs with
        | nil => intro q k x h; simp at h
        | cons y ys ih =>
          intro q k x hk
          cases k with
          | zero => simp at hk; subst hk; simp [argsFr, lk]
          | succ k =>
            simp at hk
            simp only [argsFr, lk]
            rw [if_neg (by omega)]
            have := ih (q + 1) k x hk
            rwa [show q + 1 + k = q + (k + 1) by omega] at this
      have := key ys 0 k y h3
      rwa [Nat.zero_add] at this

theorem aop_call3E {ok : AV → Prop} {f : FuncId} {ys xs : List AV} {r r' : AV} {Hs Hin Hout H' : Heap} {g m : List (Nat × Nat)} {nw : List Nat} {p : Nat} (he : Enters P o fr f ys)
    (hf : Fun3 P (.pinned W0.w p) f xs Hin r Hout) (h : Pass ok (argsFr 0 ys) (argsFr 0 xs) H Hs Hin Hout H' g m nw p r r') (hl : xs.length = ys.length) : AOp P W0 o fr H r' H' := by
  intro C a hI hH hop K Q hK
  obtain ⟨vals, hrun, h1, h2⟩ := he C a hop
  unfold Oper.wp
  rw [hrun, Oper.upon_enter]
  refine (call3 (W0 := W0) hf rfl rfl h hl hI hH h1 h2 trivial).mono ?_
  rintro e w' ⟨v, C', rfl, rfl, h1, h2, h3, h4⟩
  exact hK v C' h1 h2 h3 h4


end


section
variable {P : Program} {W0 : Base} {fr : Fr} {H : Heap} {o : Oper}
end
end Go.Av
namespace Go.Av
section
variable {H : Heap} {g : List (Nat × Nat)} {nw : List Nat}
theorem See.frzA {id i j : Nat} {es fl : List AV} {e : AV} (h1 : H.get id = some es) (h2 : g.all (fun p => p.2 != id) = true) (h3 : es[i]? = some e) (h4 : e.flat = fl) (h5 : ∀ x ∈ fl, NoId x) : See H g nw (.ref id i j) (.pp fl j) :=
  .frz h1 (fun p hp => by have := List.all_eq_true.1 h2 p hp; simpa using this) h3 h4 h5
end
end Go.Av
namespace Go.Av
end Go.Av
namespace Go.Av
theorem See.sm {H : Heap} {g : List (Nat × Nat)} {nw : List Nat} {x : AV} (h : NoId x := by simp) : See H g nw x x := .same x h
theorem Shift.sm {ok : AV → Prop} {n : Nat} {x : AV} (h : ok x := by simp) : Shift ok n x x := .same x h
theorem Ren.sm {m : List (Nat × Nat)} {x : AV} (h : NoId x := by simp) : Ren NoId m x x := .same x h
end Go.Av
namespace Go.Av
theorem dt {p : Prop} [Decidable p] (h : decide p = true := by rfl) : p := of_decide_eq_true h
theorem Weak.e {W0 : Base} {N : Nat} {st : St} {fr' : List (Nat × AV)} {H' : Heap} (hfr : Seen st.H [] [] st.fr fr') (h0 : H'.objs = [] := by rfl) (hpo : pinOk W0.p [] [] H'.next = true := by rfl) (hlp : H'.lps = st.H.lps := by rfl) : Weak W0 N st ⟨fr', H'⟩ :=
  Weak.re [] [] rfl rfl rfl (by rw [h0]; trivial) hfr hpo hlp
end Go.Av
theorem Exists.k {H : Go.Av.Heap} {g : List (Nat × Nat)} {nw : List Nat} {fr : List (Nat × Go.Av.AV)} {t : Nat} {y : Go.Av.AV} (h : Go.Av.lk fr t = some y := by rfl) (hn : Go.Av.NoId y := by simp) : ∃ x, Go.Av.lk fr t = some x ∧ Go.Av.See H g nw x y := ⟨y, h, .same y hn⟩
end

section
/- An own slice made shorter: the object under a new name. -/
namespace Go.Av
open Go.RowKit (Below)
section
variable {P : Program} {W0 : Base} {C : Ctx} {fr : Fr} {H : Heap} {o : Oper}

end
end Go.Av
end

section
/- What an operation makes, some of it given up at once. -/
namespace Go.Av
section
variable {P : Program} {W0 : Base} {fr : Fr} {H : Heap} {o : Oper}
theorem AOp.re {r r' : AV} {H1 H2 : Heap} (h : AOp P W0 o fr H r H1) (g : List (Nat × Nat)) (hs : See H1 g [] r r') (hH : Held H1 g [] H2.next H2.objs) (hid : g.all (fun p => p.1 == p.2) = true := by rfl) (hnext : H1.next ≤ H2.next := by exact Nat.le_refl _)
    (hinj : g.all (fun p => g.all (fun q => p.2 != q.2 || p.1 == q.1)) = true := by rfl) (hlt : g.all (fun p => decide (p.1 < H2.next)) = true := by rfl) (hpo : pinOk W0.p g [] H2.next = true := by rfl) (hlp : H2.lps = H1.lps := by rfl) : AOp P W0 o fr H r' H2 := by
  intro C a hI hCH hop K Q hK
  refine h C a hI hCH hop K Q (fun v C1 h1 h2 h3 h4 => ?_)
  have hr : Rel W0 1 (lk [(0, r)]) H1 C1 { a with tmps := #[v], defers := (C1.dfs.map fun d => { target := .collected d, args := #[] }) ++ W0.dx } := ⟨h3, h2, rfl, rfl, fun t x hx => by
    simp only [lk] at hx
    split at hx
    · rename_i ht; subst ht; cases hx; exact h4
    · cases hx⟩
  obtain ⟨hM, hR⟩ := re_rel (st := ⟨[(0, r)], H1⟩) (fr' := [(0, r')]) (H' := H2) g [] hinj hlt rfl hH ⟨⟨r, rfl, hs⟩, trivial⟩ hpo hlp hr
  refine hK v (C1.re g H2) (h1.trans ?_) hR.inv rfl (hR.rep 0 r' rfl)
  refine ⟨hM.below, hM.keep, hM.own, by rw [h3]; exact hnext, fun id es' hlt' hg => ?_, rfl, rfl, rfl⟩
  simp only [Ctx.re, Heap.get, Option.map_eq_some_iff] at hg
  obtain ⟨⟨s, e⟩, hq, rfl⟩ := hg
  obtain ⟨h5, _⟩ := hH.spec hq
  rcases h5 with ⟨old, es, q1, q2, _⟩ | ⟨q, _⟩
  · have := List.all_eq_true.1 hid _ (lk_mem q1)
    simp only [beq_iff_eq] at this
    subst this
    refine ⟨⟨es, ?_⟩, ?_⟩
    · rw [h3]; simp only [Heap.get, q2, Option.map_some]
    · show (match lk g id with | some old => C1.pl old | none => _) = _
      rw [q1]
  · cases q
end
end Go.Av
end

section
/- A family of objects, as many as a list is long: the rows of a slice of slices that is the proof's own. -/
namespace Go.Av
section
variable {α : Type}
def fam (enc : α → AV) (sz : Nat) : Nat → List (List α) → List (Nat × (Nat × List AV))
  | _, [] => []
  | M, l :: L => (M, (sz, l.map enc)) :: fam enc sz (M + 1) L
def famV (enc : α → AV) : Nat → List (List α) → List AV
  | _, [] => []
  | M, l :: L => .view M 0 (l.map enc).length :: famV enc (M + 1) L
@[simp] theorem famV_len (enc : α → AV) : ∀ (L : List (List α)) (M : Nat), (famV enc M L).length = L.length
  | [], _ => rfl
  | _ :: L, M => by simp [famV, famV_len enc L]
theorem famV_get (enc : α → AV) : ∀ (L : List (List α)) (M i : Nat), (famV enc M L)[i]? = L[i]?.map fun l => .view (M + i) 0 (l.map enc).length
  | [], _, i => by simp [famV]
  | l :: L, M, 0 => by simp [famV]
  | l :: L, M, i + 1 => by simp only [famV, List.getElem?_cons_succ, famV_get enc L]; rw [Nat.add_assoc, Nat.add_comm 1 i]
theorem lk_fam (enc : α → AV) (sz : Nat) : ∀ (L : List (List α)) (M k : Nat), lk (fam enc sz M L) k = if M ≤ k then L[k - M]?.map fun l => (sz, l.map enc) else none
  | [], M, k => by simp [fam, lk]
  | l :: L, M, k => by
    simp only [fam, lk]
    by_cases h : M = k
    · subst h; simp
    · rw [if_neg h, lk_fam enc sz L]
      by_cases h1 : M ≤ k
      · have h2 : M + 1 ≤ k := by omega
        rw [if_pos h1, if_pos h2]
        have : k - M = (k - (M + 1)) + 1 := by omega
        rw [this, List.getElem?_cons_succ]
      · rw [if_neg h1, if_neg (by omega)]
abbrev famH (F : List (Nat × (Nat × List AV))) (enc : α → AV) (sz M : Nat) (L : List (List α)) : Heap := ⟨M + L.length, F ++ fam enc sz M L, []⟩
theorem low_lt {F : List (Nat × (Nat × List AV))} {M : Nat} (hF : F.all (fun p => decide (p.1 < M)) = true) {k : Nat} {x : Nat × List AV} (h : lk F k = some x) : k < M := by simpa using List.all_eq_true.1 hF _ (lk_mem h)
theorem lk_famH {F : List (Nat × (Nat × List AV))} {enc : α → AV} {sz M : Nat} {L : List (List α)} (hF : F.all (fun p => decide (p.1 < M)) = true) {i : Nat} {l : List α} (h : L[i]? = some l) : lk (F ++ fam enc sz M L) (M + i) = some (sz, l.map enc) := by
  rw [lk_append]
  have h0 : lk F (M + i) = none := by
    cases hc : lk F (M + i) with
    | none => rfl
    | some v => have := low_lt hF hc; omega
  rw [h0, lk_fam, if_pos (Nat.le_add_right _ _), Nat.add_sub_cancel_left, h]; rfl
theorem lk_famL {F : List (Nat × (Nat × List AV))} {enc : α → AV} {sz M : Nat} {L : List (List α)} {k : Nat} (hk : k < M) : lk (F ++ fam enc sz M L) k = lk F k := by
  rw [lk_append, lk_fam, if_neg (by omega)]
  cases lk F k <;> rfl

def famG (gr : Nat → Option Nat) (M : Nat) : Nat → Nat → List (Nat × Nat)
  | _, 0 => []
  | i, n + 1 => match gr i with
    | some o => (M + i, o) :: famG gr M (i + 1) n
    | none => famG gr M (i + 1) n
def famN (gr : Nat → Option Nat) (M : Nat) : Nat → Nat → List Nat
  | _, 0 => []
  | i, n + 1 => match gr i with
    | some _ => famN gr M (i + 1) n
    | none => (M + i) :: famN gr M (i + 1) n
theorem mem_famG {gr : Nat → Option Nat} {M : Nat} : ∀ {n i : Nat} {p : Nat × Nat}, p ∈ famG gr M i n ↔ ∃ j o, i ≤ j ∧ j < i + n ∧ gr j = some o ∧ p = (M + j, o)
  | 0, i, p => by simp [famG]; intro j h1 h2; omega
  | n + 1, i, p => by
    unfold famG
    cases hg : gr i with
    | none =>
      simp only [mem_famG (n := n)]
      constructor
      · rintro ⟨j, o, h1, h2, h3⟩; exact ⟨j, o, by omega, by omega, h3⟩
      · rintro ⟨j, o, h1, h2, h3, h4⟩
        by_cases h : j = i
        · subst h; rw [hg] at h3; cases h3
        · exact ⟨j, o, by omega, by omega, h3, h4⟩
    | some o =>
      simp only [List.mem_cons, mem_famG (n := n)]
      constructor
      · rintro (h | ⟨j, o, h1, h2, h3⟩)
        · exact ⟨i, o, Nat.le_refl _, by omega, hg, h⟩
        · exact ⟨j, o, by omega, by omega, h3⟩
      · rintro ⟨j, o', h1, h2, h3, h4⟩
        by_cases h : j = i
        · subst h; rw [hg] at h3; cases h3; exact .inl h4
        · exact .inr ⟨j, o', by omega, by omega, h3, h4⟩
theorem mem_famN {gr : Nat → Option Nat} {M : Nat} : ∀ {n i k : Nat}, k ∈ famN gr M i n ↔ ∃ j, i ≤ j ∧ j < i + n ∧ gr j = none ∧ k = M + j
  | 0, i, p => by simp [famN]; intro j h1 h2; omega
  | n + 1, i, p => by
    unfold famN
    cases hg : gr i with
    | some o =>
      simp only [mem_famN (n := n)]
      constructor
      · rintro ⟨j, h1, h2, h3⟩; exact ⟨j, by omega, by omega, h3⟩
      · rintro ⟨j, h1, h2, h3, h4⟩
        by_cases h : j = i
        · subst h; rw [hg] at h3; cases h3
        · exact ⟨j, by omega, by omega, h3, h4⟩
    | none =>
      simp only [List.mem_cons, mem_famN (n := n)]
      constructor
      · rintro (h | ⟨j, h1, h2, h3⟩)
        · exact ⟨i, Nat.le_refl _, by omega, hg, h⟩
        · exact ⟨j, by omega, by omega, h3⟩
      · rintro ⟨j, h1, h2, h3, h4⟩
        by_cases h : j = i
        · subst h; exact .inl h4
        · exact .inr ⟨j, by omega, by omega, h3, h4⟩
theorem lk_famG {gr : Nat → Option Nat} {M : Nat} : ∀ {n i j : Nat}, i ≤ j → j < i + n → lk (famG gr M i n) (M + j) = gr j
  | 0, i, j, h1, h2 => by omega
  | n + 1, i, j, h1, h2 => by
    unfold famG
    by_cases h : j = i
    · subst h
      cases hg : gr j with
      | some o => simp [lk]
      | none =>
        cases hc : lk (famG gr M (j + 1) n) (M + j) with
        | none => rfl
        | some v =>
          obtain ⟨k, o, k1, _, _, k2⟩ := mem_famG.1 (lk_mem hc)
          simp only [Prod.mk.injEq] at k2
          omega
    · cases hg : gr i with
      | some o => simp only [lk]; rw [if_neg (by omega), lk_famG (n := n) (by omega) (by omega)]
      | none => simp only; rw [lk_famG (n := n) (by omega) (by omega)]
theorem Held.append {H : Heap} {g : List (Nat × Nat)} {nw : List Nat} {next : Nat} : ∀ {l m : List (Nat × (Nat × List AV))}, Held H g nw next l → Held H g nw next m → Held H g nw next (l ++ m)
  | [], _, _, h => h
  | _ :: _, _, h1, h2 => ⟨h1.1, h1.2.1, Held.append h1.2.2 h2⟩
theorem Held.rows {H : Heap} {g : List (Nat × Nat)} {nw : List Nat} {next sz : Nat} {enc : α → AV} (hno : ∀ x, NoId (enc x)) : ∀ (L : List (List α)) (M : Nat), (∀ i l, L[i]? = some l → (∃ o, lk g (M + i) = some o ∧ lk H.objs o = some (sz, l.map enc)) ∨ (M + i ∈ nw ∧ l = [])) → M + L.length ≤ next → Held H g nw next (fam enc sz M L)
  | [], M, _, _ => trivial
  | l :: L, M, h, hn => by
    simp only [List.length_cons] at hn
    refine ⟨?_, by omega, Held.rows hno L (M + 1) (fun i l' hi => ?_) (by omega)⟩
    · rcases h 0 l rfl with ⟨o, h1, h2⟩ | ⟨h1, h2⟩
      · rw [Nat.add_zero] at h1
        refine .inl ⟨_, _, h1, h2, .same fun e he => ?_⟩
        obtain ⟨x, _, rfl⟩ := List.mem_map.1 he; exact hno x
      · exact .inr ⟨h1, by rw [h2]; rfl⟩
    · have := h (i + 1) l' (by simpa using hi)
      rwa [show M + (i + 1) = M + 1 + i by omega] at this
theorem seeL_rows {H : Heap} {g0 : List (Nat × Nat)} {gr : Nat → Option Nat} {M : Nat} {enc : α → AV} {L : List (List α)} {es : List AV} (hg0 : g0.all (fun p => decide (p.1 < M)) = true) (hl : es.length = L.length)
    (h : ∀ i l, L[i]? = some l → (∃ o, gr i = some o ∧ es[i]? = some (.view o 0 (l.map enc).length)) ∨ (gr i = none ∧ es[i]? = some nilS ∧ l = [])) : SeeL H (g0 ++ famG gr M 0 L.length) (famN gr M 0 L.length) es (famV enc M L) :=
  ⟨by simp [hl], fun k e e' h1 h2 => by
    rw [famV_get] at h2
    simp only [Option.map_eq_some_iff] at h2
    obtain ⟨l, h2, rfl⟩ := h2
    have hk : k < L.length := (List.getElem?_eq_some_iff.1 h2).1
    have hlk : lk (g0 ++ famG gr M 0 L.length) (M + k) = gr k := by
      rw [lk_append]
      have : lk g0 (M + k) = none := by
        cases hc : lk g0 (M + k) with
        | none => rfl
        | some v =>
          have := List.all_eq_true.1 hg0 _ (lk_mem hc)
          simp only [decide_eq_true_eq] at this
          omega
      rw [this]; exact lk_famG (Nat.zero_le _) (by omega)
    rcases h k l h2 with ⟨o, h3, h4⟩ | ⟨h3, h4, h5⟩
    · rw [h1] at h4; cases h4
      exact ⟨.view (hlk.trans h3), rfl⟩
    · rw [h1] at h4; cases h4
      subst h5
      exact ⟨.nil (mem_famN.2 ⟨k, Nat.zero_le _, by omega, h3, rfl⟩), rfl⟩⟩
theorem Weak.rows {W0 : Base} {N : Nat} {st : St} {fr' : List (Nat × AV)} {F' : List (Nat × (Nat × List AV))} (g0 : List (Nat × Nat)) {M sz : Nat} {enc : α → AV} (L : List (List α)) (gr : Nat → Option Nat) (hno : ∀ x, NoId (enc x))
    (hrow : ∀ i l, L[i]? = some l → (∃ o, gr i = some o ∧ lk st.H.objs o = some (sz, l.map enc)) ∨ (gr i = none ∧ l = []))
    (hinj : ∀ i j o, i < L.length → j < L.length → gr i = some o → gr j = some o → i = j)
    (hdis : ∀ i o, i < L.length → gr i = some o → ∀ p ∈ g0, p.2 ≠ o)
    (hfront : Held st.H (g0 ++ famG gr M 0 L.length) (famN gr M 0 L.length) (M + L.length) F')
    (hfr : Seen st.H (g0 ++ famG gr M 0 L.length) (famN gr M 0 L.length) st.fr fr')
    (hg0 : g0.all (fun p => decide (p.1 < M)) = true := by rfl) (hinj0 : g0.all (fun p => g0.all (fun q => p.2 != q.2 || p.1 == q.1)) = true := by rfl) (hp : W0.p = 0 := by rfl) (hlp : st.H.lps = [] := by rfl) :
    Weak W0 N st ⟨fr', ⟨M + L.length, F' ++ fam enc sz M L, []⟩⟩ := by
  have hlt0 : ∀ p ∈ g0, p.1 < M := fun p hp => by simpa using List.all_eq_true.1 hg0 p hp
  have hno0 : ∀ i, lk g0 (M + i) = none := fun i => by
    cases hc : lk g0 (M + i) with
    | none => rfl
    | some v => have := hlt0 _ (lk_mem hc); simp only at this; omega
  have hlk : ∀ i, i < L.length → lk (g0 ++ famG gr M 0 L.length) (M + i) = gr i := fun i hi => by
    rw [lk_append, hno0]; exact lk_famG (Nat.zero_le _) (by omega)
  refine Weak.re (H' := ⟨M + L.length, F' ++ fam enc sz M L, []⟩) (g0 ++ famG gr M 0 L.length) (famN gr M 0 L.length) ?_ ?_ ?_ (Held.append hfront (Held.rows hno L M (fun i l hi => ?_) (Nat.le_refl _))) hfr ?_ hlp.symm
  · rw [List.all_eq_true]
    intro p hp'
    rw [List.all_eq_true]
    intro q hq
    simp only [Bool.or_eq_true, bne_iff_ne, ne_eq, beq_iff_eq]
    rcases List.mem_append.1 hp' with h1 | h1 <;> rcases List.mem_append.1 hq with h2 | h2
    · simpa using List.all_eq_true.1 (List.all_eq_true.1 hinj0 p h1) q h2
    · obtain ⟨j, o, _, hj, ho, rfl⟩ := mem_famG.1 h2
      exact .inl (hdis j o (by omega) ho p h1)
    · obtain ⟨j, o, _, hj, ho, rfl⟩ := mem_famG.1 h1
      exact .inl (fun h => hdis j o (by omega) ho q h2 h.symm)
    · obtain ⟨i, o, _, hi, ho, rfl⟩ := mem_famG.1 h1
      obtain ⟨j, o', _, hj, ho', rfl⟩ := mem_famG.1 h2
      by_cases h : o = o'
      · subst h; exact .inr (by rw [hinj i j o (by omega) (by omega) ho ho'])
      · exact .inl h
  · rw [List.all_eq_true]
    intro p hp'
    simp only [decide_eq_true_eq]
    rcases List.mem_append.1 hp' with h1 | h1
    · have := hlt0 p h1; omega
    · obtain ⟨j, o, _, hj, _, rfl⟩ := mem_famG.1 h1
      show M + j < M + L.length
      omega
  · rw [List.all_eq_true]
    intro k hk
    obtain ⟨j, _, hj, hn, rfl⟩ := mem_famN.1 hk
    rw [hlk j (by omega), hn]
    simp; omega
  · have hi' : i < L.length := (List.getElem?_eq_some_iff.1 hi).1
    rcases hrow i l hi with ⟨o, h1, h2⟩ | ⟨h1, h2⟩
    · exact .inl ⟨o, (hlk i hi').trans h1, h2⟩
    · exact .inr ⟨mem_famN.2 ⟨i, Nat.zero_le _, by omega, h1, rfl⟩, h2⟩
  · rw [hp]; simp [pinOk]

theorem seeL_give {F : List (Nat × (Nat × List AV))} {enc : α → AV} {sz M : Nat} {L : List (List α)} {g : List (Nat × Nat)} {nw : List Nat} (hno : ∀ x, NoId (enc x)) (hF : F.all (fun p => decide (p.1 < M)) = true := by rfl) (hg : g.all (fun p => decide (p.2 < M)) = true := by rfl) :
    SeeL (famH F enc sz M L) g nw (famV enc M L) (L.map (slA enc)) :=
  ⟨by simp, fun k e e' h1 h2 => by
    rw [famV_get] at h1
    simp only [Option.map_eq_some_iff] at h1
    obtain ⟨l, h1, rfl⟩ := h1
    rw [List.getElem?_map, h1] at h2
    cases h2
    refine ⟨.lend (es := l.map enc) (by simp only [Heap.get, lk_famH hF h1, Option.map_some]) (fun p hp => ?_) (by rw [List.drop_zero, List.take_length]) (fun e he => ?_), rfl⟩
    · have := List.all_eq_true.1 hg p hp
      simp only [decide_eq_true_eq] at this
      omega
    · obtain ⟨x, _, rfl⟩ := List.mem_map.1 he; exact hno x⟩
theorem famH_get {F : List (Nat × (Nat × List AV))} {enc : α → AV} {sz M : Nat} {L : List (List α)} {i : Nat} {l : List α} (h : L[i]? = some l) (hF : F.all (fun p => decide (p.1 < M)) = true := by rfl) : (famH F enc sz M L).get (M + i) = some (l.map enc) := by
  simp only [Heap.get, lk_famH hF h, Option.map_some]
theorem famH_sz {F : List (Nat × (Nat × List AV))} {enc : α → AV} {sz M : Nat} {L : List (List α)} {i : Nat} {l : List α} (h : L[i]? = some l) (hF : F.all (fun p => decide (p.1 < M)) = true := by rfl) : (famH F enc sz M L).sz (M + i) = some sz := by
  simp only [Heap.sz, lk_famH hF h, Option.map_some]
theorem famH_app {F : List (Nat × (Nat × List AV))} {enc : α → AV} {sz M s k oid : Nat} {L : List (List α)} {es : List AV} (ho : oid < M) : lk (((famH F enc sz M L).del (M + k)).push s es).objs oid = lk F oid := by
  simp only [Heap.push, Heap.del, lk_up, lk_del]
  rw [if_neg (by omega), if_neg (by omega), lk_famL ho]
theorem famH_appG {F : List (Nat × (Nat × List AV))} {enc : α → AV} {sz M s k oid q : Nat} {L : List (List α)} {es v : List AV} (h : lk F oid = some (q, v)) (hF : F.all (fun p => decide (p.1 < M)) = true := by rfl) : (((famH F enc sz M L).del (M + k)).push s es).get oid = some v := by
  simp only [Heap.get, famH_app (low_lt hF h), h, Option.map_some]
theorem Weak.appRow {W0 : Base} {N : Nat} {fr fr' : List (Nat × AV)} {F F' : List (Nat × (Nat × List AV))} (g0 : List (Nat × Nat)) {M sz k oid : Nat} {enc : α → AV} {L : List (List α)} {l l' : List α} (L2 : List (List α)) (h2 : L2 = L.set k l') (hno : ∀ x, NoId (enc x)) (hl : L[k]? = some l) (ho : lk F oid = some (1, famV enc M L))
    (hfront : ∀ (H : Heap) (g : List (Nat × Nat)) (nw : List Nat), (∀ n, n < M → lk g n = lk g0 n) → (∀ n x, n ≠ oid → lk F n = some x → lk H.objs n = some x) →
      ∀ es, lk H.objs oid = some (1, es) → SeeL H g nw es (famV enc M L2) → Held H g nw (M + L2.length) F' ∧ Seen H g nw fr fr')
    (hF : F.all (fun p => decide (p.1 < M)) = true := by rfl) (hg0 : g0.all (fun p => decide (p.1 < M) && decide (p.2 < M)) = true := by rfl) (hinj0 : g0.all (fun p => g0.all (fun q => p.2 != q.2 || p.1 == q.1)) = true := by rfl) (hp : W0.p = 0 := by rfl) :
    Weak W0 N ⟨fr, (((famH F enc sz M L).del (M + k)).push sz (l'.map enc)).set oid ((famV enc M L).set k (.view (M + L.length) 0 (l'.map enc).length))⟩ ⟨fr', famH F' enc sz M L2⟩ := by
  subst h2
  have hk : k < L.length := (List.getElem?_eq_some_iff.1 hl).1
  have hoM := low_lt hF ho
  have hlt0 : ∀ p ∈ g0, p.1 < M ∧ p.2 < M := fun p hp => by simpa using List.all_eq_true.1 hg0 p hp
  have hg0' : g0.all (fun p => decide (p.1 < M)) = true := List.all_eq_true.2 fun p hp => by simpa using (hlt0 p hp).1
  have hlk : ∀ n, lk ((((famH F enc sz M L).del (M + k)).push sz (l'.map enc)).set oid ((famV enc M L).set k (.view (M + L.length) 0 (l'.map enc).length))).objs n = if n = oid then some (1, (famV enc M L).set k (.view (M + L.length) 0 (l'.map enc).length)) else if n = M + L.length then some (sz, l'.map enc) else if n = M + k then none else lk (F ++ fam enc sz M L) n := fun n => by
    have hs : ((((famH F enc sz M L).del (M + k)).push sz (l'.map enc)).sz oid).getD 0 = 1 := by
      simp only [Heap.sz, famH_app hoM, ho, Option.map_some, Option.getD_some]
    simp only [Heap.set, lk_up, hs]
    split
    · rfl
    · simp only [Heap.push, Heap.del, lk_up, lk_del]
  let gr : Nat → Option Nat := fun i => some (if i = k then M + L.length else M + i)
  have hsee := seeL_rows (H := (((famH F enc sz M L).del (M + k)).push sz (l'.map enc)).set oid ((famV enc M L).set k (.view (M + L.length) 0 (l'.map enc).length))) (g0 := g0) (gr := gr) (M := M) (enc := enc) (L := L.set k l') (es := (famV enc M L).set k (.view (M + L.length) 0 (l'.map enc).length)) hg0' (by simp) (fun i l2 hi => .inl ⟨_, rfl, by
    rw [List.getElem?_set] at hi ⊢
    by_cases hik : k = i
    · subst hik
      rw [if_pos rfl, if_pos hk] at hi
      cases hi
      simp [hk]
    · rw [if_neg hik] at hi
      rw [if_neg hik, famV_get, hi, if_neg (Ne.symm hik)]; rfl⟩)
  obtain ⟨hf1, hf2⟩ := hfront ((((famH F enc sz M L).del (M + k)).push sz (l'.map enc)).set oid ((famV enc M L).set k (.view (M + L.length) 0 (l'.map enc).length))) (g0 ++ famG gr M 0 (L.set k l').length) (famN gr M 0 (L.set k l').length) (fun n hn => by
      rw [lk_append]
      cases hc : lk g0 n with
      | some v => rfl
      | none =>
        cases hc2 : lk (famG gr M 0 (L.set k l').length) n with
        | none => rfl
        | some v =>
          obtain ⟨j, o, _, _, _, h5⟩ := mem_famG.1 (lk_mem hc2)
          simp only [Prod.mk.injEq] at h5
          omega) (fun n x hn hx => by
      have := low_lt hF hx
      rw [hlk, if_neg hn, if_neg (by omega), if_neg (by omega), lk_famL this, hx]) _ (by rw [hlk, if_pos rfl]) hsee
  refine Weak.rows g0 (L.set k l') gr hno (fun i l2 hi => .inl ⟨_, rfl, ?_⟩) (fun i j o hi hj h1 h2 => ?_) (fun i o hi h1 p hp' => ?_) hf1 hf2 hg0' hinj0 hp rfl
  · have hi' := (List.getElem?_eq_some_iff.1 hi).1
    rw [List.length_set] at hi'
    rw [List.getElem?_set] at hi
    show lk _ (if i = k then M + L.length else M + i) = _
    rw [hlk]
    by_cases hik : k = i
    · subst hik
      rw [if_pos rfl, if_pos hk] at hi
      cases hi
      rw [if_pos rfl, if_neg (by omega), if_pos rfl]
    · rw [if_neg hik] at hi
      rw [if_neg (Ne.symm hik), if_neg (by omega), if_neg (by omega), if_neg (by omega)]
      exact lk_famH hF hi
  · rw [List.length_set] at hi hj
    simp only [gr, Option.some.injEq] at h1 h2
    split at h1 <;> split at h2 <;> omega
  · rw [List.length_set] at hi
    have := (hlt0 p hp').2
    simp only [gr, Option.some.injEq] at h1
    split at h1 <;> omega

theorem Weak.newRows {W0 : Base} {N : Nat} {fr fr' : List (Nat × AV)} {H : Heap} {F' : List (Nat × (Nat × List AV))} (g0 : List (Nat × Nat)) {M sz : Nat} {enc : α → AV} {L : List (List α)} (hL : ∀ l ∈ L, l = []) (hno : ∀ x, NoId (enc x))
    (hfront : ∀ (g : List (Nat × Nat)) (nw : List Nat), (∀ n, n < M → lk g n = lk g0 n) → SeeL H g nw (L.map fun _ => nilS) (famV enc M L) → Held H g nw (M + L.length) F' ∧ Seen H g nw fr fr')
    (hg0 : g0.all (fun p => decide (p.1 < M)) = true := by rfl) (hinj0 : g0.all (fun p => g0.all (fun q => p.2 != q.2 || p.1 == q.1)) = true := by rfl) (hp : W0.p = 0 := by rfl) (hlp : H.lps = [] := by rfl) : Weak W0 N ⟨fr, H⟩ ⟨fr', famH F' enc sz M L⟩ := by
  have e : ∀ i l, L[i]? = some l → l = [] := fun i l h => hL l (List.mem_of_getElem? h)
  obtain ⟨hf1, hf2⟩ := hfront (g0 ++ famG (fun _ => none) M 0 L.length) (famN (fun _ => none) M 0 L.length) (fun n hn => by
    rw [lk_append]
    cases hc : lk g0 n with
    | some v => rfl
    | none =>
      cases hc2 : lk (famG (fun _ => none) M 0 L.length) n with
      | none => rfl
      | some v => obtain ⟨j, o, _, _, h3, _⟩ := mem_famG.1 (lk_mem hc2); cases h3) (seeL_rows hg0 (by simp) fun i l hi => .inr ⟨rfl, by simp [hi], e i l hi⟩)
  exact Weak.rows g0 L (fun _ => none) hno (fun i l hi => .inr ⟨rfl, e i l hi⟩) (fun _ _ _ _ _ h => by cases h) (fun _ _ _ h => by cases h) hf1 hf2 hg0 hinj0 hp hlp
theorem Weak.newRow {W0 : Base} {N : Nat} {fr fr' : List (Nat × AV)} {F F' : List (Nat × (Nat × List AV))} (g0 : List (Nat × Nat)) {M sz oid : Nat} {enc : α → AV} {L : List (List α)} (L2 : List (List α)) (h2 : L2 = L ++ [[]]) (hno : ∀ x, NoId (enc x)) (ho : lk F oid = some (1, famV enc M L))
    (hfront : ∀ (H : Heap) (g : List (Nat × Nat)) (nw : List Nat), (∀ n, n < M → lk g n = lk g0 n) → (∀ n x, n ≠ oid → lk F n = some x → lk H.objs n = some x) →
      ∀ es, lk H.objs (M + L.length) = some (1, es) → SeeL H g nw es (famV enc M L2) → Held H g nw (M + L2.length) F' ∧ Seen H g nw fr fr')
    (hF : F.all (fun p => decide (p.1 < M)) = true := by rfl) (hg0 : g0.all (fun p => decide (p.1 < M)) = true := by rfl) (hg2 : ∀ p ∈ g0, p.2 < M ∨ p.2 = M + L.length := by simp) (hinj0 : g0.all (fun p => g0.all (fun q => p.2 != q.2 || p.1 == q.1)) = true := by simp) (hp : W0.p = 0 := by rfl) :
    Weak W0 N ⟨fr, (((famH F enc sz M L).del oid).push 1 (famV enc M L ++ [nilS]))⟩ ⟨fr', famH F' enc sz M L2⟩ := by
  subst h2
  have hoM := low_lt hF ho
  have hlk : ∀ n, lk ((((famH F enc sz M L).del oid).push 1 (famV enc M L ++ [nilS]))).objs n = if n = M + L.length then some (1, famV enc M L ++ [nilS]) else if n = oid then none else lk (F ++ fam enc sz M L) n := fun n => by
    simp only [Heap.push, Heap.del, lk_up, lk_del]
  let gr : Nat → Option Nat := fun i => if i < L.length then some (M + i) else none
  have hsee := seeL_rows (H := (((famH F enc sz M L).del oid).push 1 (famV enc M L ++ [nilS]))) (g0 := g0) (gr := gr) (M := M) (enc := enc) (L := L ++ [[]]) (es := famV enc M L ++ [nilS]) hg0 (by simp) (fun i l2 hi => by
    rw [List.getElem?_append] at hi ⊢
    rw [famV_len]
    by_cases hik : i < L.length
    · rw [if_pos hik] at hi ⊢
      rw [famV_get, hi]
      exact .inl ⟨M + i, if_pos hik, rfl⟩
    · rw [if_neg hik] at hi ⊢
      have h0 : i - L.length = 0 := by
        have := (List.getElem?_eq_some_iff.1 hi).1
        simp at this; omega
      rw [h0] at hi ⊢
      simp at hi
      exact .inr ⟨if_neg hik, rfl, hi⟩)
  obtain ⟨hf1, hf2⟩ := hfront (((famH F enc sz M L).del oid).push 1 (famV enc M L ++ [nilS])) (g0 ++ famG gr M 0 (L ++ [[]]).length) (famN gr M 0 (L ++ [[]]).length) (fun n hn => by
      rw [lk_append]
      cases hc : lk g0 n with
      | some v => rfl
      | none =>
        cases hc2 : lk (famG gr M 0 (L ++ [[]]).length) n with
        | none => rfl
        | some v =>
          obtain ⟨j, o, _, _, _, h5⟩ := mem_famG.1 (lk_mem hc2)
          simp only [Prod.mk.injEq] at h5
          omega) (fun n x hn hx => by
      have := low_lt hF hx
      rw [hlk, if_neg (by omega), if_neg hn, lk_famL this, hx]) _ (by rw [hlk, if_pos rfl]) hsee
  refine Weak.rows g0 (L ++ [[]]) gr hno (fun i l2 hi => ?_) (fun i j o hi hj h1 h2 => ?_) (fun i o hi h1 p hp' => ?_) hf1 hf2 hg0 hinj0 hp rfl
  · rw [List.getElem?_append] at hi
    by_cases hik : i < L.length
    · rw [if_pos hik] at hi
      refine .inl ⟨M + i, if_pos hik, ?_⟩
      rw [hlk, if_neg (by omega), if_neg (by omega)]
      exact lk_famH hF hi
    · rw [if_neg hik] at hi
      have := List.mem_of_getElem? hi
      simp at this
      exact .inr ⟨if_neg hik, this⟩
  · simp only [gr] at h1 h2
    split at h1 <;> split at h2
    · rw [Option.some.injEq] at h1 h2; omega
    · cases h2
    · cases h1
    · cases h1
  · simp only [gr] at h1
    split at h1
    · cases h1
      rcases hg2 p hp' with k | k <;> omega
    · cases h1
theorem Weak.dropCell {W0 : Base} {N : Nat} {fr fr' : List (Nat × AV)} {F F' : List (Nat × (Nat × List AV))} (g0 : List (Nat × Nat)) {M sz s : Nat} {enc : α → AV} {L : List (List α)} {es es' : List AV} (hno : ∀ x, NoId (enc x))
    (hfront : ∀ (H : Heap) (g : List (Nat × Nat)) (nw : List Nat), (∀ n, n < M → lk g n = lk g0 n) → (∀ n x, lk F n = some x → lk H.objs n = some x) → H.get (M + L.length) = some es' → (∀ p ∈ g, p.2 ≠ M + L.length) → SeeL H g nw (famV enc M L) (famV enc M L) → Held H g nw (M + L.length) F' ∧ Seen H g nw fr fr')
    (hF : F.all (fun p => decide (p.1 < M)) = true := by rfl) (hg0 : g0.all (fun p => decide (p.1 < M) && decide (p.2 < M)) = true := by rfl) (hinj0 : g0.all (fun p => g0.all (fun q => p.2 != q.2 || p.1 == q.1)) = true := by rfl) (hp : W0.p = 0 := by rfl) :
    Weak W0 N ⟨fr, ((famH F enc sz M L).push s es).set (M + L.length) es'⟩ ⟨fr', famH F' enc sz M L⟩ := by
  have hlt0 : ∀ p ∈ g0, p.1 < M ∧ p.2 < M := fun p hp => by simpa using List.all_eq_true.1 hg0 p hp
  have hg0' : g0.all (fun p => decide (p.1 < M)) = true := List.all_eq_true.2 fun p hp => by simpa using (hlt0 p hp).1
  have hlk : ∀ n, n ≠ M + L.length → lk (((famH F enc sz M L).push s es).set (M + L.length) es').objs n = lk (F ++ fam enc sz M L) n := fun n hn => by
    simp only [Heap.set, Heap.push, lk_up]
    rw [if_neg hn, if_neg hn]
  let gr : Nat → Option Nat := fun i => some (M + i)
  obtain ⟨hf1, hf2⟩ := hfront (((famH F enc sz M L).push s es).set (M + L.length) es') (g0 ++ famG gr M 0 L.length) (famN gr M 0 L.length) (fun n hn => by
      rw [lk_append]
      cases hc : lk g0 n with
      | some v => rfl
      | none =>
        cases hc2 : lk (famG gr M 0 L.length) n with
        | none => rfl
        | some v =>
          obtain ⟨j, o, _, _, _, h5⟩ := mem_famG.1 (lk_mem hc2)
          simp only [Prod.mk.injEq] at h5
          omega) (fun n x hx => by
      have := low_lt hF hx
      rw [hlk n (by omega), lk_famL this, hx]) (by rw [Heap.get_set, if_pos rfl]) (fun p hp' => by
      rcases List.mem_append.1 hp' with k | k
      · have := (hlt0 p k).2; omega
      · obtain ⟨j, o, _, hj, ho, rfl⟩ := mem_famG.1 k
        simp only [gr, Option.some.injEq] at ho
        show o ≠ _
        omega) (seeL_rows hg0' (by simp) fun i l hi => .inl ⟨M + i, rfl, by rw [famV_get, hi]; rfl⟩)
  refine Weak.rows g0 L gr hno (fun i l hi => .inl ⟨M + i, rfl, ?_⟩) (fun i j o _ _ h1 h2 => ?_) (fun i o _ h1 p hp' => ?_) hf1 hf2 hg0' hinj0 hp rfl
  · have := (List.getElem?_eq_some_iff.1 hi).1
    rw [hlk _ (by omega)]
    exact lk_famH hF hi
  · simp only [gr, Option.some.injEq] at h1 h2; omega
  · have := (hlt0 p hp').2
    simp only [gr, Option.some.injEq] at h1; omega
end

section
variable {P : Program} {W0 : Base} {fr : Fr} {H : Heap} {o : Oper} {α : Type} {i : Int} {x : List α} {ki : IntKind}
theorem t_makeN {t e : TypeId} {s by' : Nat} {xo yo : Operand} {kl kc : IntKind} {nl nc : Int} (enc : α → AV) (L : List (List α)) (hL : Sh.mk by' nl nc [] = some L) (ho : o.op = .makeSlice t xo yo) (hx : evalA fr xo = some (.imm (.int kl nl))) (hy : evalA fr yo = some (.imm (.int kc nc)))
    (ht : elT P t = some (e, s, by')) (hz : zrT P e = some (.slice none 0 0)) (hs : 1 = s) : AOp P W0 o fr H (.view H.next 0 (L.map (slA enc)).length) (H.push s (L.map fun _ => nilS)) := by
  subst hs
  obtain ⟨m, c, h1, h2, h3, h4, h5, rfl⟩ := Sh.mk_some hL
  have := aop_makeSlice (P := P) (W0 := W0) (o := o) (fr := fr) (H := H) ho hx hy h1 h2 h3 ht h4 h5 hz rfl rfl
  simp only [List.length_map, List.length_replicate, List.map_replicate]
  exact this
theorem made_nil {by' : Nat} {nl nc : Int} {L : List (List α)} (hL : Sh.mk by' nl nc [] = some L) : ∀ l ∈ L, l = [] := fun l hl => by
  obtain ⟨m, c, _, _, _, _, _, rfl⟩ := Sh.mk_some hL
  exact (List.mem_replicate.1 hl).2
theorem t_index_fam {t e : TypeId} {by' id n : Nat} {xo io : Operand} {k : Nat} (enc : α → AV) (M : Nat) (L : List (List α)) (hi : i = k) (hl : L[k]? = some x) (hn : n = (L.map (slA enc)).length) (ho : o.op = .indexAddr t xo io) (hx : evalA fr xo = some (.view id 0 n)) (hid : H.get id = some (famV enc M L)) (hio : evalA fr io = some (.imm (.int ki i)))
    (ht : elT P t = some (e, 1, by')) : AOp P W0 o fr H (.ref id k 0) H := by
  have hk : k < n := by rw [hn, List.length_map]; exact (List.getElem?_eq_some_iff.1 hl).1
  have := aop_index_view (P := P) (W0 := W0) (o := o) (fr := fr) (H := H) ho hx hid hio ht hi hk (el := .view (M + k) 0 (x.map enc).length) (by rw [Nat.zero_add, famV_get, hl]; rfl) rfl
  rwa [Nat.zero_add] at this
theorem t_load_fam {t : TypeId} {xo : Operand} {id k : Nat} {g : Bool} (enc : α → AV) (M : Nat) (L : List (List α)) (hl : L[k]? = some x) (ho : o.op = .load t xo) (hx : evalA fr xo = some (.ref id k 0)) (hid : H.get id = some (famV enc M L)) (ht : szT P t = some (1, g)) (hg : g = false) : AOp P W0 o fr H (.view (M + k) 0 (x.map enc).length) H := by
  subst hg
  exact aop_load_ref ho hx hid (by rw [famV_get, hl]; rfl) ht rfl
theorem t_store_fam {t : TypeId} {xo yo : Operand} {id k a b : Nat} {g : Bool} (enc : α → AV) (M : Nat) (L : List (List α)) (hl : L[k]? = some x) (ho : o.op = .store t xo yo) (hx : evalA fr xo = some (.ref id k 0)) (hy : evalA fr yo = some (.view a 0 b)) (hid : H.get id = some (famV enc M L)) (ht : szT P t = some (1, g)) :
    AOp P W0 o fr H .any (H.set id ((famV enc M L).set k (.view a 0 b))) :=
  aop_store ho hx hy rfl hid (by rw [famV_get, hl]; rfl) ht rfl (Nat.le_refl _) rfl
theorem push_get {s : Nat} {es : List AV} : (H.push s es).get H.next = some es := by rw [Heap.get_push, if_pos rfl]
end
end Go.Av
end

section
/- Calls that panic, and what takes the panic back. -/
namespace Go.Av
open Go.RowKit (Below)

section
variable {P : Program} {W0 : Base} {C : Ctx} {fr : Fr} {a : Act} {H : Heap} {o : Oper} {N : Nat} {ops : Array Oper} {Q : Exit → St → Prop}


@[reducible] def Base.off (W : World) (p : Nat) (ds : List Deferred) : Base := ⟨W, p, none, fun _ => True, fun _ _ _ _ _ => trivial, ds⟩

theorem Inv.off {W : World} {B : Base} (hI : Inv B C) (hB : B.w = W) (p : Nat) (ds : List Deferred) (hle : p ≤ C.H.next) : Inv (.off W p ds) { C with pin := p } where
  fresh := hI.fresh
  nil := hI.nil
  obj id es h hn := by
    have hO := hI.obj id es h hn
    exact ⟨hO.n, hO.cap, hO.blk, hO.one, hO.flat, fun i j e x v h1 h2 h3 => (hO.cell i j e x v h1 h2 h3).sub rfl (Nat.le_refl _) (fun id es _ h => ⟨es, h⟩) (fun _ _ => rfl) (fun b h => h)⟩
  sep := hI.sep
  prot := hI.prot
  szok := hI.szok
  protlt := hI.protlt
  protge b h := by subst hB; exact hI.protge b h
  size := by subst hB; exact hI.size
  glob b h := by subst hB; exact hI.glob b h
  lps := hI.lps
  dfs := hI.dfs
  dnd := hI.dnd
  rod _ h := by cases h
  spprot := hI.spprot
  pinB := rfl
  pinlt := hle
  gh := trivial

theorem Inv.dx {W : World} {p : Nat} {ds ds' : List Deferred} (h : Inv (.off W p ds) C) : Inv (.off W p ds') C :=
  ⟨h.fresh, h.nil, h.obj, h.sep, h.prot, h.szok, h.protlt, h.protge, h.size, h.glob, h.lps, h.dfs, h.dnd, h.rod, h.spprot, h.pinB, h.pinlt, h.gh⟩
theorem Inv.on {W : World} {p : Nat} {ds : List Deferred} (h : Inv (.off W p ds) C) : Inv (.of W) { C with pin := 0 } :=
  have k := h.off (W := W) rfl 0 [] (Nat.zero_le _)
  ⟨k.fresh, k.nil, k.obj, k.sep, k.prot, k.szok, k.protlt, k.protge, k.size, k.glob, k.lps, k.dfs, k.dnd, k.rod, k.spprot, k.pinB, k.pinlt, k.gh⟩

end
end Go.Av
end

section
/- From the reading of a claim's arguments to what the proof sees of them; and from what a law's function does to what its row asks. -/
namespace Go.Av
open Go.RowKit (Below)

mutual
def avOf {H : Type} : DataW H → AV
  | .lit (.bool b) => .imm (.bool b)
  | .lit (.int k n) => .imm (.int k n)
  | .lit (.string bs) => .imm (.string ⟨bs.toArray⟩)
  | .nil => .sl []
  | .slice es _ => .sl (avAll es)
  | .agg ps => .agg (cellsAll ps)
  | _ => .any
def avAll {H : Type} : List (DataW H) → List AV
  | [] => []
  | d :: r => avOf d :: avAll r
def cellsAll {H : Type} : List (DataW H) → List AV
  | [] => []
  | d :: r => (avOf d).flat ++ cellsAll r
end

theorem avAll_map {H : Type} (l : List (DataW H)) : avAll l = l.map avOf := by
  induction l with
  | nil => rfl
  | cons d r ih => simp [avAll, ih]

def plainTy (P : Program) : Nat → TypeId → Bool
  | 0, _ => false
  | n + 1, t =>
    match P.underlying t with
    | some .bool | some (.int _) | some .string => true
    | some (.slice e) => P.cellsOf e != 0 && plainTy P n e
    | some (.struct fs) => fs.toList.all (fun f => plainTy P n f.type) && (fs.toList.foldl (fun (acc : Option Nat) f => acc.bind fun a => if f.offset == a then some (a + P.cellsOf f.type) else none) (some 0)) == some (P.cellsOf t)
    | some (.array m e) => plainTy P n e && m * P.cellsOf e == P.cellsOf t
    | _ => false

theorem flat_agg (cs : List AV) : (AV.agg cs).flat = cs := rfl

structure ReadsAs (C : Ctx) (cs : List Value) (x : AV) : Prop where
  len : x.flat.length = cs.length
  one : ∀ c ∈ cs, c.oneCell' = true
  rep : ∀ (k : Nat) (y : AV), x.flat[k]? = some y → ∃ c, cs[k]? = some c ∧ Rep C y c

theorem mapM_some {α β : Type} (f : α → Option β) : ∀ (l : List α) (ys : List β), l.mapM f = some ys → ys.length = l.length ∧ ∀ (k : Nat) (x : α), l[k]? = some x → ∃ y, ys[k]? = some y ∧ f x = some y := by
  intro l
  induction l with
  | nil => intro ys h; simp only [List.mapM_nil, Option.pure_def, Option.some.injEq] at h; subst h; exact ⟨rfl, fun k x hk => by simp at hk⟩
  | cons y l ih =>
    intro ys h
    rw [List.mapM_cons] at h
    simp only [Option.bind_eq_bind, Option.bind_eq_some_iff, Option.pure_def, Option.some.injEq] at h
    obtain ⟨z, hz, zs, hzs, rfl⟩ := h
    obtain ⟨h1, h2⟩ := ih zs hzs
    refine ⟨by simp [h1], fun k x hk => ?_⟩
    cases k with
    | zero => simp at hk; subst hk; exact ⟨z, rfl, hz⟩
    | succ k => simp at hk; simpa using h2 k x hk

theorem readsAs_one {C : Ctx} {c : Value} {x : AV} (h1 : c.oneCell' = true) (hr : Rep C x c) : ReadsAs C [c] x := by
  have hf := rep_flat_one hr h1
  refine ⟨by rw [hf]; rfl, fun c' hc => by simp at hc; subst hc; exact h1, fun k y hk => ?_⟩
  rw [hf] at hk
  cases k with
  | zero => simp at hk; subst hk; exact ⟨c, rfl, hr⟩
  | succ k => simp at hk

section
variable {H : Type} {enc : TypeId × Value → H} {P : Program} {w : World} {spare : Nat → Bool} {held : Bool} {C : Ctx}

theorem reads_segs {ι : Type} (ty : ι → TypeId) (off : ι → Nat) (fuel : Nat) (cs : List Value) :
    ∀ (l : List ι) (acc : Nat) (xs : List (DataW H × List MemPlace)), (∀ x ∈ l, ∀ (seg : List Value) (y : DataW H × List MemPlace), DataW.trod enc P w 0 spare held fuel (ty x) seg = some y → seg.length = P.cellsOf (ty x) → ReadsAs C seg (avOf y.1)) → (∀ (i : Nat) (x : ι), l[i]? = some x → off x = acc + ((l.take i).map fun y => P.cellsOf (ty y)).sum) → acc + (l.map fun y => P.cellsOf (ty y)).sum = cs.length →
      l.mapM (fun x => DataW.trod enc P w 0 spare held fuel (ty x) ((cs.drop (off x)).take (P.cellsOf (ty x)))) = some xs → ReadsAs C (cs.drop acc) (.agg (cellsAll (xs.map (·.1)))) := by
  intro l
  induction l with
  | nil =>
    intro acc xs _ _ hlen h
    simp only [List.mapM_nil, Option.pure_def, Option.some.injEq] at h; subst h
    have : cs.drop acc = [] := List.drop_eq_nil_of_le (by simp at hlen; omega)
    rw [this]
    exact ⟨rfl, fun c hc => (by cases hc), fun k y hk => (by simp [cellsAll, AV.flat] at hk)⟩
  | cons x l ihl =>
    intro acc xs ih hoff hlen h
    rw [List.mapM_cons] at h
    simp only [Option.bind_eq_bind, Option.bind_eq_some_iff, Option.pure_def, Option.some.injEq] at h
    obtain ⟨z, hz, zs, hzs, rfl⟩ := h
    have h0 : off x = acc := by have := hoff 0 x rfl; simpa using this
    simp only [List.map_cons, List.sum_cons] at hlen
    rw [h0] at hz
    have hseg : ((cs.drop acc).take (P.cellsOf (ty x))).length = P.cellsOf (ty x) := by simp; omega
    have r1 := ih x (List.mem_cons_self ..) _ z hz hseg
    have r2 := ihl (acc + P.cellsOf (ty x)) zs (fun y hy => ih y (List.mem_cons_of_mem _ hy)) (fun i y hy => by
      have := hoff (i + 1) y (by simpa using hy)
      rw [this]; simp only [List.take_succ_cons, List.map_cons, List.sum_cons]; omega) (by omega) hzs
    have hsplit : cs.drop acc = (cs.drop acc).take (P.cellsOf (ty x)) ++ cs.drop (acc + P.cellsOf (ty x)) := by
      rw [← List.drop_drop]; exact (List.take_append_drop _ _).symm
    rw [hsplit]
    have l1 := r1.len
    have l2 := r2.len
    simp only [flat_agg] at l2
    refine ⟨by simp only [flat_agg, List.map_cons, cellsAll, List.length_append, l1, l2], fun c hc => ?_, fun k y hk => ?_⟩
    · rcases List.mem_append.1 hc with h | h
      · exact r1.one c h
      · exact r2.one c h
    · simp only [flat_agg, List.map_cons, cellsAll] at hk
      by_cases hlt : k < (avOf z.1).flat.length
      · rw [List.getElem?_append_left hlt] at hk
        obtain ⟨c, g1, g2⟩ := r1.rep k y hk
        exact ⟨c, by rw [List.getElem?_append_left (by omega)]; exact g1, g2⟩
      · rw [List.getElem?_append_right (by omega)] at hk
        obtain ⟨c, g1, g2⟩ := r2.rep _ y hk
        exact ⟨c, by rw [List.getElem?_append_right (by omega), ← l1]; exact g1, g2⟩

theorem foldl_contig (P : Program) : ∀ (fs : List Field) (a tot : Nat), fs.foldl (fun (acc : Option Nat) f => acc.bind fun a => if f.offset == a then some (a + P.cellsOf f.type) else none) (some a) = some tot →
    (∀ (i : Nat) (x : Field), fs[i]? = some x → x.offset = a + ((fs.take i).map fun y => P.cellsOf y.type).sum) ∧ a + (fs.map fun y => P.cellsOf y.type).sum = tot := by
  intro fs
  induction fs with
  | nil => intro a tot h; simp only [List.foldl_nil, Option.some.injEq] at h; subst h; exact ⟨fun i x h => by simp at h, by simp⟩
  | cons f fs ih =>
    intro a tot h
    simp only [List.foldl_cons, Option.bind_some] at h
    by_cases hf : f.offset == a
    · rw [if_pos hf] at h
      obtain ⟨h1, h2⟩ := ih _ _ h
      have hf' : f.offset = a := by simpa using hf
      refine ⟨fun i x hx => ?_, by simp only [List.map_cons, List.sum_cons]; omega⟩
      cases i with
      | zero => simp at hx; subst hx; simpa using hf'
      | succ i =>
        simp only [List.getElem?_cons_succ] at hx
        rw [h1 i x hx]
        simp only [List.take_succ_cons, List.map_cons, List.sum_cons]; omega
    · rw [if_neg hf] at h
      have : ∀ (l : List Field), l.foldl (fun (acc : Option Nat) f => acc.bind fun a => if f.offset == a then some (a + P.cellsOf f.type) else none) none = none := by
        intro l; induction l with
        | nil => rfl
        | cons _ _ ih => simpa using ih
      rw [this] at h; cases h

theorem trod_slice_inv {fuel : Nat} {t e : TypeId} {cs : List Value} {d : DataW H} {ps : List MemPlace} (hu : P.underlying t = some (.slice e)) (h : DataW.trod enc P w 0 spare held (fuel + 1) t cs = some (d, ps)) :
    (cs = [.slice none 0 0] ∧ d = .nil) ∨ ∃ a len cap elems rest, cs = [.slice (some a) len cap] ∧ d = .slice (elems.map (·.1)) rest ∧ len ≤ cap ∧ cap ≤ maxLen ∧
      (List.range len).mapM (fun i => (w.cells? 0 (a.add (i * P.cellsOf e)) (P.cellsOf e)).bind (DataW.trod enc P w 0 spare held fuel e)) = some elems := by
  rcases cs with _ | ⟨c, _ | ⟨c', cs⟩⟩
  · simp [DataW.trod, hu] at h
  · cases c <;> try (simp [DataW.trod, hu] at h; done)
    rename_i a len cap
    cases a with
    | none =>
      cases len <;> cases cap <;> simp [DataW.trod, hu] at h
      exact .inl ⟨rfl, h.1.symm⟩
    | some a =>
      simp only [DataW.trod, hu] at h
      split at h
      · rename_i hc
        simp only [Option.bind_eq_some_iff, Option.map_eq_some_iff, Prod.mk.injEq] at h
        obtain ⟨elems, h1, rest, h2, rfl, _⟩ := h
        exact .inr ⟨a, len, cap, elems, _, rfl, rfl, hc.2.1, hc.2.2, h1⟩
      · cases h
  · simp [DataW.trod, hu] at h

theorem trod_bool_inv {fuel : Nat} {t : TypeId} {cs : List Value} {d : DataW H} {ps : List MemPlace} (hu : P.underlying t = some .bool) (h : DataW.trod enc P w 0 spare held (fuel + 1) t cs = some (d, ps)) : ∃ b, cs = [.bool b] ∧ d = .lit (.bool b) := by
  rcases cs with _ | ⟨c, _ | ⟨c', cs⟩⟩
  · simp [DataW.trod, hu] at h
  · cases c <;> try (simp [DataW.trod, hu] at h; done)
    rename_i b
    simp only [DataW.trod, hu, Option.some.injEq, Prod.mk.injEq] at h
    exact ⟨b, rfl, h.1.symm⟩
  · simp [DataW.trod, hu] at h

theorem trod_int_inv {fuel : Nat} {t : TypeId} {k : IntKind} {cs : List Value} {d : DataW H} {ps : List MemPlace} (hu : P.underlying t = some (.int k)) (h : DataW.trod enc P w 0 spare held (fuel + 1) t cs = some (d, ps)) : ∃ n, cs = [.int k n] ∧ d = .lit (.int k n) ∧ (Lit.int k n).wf = true := by
  rcases cs with _ | ⟨c, _ | ⟨c', cs⟩⟩
  · simp [DataW.trod, hu] at h
  · cases c <;> try (simp [DataW.trod, hu] at h; done)
    rename_i k' n
    simp only [DataW.trod, hu] at h
    split at h
    · rename_i hk
      obtain ⟨rfl, hwf⟩ := hk
      simp only [Option.some.injEq, Prod.mk.injEq] at h
      exact ⟨n, rfl, h.1.symm, hwf⟩
    · cases h
  · simp [DataW.trod, hu] at h

theorem trod_string_inv {fuel : Nat} {t : TypeId} {cs : List Value} {d : DataW H} {ps : List MemPlace} (hu : P.underlying t = some .string) (h : DataW.trod enc P w 0 spare held (fuel + 1) t cs = some (d, ps)) : ∃ s, cs = [.string s] ∧ d = .lit (.string s.data.toList) := by
  rcases cs with _ | ⟨c, _ | ⟨c', cs⟩⟩
  · simp [DataW.trod, hu] at h
  · cases c <;> try (simp [DataW.trod, hu] at h; done)
    rename_i s
    simp only [DataW.trod, hu] at h
    split at h
    · simp only [Option.some.injEq, Prod.mk.injEq] at h
      exact ⟨s, rfl, h.1.symm⟩
    · cases h
  · simp [DataW.trod, hu] at h

theorem trod_struct_inv {fuel : Nat} {t : TypeId} {fs : Array Field} {cs : List Value} {d : DataW H} {ps : List MemPlace} (hu : P.underlying t = some (.struct fs)) (h : DataW.trod enc P w 0 spare held (fuel + 1) t cs = some (d, ps)) :
    ∃ xs, cs.length = P.cellsOf t ∧ d = .agg (xs.map (·.1)) ∧ fs.toList.mapM (fun f => DataW.trod enc P w 0 spare held fuel f.type ((cs.drop f.offset).take (P.cellsOf f.type))) = some xs := by
  have key : (if cs.length = P.cellsOf t then (fs.toList.mapM fun f => DataW.trod enc P w 0 spare held fuel f.type ((cs.drop f.offset).take (P.cellsOf f.type))).map fun xs => ((.agg (xs.map (·.1)) : DataW H), xs.flatMap (·.2)) else none) = some (d, ps) := by
    rcases cs with _ | ⟨c, _ | ⟨c', cs⟩⟩
    · simpa only [DataW.trod, hu] using h
    · cases c <;> simpa only [DataW.trod, hu] using h
    · simpa only [DataW.trod, hu] using h
  split at key
  · rename_i hl
    obtain ⟨xs, h1, h2⟩ := Option.map_eq_some_iff.1 key
    simp only [Prod.mk.injEq] at h2
    exact ⟨xs, hl, h2.1.symm, h1⟩
  · cases key

theorem trod_array_inv {fuel : Nat} {t e : TypeId} {m : Nat} {cs : List Value} {d : DataW H} {ps : List MemPlace} (hu : P.underlying t = some (.array m e)) (h : DataW.trod enc P w 0 spare held (fuel + 1) t cs = some (d, ps)) :
    ∃ xs, cs.length = P.cellsOf t ∧ d = .agg (xs.map (·.1)) ∧ (List.range m).mapM (fun i => DataW.trod enc P w 0 spare held fuel e ((cs.drop (i * P.cellsOf e)).take (P.cellsOf e))) = some xs := by
  have key : (if cs.length = P.cellsOf t then ((List.range m).mapM fun i => DataW.trod enc P w 0 spare held fuel e ((cs.drop (i * P.cellsOf e)).take (P.cellsOf e))).map fun xs => ((.agg (xs.map (·.1)) : DataW H), xs.flatMap (·.2)) else none) = some (d, ps) := by
    rcases cs with _ | ⟨c, _ | ⟨c', cs⟩⟩
    · simpa only [DataW.trod, hu] using h
    · cases c <;> simpa only [DataW.trod, hu] using h
    · simpa only [DataW.trod, hu] using h
  split at key
  · rename_i hl
    obtain ⟨xs, h1, h2⟩ := Option.map_eq_some_iff.1 key
    simp only [Prod.mk.injEq] at h2
    exact ⟨xs, hl, h2.1.symm, h1⟩
  · cases key

theorem cells?_get {a : Addr} {n : Nat} {seg : List Value} (h : w.cells? 0 a n = some seg) : seg.length = n ∧ ∀ (j : Nat) (c : Value), seg[j]? = some c → w.cell? (a.add j) = some c := by
  unfold World.cells? at h
  rw [if_pos (Nat.zero_le _)] at h
  obtain ⟨h1, h2⟩ := mapM_some _ _ _ h
  refine ⟨by simpa using h1, fun j c hc => ?_⟩
  have hj : j < n := by have := (List.getElem?_eq_some_iff.1 hc).1; rw [h1] at this; simpa using this
  obtain ⟨y, g1, g2⟩ := h2 j j (by simp [hj])
  rw [g1] at hc; cases hc; exact g2

theorem reads_of_trod (hw : C.w = w) (hbad : ∀ b, ¬ C.bad b) : ∀ (fuel n : Nat) (t : TypeId) (cs : List Value) (d : DataW H) (ps : List MemPlace), plainTy P n t = true →
    DataW.trod enc P w 0 spare held fuel t cs = some (d, ps) → ReadsAs C cs (avOf d) := by
  intro fuel
  induction fuel with
  | zero => intro n t cs d ps _ h; simp [DataW.trod] at h
  | succ fuel ih =>
    intro n t cs d ps hp h
    cases n with
    | zero => simp [plainTy] at hp
    | succ n =>
    unfold plainTy at hp
    split at hp
    · rename_i hu
      obtain ⟨b, rfl, rfl⟩ := trod_bool_inv hu h
      exact readsAs_one rfl (.imm _ rfl)
    · rename_i k hu
      obtain ⟨q, rfl, rfl, _⟩ := trod_int_inv hu h
      exact readsAs_one rfl (.imm _ rfl)
    · rename_i hu
      obtain ⟨q, rfl, rfl⟩ := trod_string_inv hu h
      refine readsAs_one (c := .string q) rfl ?_
      have : (⟨q.data.toList.toArray⟩ : ByteArray) = q := by cases q; simp
      simp only [avOf, this]
      exact .imm _ rfl
    · -- slice
      rename_i e hu
      simp only [Bool.and_eq_true, bne_iff_ne, ne_eq] at hp
      obtain ⟨hs0, hpe⟩ := hp
      rcases trod_slice_inv hu h with ⟨rfl, rfl⟩ | ⟨a, len, cap, elems, rest, rfl, rfl, hlc, _, hm⟩
      · exact readsAs_one rfl (.slNil _ _)
      · obtain ⟨l1, l2⟩ := mapM_some _ _ _ hm
        simp only [List.length_range] at l1
        refine readsAs_one rfl ?_
        simp only [avOf, avAll_map, List.map_map]
        subst l1
        by_cases h0 : elems = []
        · subst h0; exact .slNil _ _
        · have hpos : 0 < elems.length := List.length_pos_iff.2 h0
          obtain ⟨b, off, sp⟩ := a
          -- each element's cells
          have hel : ∀ i, i < elems.length → ∃ seg z, elems[i]? = some z ∧ w.cells? 0 ((⟨b, off, sp⟩ : Addr).add (i * P.cellsOf e)) (P.cellsOf e) = some seg ∧ ReadsAs C seg (avOf z.1) := fun i hi => by
            obtain ⟨z, g1, g2⟩ := l2 i i (by simp [hi])
            obtain ⟨seg, g3, g4⟩ := Option.bind_eq_some_iff.1 g2
            exact ⟨seg, z, g1, g3, ih n e seg z.1 z.2 hpe g4⟩
          have hsp : sp = none := by
            obtain ⟨seg, z, _, g2, _⟩ := hel 0 hpos
            obtain ⟨q1, q2⟩ := cells?_get g2
            have hs : 0 < seg.length := by omega
            have := q2 0 _ (List.getElem?_eq_getElem hs)
            rw [Nat.zero_mul] at this
            cases sp with
            | none => rfl
            | some x => simp [Addr.add, World.cell?] at this; split at this <;> simp at this
          subst hsp
          have cell : ∀ (i j : Nat) (q x : AV), (elems.map (avOf ∘ (·.1)))[i]? = some q → q.flat[j]? = some x → ∃ v, Holds C.w b (off + i * P.cellsOf e + j) v ∧ Rep C x v := fun i j q x hq hx => by
            have hi : i < elems.length := by have := (List.getElem?_eq_some_iff.1 hq).1; simpa using this
            obtain ⟨seg, z, g1, g2, g3⟩ := hel i hi
            simp only [List.getElem?_map, g1, Option.map_some, Function.comp, Option.some.injEq] at hq
            subst hq
            obtain ⟨c, g4, g5⟩ := g3.rep j x hx
            have := (cells?_get g2).2 j c g4
            rw [addr_add, addr_add] at this
            exact ⟨c, ⟨by rw [hw]; exact this, g3.one c (List.mem_of_getElem? g4)⟩, g5⟩
          have hfl : ∀ (i : Nat) (q : AV), (elems.map (avOf ∘ (·.1)))[i]? = some q → q.flat.length = P.cellsOf e := fun i q hq => by
            have hi : i < elems.length := by have := (List.getElem?_eq_some_iff.1 hq).1; simpa using this
            obtain ⟨seg, z, g1, g2, g3⟩ := hel i hi
            simp only [List.getElem?_map, g1, Option.map_some, Function.comp, Option.some.injEq] at hq
            subst hq
            rw [g3.len]; exact (cells?_get g2).1
          have hb : b < C.w.heap.size := by
            obtain ⟨seg, z, g1, g2, g3⟩ := hel 0 hpos
            have hs : 0 < (avOf z.1).flat.length := by
              rw [hfl 0 _ (by simp [g1])]; omega
            obtain ⟨v, g4, _⟩ := cell 0 0 _ _ (by simp [g1]) (List.getElem?_eq_getElem hs)
            have := g4.1
            unfold World.cell? at this
            split at this
            · rename_i h9; exact (Array.getElem?_eq_some_iff.1 h9).1
            · cases this
          have hlen : (elems.map (avOf ∘ (·.1))).length = elems.length := by simp
          have := Rep.sl (C := C) (elems.map (avOf ∘ (·.1))) b off (P.cellsOf e) cap (fun i j => (C.w.cell? ⟨b, off + i * P.cellsOf e + j, none⟩).getD undef) hb (hbad b) (by rw [hlen]; exact hlc) hfl
            (fun i j q x hq hx => by
              obtain ⟨v, g1, g2⟩ := cell i j q x hq hx
              rw [g1.1]; exact g1)
            (fun i j q x hq hx => by
              obtain ⟨v, g1, g2⟩ := cell i j q x hq hx
              rw [g1.1]; exact g2)
          rw [hlen] at this
          exact this
    · -- struct
      rename_i fs hu
      rw [Bool.and_eq_true, List.all_eq_true] at hp
      obtain ⟨hpf, hct⟩ := hp
      rw [beq_iff_eq] at hct
      obtain ⟨xs, hl, rfl, hm⟩ := trod_struct_inv hu h
      obtain ⟨c1, c2⟩ := foldl_contig P fs.toList 0 _ hct
      have := reads_segs (C := C) (P := P) (w := w) (enc := enc) (spare := spare) (held := held) (fun f : Field => f.type) (fun f => f.offset) fuel cs
        fs.toList 0 xs (fun x hx seg y hy _ => ih n x.type seg y.1 y.2 (hpf x hx) hy) c1 (by rw [hl]; exact c2) hm
      simpa [avOf] using this
    · -- array
      rename_i m e hu
      simp only [Bool.and_eq_true, beq_iff_eq] at hp
      obtain ⟨hpe, hct⟩ := hp
      obtain ⟨xs, hl, rfl, hm⟩ := trod_array_inv hu h
      have hsum : ∀ (l : List Nat), (l.map fun _ => P.cellsOf e).sum = l.length * P.cellsOf e := by
        intro l; induction l with
        | nil => simp
        | cons _ l ih => simp [ih, Nat.add_mul, Nat.add_comm]
      have := reads_segs (C := C) (P := P) (w := w) (enc := enc) (spare := spare) (held := held) (fun _ : Nat => e) (fun i => i * P.cellsOf e) fuel cs
        (List.range m) 0 xs (fun x _ seg y hy _ => ih n e seg y.1 y.2 hpe hy)
        (fun i x hx => by
          have hi : i < m := by have := (List.getElem?_eq_some_iff.1 hx).1; simpa using this
          have hx' : x = i := by simp [hi] at hx; exact hx.symm
          subst hx'
          rw [hsum]; simp; rw [Nat.min_eq_left (by omega)]) (by rw [hsum, hl]; simpa using hct) hm
      simpa [avOf] using this
    · cases hp
end
end Go.Av
end

section
/- From what a law's function does to what its row asks. -/
namespace Go.Av
open Go.RowKit (Below)

section
variable {H : Type} {enc : TypeId × Value → H} {P : Program}

theorem trodAll_below (hl : laidOutB P = true) {W W' : World} (hb : Below W.heap.size W W') : ∀ {ts : List TypeId} {vs : List Value} {ds : List (DataW H)} {ps : List MemPlace}, (∀ t ∈ ts, P.readableRec t = true ∧ t < P.types.size) →
    DataW.TrodAll enc P W 0 (fun _ => true) true ts vs ds ps → (∀ x ∈ ps, x.block < W.heap.size) → DataW.TrodAll enc P W' 0 (fun b => decide (b < W.heap.size)) true ts vs ds ps
  | [], [], [], ps, _, h, _ => h
  | t :: ts, v :: vs, d :: ds, ps, hr, h, hlt => by
    obtain ⟨p, q, h1, h2, rfl⟩ := h
    obtain ⟨r1, r2⟩ := hr t (List.mem_cons_self ..)
    exact ⟨p, q, RowKit.Below.trod hl r1 r2 h1 hb (fun x hx => hlt x (List.mem_append_left _ hx)), trodAll_below hl hb (fun t ht => hr t (List.mem_cons_of_mem _ ht)) h2 (fun x hx => hlt x (List.mem_append_right _ hx)), rfl⟩

theorem law_post {fn : Func} {s : ChangeSpec} {W W' : World} {args : Array Value} {ds gs : List (DataW H)} {before : List MemPlace} {tb : TypeId} (hW : DataW.Whole enc P fn.params.toList s.vars false W args.toList ds gs before)
    (hv : s.vars = []) (hfn : s.fn H (ds ++ gs) = ⟨[.lit (.bool true)], ds, []⟩) (hres : fn.resultTypes = #[tb]) (hb : P.underlying tb = some .bool) (hl : laidOutB P = true) (hr : ∀ t ∈ fn.params.toList, P.readableRec t = true ∧ t < P.types.size)
    (hbel : Below W.heap.size W W') : s.post enc P fn false true false false W args (.bool true) W' := by
  have hlt := fun p hp => hW.lt p hp
  have hW' := hW
  obtain ⟨p, q, h1, h2, rfl, h3, h4⟩ := hW
  refine ⟨ds, gs, p ++ q, [], p, [], hW', ?_, ?_, ?_, hbel.frame _, fun h => by cases h⟩
  · rw [hfn, hres]
    show DataW.TrodAll enc P W' _ _ _ [tb] [.bool true] [.lit (.bool true)] []
    exact ⟨[], [], RowKit.shut_bool hb true, rfl, rfl⟩
  · rw [hfn]
    exact trodAll_below hl hbel hr h1 (fun x hx => hlt x (List.mem_append_left _ hx))
  · rw [hfn, hv]; rfl

def Ctx.start (W : World) : Ctx := { w := W, H := .empty, pl := fun _ => ⟨0, 0, 0, 0, false⟩, prot := fun _ => False, dfs := [], pin := 0 }

theorem start_own (W : World) (b : Nat) : ¬ (Ctx.start W).own b := own_none rfl rfl b

theorem start_inv (W : World) : Inv (.of W) (Ctx.start W) where
  fresh id es h := by simp [Ctx.start, Heap.empty, Heap.get, lk] at h
  nil id es h := by simp [Ctx.start, Heap.empty, Heap.get, lk] at h
  obj id es h := by simp [Ctx.start, Heap.empty, Heap.get, lk] at h
  sep i1 i2 e1 e2 h := by simp [Ctx.start, Heap.empty, Heap.get, lk] at h
  prot id es h := by simp [Ctx.start, Heap.empty, Heap.get, lk] at h
  szok id s h := by simp [Ctx.start, Heap.empty, Heap.sz, lk] at h
  protlt _ h := h.elim
  protge _ h := h.elim
  size := Nat.le_refl _
  glob b _ := ⟨rfl, start_own W b⟩
  lps l r h := by simp [Ctx.start, Heap.empty, lk] at h
  dfs d h := by simp [Ctx.start] at h
  dnd := .nil
  rod := fun _ _ => rfl
  spprot b h := absurd (.inr h) (start_own W b)
  pinB := rfl
  pinlt := Nat.zero_le _
  gh := trivial

theorem start_bad (W : World) (b : Nat) : ¬ (Ctx.start W).bad b := by
  rintro (h | h)
  · exact start_own W b h
  · exact h

theorem one_of_okWide {W : World} {base : Nat} {t : TypeId} {v : Value} {n : Nat} (hp : plainTy P n t = true) (h : Value.okWide P W .any base t v) : v.oneCell' = true ∨ ∃ cs, v = .agg cs ∧ ((∃ fs, P.underlying t = some (.struct fs)) ∨ ∃ m e, P.underlying t = some (.array m e)) := by
  cases n with
  | zero => simp [plainTy] at hp
  | succ n =>
    unfold plainTy at hp
    split at hp <;> rename_i hu
    · left; cases v <;> first | rfl | (simp [Value.okWide, Cell.okWide, Cell.ok, hu] at h)
    · left; cases v <;> first | rfl | (simp [Value.okWide, Cell.okWide, Cell.ok, hu] at h)
    · left; cases v <;> first | rfl | (simp [Value.okWide, Cell.okWide, Cell.ok, hu] at h)
    · left; cases v <;> first | rfl | (simp [Value.okWide, Cell.okWide, Cell.ok, hu] at h)
    · right
      simp only [Value.okWide, hu] at h
      obtain ⟨cs, rfl, _⟩ := h
      exact ⟨cs, rfl, .inl ⟨_, hu⟩⟩
    · right
      simp only [Value.okWide, hu] at h
      obtain ⟨cs, rfl, _⟩ := h
      exact ⟨cs, rfl, .inr ⟨_, _, hu⟩⟩
    · cases hp

theorem arg_rep {W : World} {base : Nat} {t : TypeId} {v : Value} {d : DataW H} {ps : List MemPlace} (n : Nat) (hp : plainTy P n t = true) (h : DataW.Trod enc P W 0 (fun _ => true) true t v d ps) (hform : Value.okWide P W .any base t v) : Rep (Ctx.start W) (avOf d) v := by
  obtain ⟨fuel, hf⟩ := h
  have hr := reads_of_trod (C := Ctx.start W) rfl (start_bad W) fuel n t v.cells.toList d ps hp hf
  rcases one_of_okWide hp hform with h1 | ⟨cs, rfl, hu⟩
  · rw [cells_one h1] at hr hf
    obtain ⟨c, g1, g2⟩ := hr.rep 0 ((avOf d).flat.getD 0 .any) (by
      have := hr.len
      simp only [List.length_cons, List.length_nil] at this
      rw [List.getD_eq_getElem?_getD]
      cases hq : (avOf d).flat with
      | nil => rw [hq] at this; simp at this
      | cons _ _ => rfl)
    simp only [List.getElem?_cons_zero, Option.some.injEq] at g1
    subst g1
    -- the datum is no aggregate
    have hd : (avOf d).flat = [avOf d] := by
      cases fuel with
      | zero => simp [DataW.trod] at hf
      | succ fuel =>
        cases n with
        | zero => simp [plainTy] at hp
        | succ n =>
          unfold plainTy at hp
          split at hp
          · rename_i hu; obtain ⟨b, _, rfl⟩ := trod_bool_inv hu hf; rfl
          · rename_i k hu; obtain ⟨q, _, rfl, _⟩ := trod_int_inv hu hf; rfl
          · rename_i hu; obtain ⟨q, _, rfl⟩ := trod_string_inv hu hf; rfl
          · rename_i e hu
            rcases trod_slice_inv hu hf with ⟨_, rfl⟩ | ⟨_, _, _, _, _, _, rfl, _⟩ <;> rfl
          · rename_i fs hu
            simp only [Value.okWide, hu] at hform
            obtain ⟨cs, rfl, _⟩ := hform
            simp [Value.oneCell'] at h1
          · rename_i m e hu
            simp only [Value.okWide, hu] at hform
            obtain ⟨cs, rfl, _⟩ := hform
            simp [Value.oneCell'] at h1
          · cases hp
    rw [hd] at g2
    exact g2
  · have hagg : ∃ l, avOf d = .agg l := by
      cases fuel with
      | zero => simp [DataW.trod] at hf
      | succ fuel =>
        rcases hu with ⟨fs, hu⟩ | ⟨m, e, hu⟩
        · obtain ⟨xs, _, rfl, _⟩ := trod_struct_inv hu hf; exact ⟨_, rfl⟩
        · obtain ⟨xs, _, rfl, _⟩ := trod_array_inv hu hf; exact ⟨_, rfl⟩
    obtain ⟨l, hl⟩ := hagg
    rw [hl] at hr ⊢
    have hlen := hr.len
    simp only [flat_agg, Value.cells, Array.length_toList] at hlen
    refine .agg l cs hlen.symm (fun k u hk => hr.one u (by simp [Value.cells]; exact Array.mem_of_getElem? hk)) (fun k x hx => ?_)
    obtain ⟨c, g1, g2⟩ := hr.rep k x hx
    have g1' : cs[k]? = some c := by simpa [Value.cells] using g1
    have hlt := (Array.getElem?_eq_some_iff.1 g1').1
    have : cs.getD k undef = c := by have := getD_of hlt; rw [g1'] at this; exact (Option.some.inj this).symm
    rw [this]; exact g2


def Dec (P : Program) (t : TypeId) {α : Type} (f : α → AV) (ok : α → Prop) : Prop :=
  ∀ {H : Type} (enc : TypeId × Value → H) (w : World) (spare : Nat → Bool) (held : Bool) (fuel : Nat) (cs : List Value) (d : DataW H) (ps : List MemPlace), DataW.trod enc P w 0 spare held fuel t cs = some (d, ps) → ∃ x, ok x ∧ avOf d = f x

theorem dec_i64 {t : TypeId} (hu : P.underlying t = some (.int .i64)) : Dec P t i64 (fun n => -9223372036854775808 ≤ n ∧ n ≤ 9223372036854775807) := by
  intro H enc w spare held fuel cs d ps h
  cases fuel with
  | zero => simp [DataW.trod] at h
  | succ fuel =>
    obtain ⟨n, _, rfl, hwf⟩ := trod_int_inv hu h
    simp [Lit.wf, IntKind.min, IntKind.max, IntKind.signed, IntKind.bits] at hwf
    exact ⟨n, by omega, rfl⟩

theorem dec_slice {t e : TypeId} {α : Type} {f : α → AV} {ok : α → Prop} (hu : P.underlying t = some (.slice e)) (he : Dec P e f ok) : Dec P t (fun l : List α => AV.sl (l.map f)) (fun l => (∀ x ∈ l, ok x) ∧ l.length ≤ 9223372036854775807) := by
  intro H enc w spare held fuel cs d ps h
  cases fuel with
  | zero => simp [DataW.trod] at h
  | succ fuel =>
    rcases trod_slice_inv hu h with ⟨_, rfl⟩ | ⟨a, len, cap, elems, rest, _, rfl, hlc, hmx, hm⟩
    · exact ⟨[], by simp, rfl⟩
    · obtain ⟨l1, l2⟩ := mapM_some _ _ _ hm
      have key : ∀ (es : List (DataW H × List MemPlace)), (∀ z ∈ es, ∃ x, ok x ∧ avOf z.1 = f x) → ∃ l : List α, (∀ x ∈ l, ok x) ∧ l.length = es.length ∧ (es.map (·.1)).map avOf = l.map f := by
        intro es
        induction es with
        | nil => intro _; exact ⟨[], by simp, rfl, rfl⟩
        | cons z es ih =>
          intro hz
          obtain ⟨x, g1, g2⟩ := hz z (List.mem_cons_self ..)
          obtain ⟨l, g3, g4, g5⟩ := ih (fun y hy => hz y (List.mem_cons_of_mem _ hy))
          refine ⟨x :: l, ?_, by simp [g4], by simp only [List.map_cons, g2, g5]⟩
          intro y hy
          rcases List.mem_cons.1 hy with rfl | hy
          · exact g1
          · exact g3 y hy
      obtain ⟨l, g1, g2, g3⟩ := key elems (fun z hz => by
        obtain ⟨k, hk⟩ := List.getElem?_of_mem hz
        have hlt := (List.getElem?_eq_some_iff.1 hk).1
        rw [l1] at hlt
        have hlt' : k < len := by simpa using hlt
        obtain ⟨y, q1, q2⟩ := l2 k k (by simp [hlt'])
        rw [hk] at q1; cases q1
        obtain ⟨seg, _, q4⟩ := Option.bind_eq_some_iff.1 q2
        exact he enc w spare held fuel seg z.1 z.2 q4)
      refine ⟨l, ⟨g1, ?_⟩, ?_⟩
      · rw [g2, l1]
        have : cap ≤ 9223372036854775807 := hmx
        simp; omega
      · simp only [avOf, avAll_map, g3]

theorem dec_agg {t : TypeId} {fs : Array Field} (hu : P.underlying t = some (.struct fs)) {H : Type} {enc : TypeId × Value → H} {w : World} {spare : Nat → Bool} {held : Bool} {fuel : Nat} {cs : List Value} {d : DataW H} {ps : List MemPlace} (h : DataW.trod enc P w 0 spare held fuel t cs = some (d, ps)) :
    ∃ fuel' xs, avOf d = .agg (cellsAll (xs.map (·.1))) ∧ fs.toList.mapM (fun f => DataW.trod enc P w 0 spare held fuel' f.type ((cs.drop f.offset).take (P.cellsOf f.type))) = some xs := by
  cases fuel with
  | zero => simp [DataW.trod] at h
  | succ fuel =>
    obtain ⟨xs, _, rfl, hm⟩ := trod_struct_inv hu h
    exact ⟨fuel, xs, rfl, hm⟩

theorem law_calls {f : FuncId} {fn : Func} {s : ChangeSpec} {W : World} {args : Array Value} {ds gs : List (DataW H)} {before : List MemPlace} {tb : TypeId} {xs : List AV} (hf : Fun1 P W f xs (bl true)) (hsz : args.size = xs.length)
    (hrep : ∀ (k : Nat) (x : AV), xs[k]? = some x → Rep (Ctx.start W) x (args.getD k undef)) (hW : DataW.Whole enc P fn.params.toList s.vars false W args.toList ds gs before)
    (hv : s.vars = []) (hfn : s.fn H (ds ++ gs) = ⟨[.lit (.bool true)], ds, []⟩) (hres : fn.resultTypes = #[tb]) (hb : P.underlying tb = some .bool) (hl : laidOutB P = true) (hr : ∀ t ∈ fn.params.toList, P.readableRec t = true ∧ t < P.types.size) :
    Calls P f args W fun e W' => ∃ v, e = .returned v ∧ s.post enc P fn false true false false W args v W' := by
  refine (hf.runs (Ctx.start W) args (start_inv W) rfl rfl hsz hrep).mono ?_
  rintro e W' ⟨v, C', rfl, rfl, hE, _, hv'⟩
  obtain rfl := rep_toV (v := .bool true) rfl hv'
  exact ⟨_, rfl, law_post hW hv hfn hres hb hl hr (below_of_ext hE (start_own W))⟩

end
end Go.Av
end

section
/- From a row's argument to what a proof sees of it. -/
namespace Go.Av
open Go.ChangeShapes Go.WideShapes Go.ChangeAt Go.RowKit
variable {P : Program} {H : Type} {enc : TypeId × Value → H}

theorem arg_dec {W : World} {base : Nat} {t : TypeId} {v : Value} {d : DataW H} {ps : List MemPlace} {α : Type} {f : α → AV} {ok : α → Prop} (n : Nat) (hp : plainTy P n t = true) (hd : Dec P t f ok) (h : DataW.Trod enc P W 0 (fun _ => true) true t v d ps) (hform : Value.okWide P W .any base t v) : ∃ x, ok x ∧ Rep (Ctx.start W) (f x) v := by
  have h1 := arg_rep n hp h hform
  obtain ⟨fuel, hf⟩ := h
  obtain ⟨x, h2, h3⟩ := hd enc W _ _ fuel _ d ps hf
  exact ⟨x, h2, h3 ▸ h1⟩

theorem params_ok {fn : Func} (h : (fn.params.toList.all fun t => P.readableRec t && decide (t < P.types.size)) = true) : ∀ t ∈ fn.params.toList, P.readableRec t = true ∧ t < P.types.size := fun t ht => by
  have := List.all_eq_true.1 h t ht
  simpa using this

theorem reps3 {C : Ctx} {x0 x1 x2 : AV} {v0 v1 v2 : Value} (h0 : Rep C x0 v0) (h1 : Rep C x1 v1) (h2 : Rep C x2 v2) : ∀ (k : Nat) (x : AV), [x0, x1, x2][k]? = some x → Rep C x (#[v0, v1, v2].getD k undef) := fun k x h => by
  match k with
  | 0 => cases h; exact h0
  | 1 => cases h; exact h1
  | 2 => cases h; exact h2
  | k + 3 => cases h
end Go.Av
end
