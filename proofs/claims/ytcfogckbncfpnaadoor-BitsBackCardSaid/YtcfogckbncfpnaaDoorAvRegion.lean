/- Regions: in the order of the text, or in whatever order is drawn. -/
import Derived.Test.YtcfogckbncfpnaaDoorAvGrow
import Derived.StillTail
namespace Go.Av
open Go.RowKit (Below)

def Fr.put (fr : Fr) (dst : Option Nat) (r : AV) : Fr :=
  match dst with
  | some d => fun t => if t = d then some r else fr t
  | none => fr

/-- Is an operation wanted, as far as the proof can see? -/
def wantA (ops : Array Oper) (fr : Fr) (o : Oper) : Option Bool :=
  match o.guard with
  | none => some true
  | some (j, b) => match (ops[j]?).bind (·.dst) with
    | some d => match fr d with
      | some (.imm (.bool c)) => some (c == b)
      | _ => none
    | none => none

/-- What a frame is, beside what the proof has of it. -/
structure Rel (W0 : World) (N : Nat) (fr : Fr) (H : Heap) (C : Ctx) (a : Act) : Prop where
  heap : C.H = H
  inv : Inv W0 C
  size : a.tmps.size = N
  defers : a.defers = []
  rep : ∀ t x, fr t = some x → Rep C x (a.tmps.getD t undef)

/-- The operations in the order of the text. -/
inductive ARun (P : Program) (W0 : World) (ops : Array Oper) : List Oper → Fr → Heap → Fr → Heap → Prop
  | nil (fr : Fr) (H : Heap) : ARun P W0 ops [] fr H fr H
  | skip {o : Oper} {rest : List Oper} {fr fr' : Fr} {H H' : Heap} : wantA ops fr o = some false → ARun P W0 ops rest (fr.put o.dst .any) H fr' H' → ARun P W0 ops (o :: rest) fr H fr' H'
  | op {o : Oper} {rest : List Oper} {fr fr' : Fr} {H H1 H' : Heap} {r : AV} : wantA ops fr o = some true → AOp P W0 o fr H r H1 → ARun P W0 ops rest (fr.put o.dst r) H1 fr' H' → ARun P W0 ops (o :: rest) fr H fr' H'

/-- The same, of operations that leave the heap as it is. -/
inductive ARunQ (P : Program) (W0 : World) (ops : Array Oper) (H : Heap) : List Oper → Fr → Fr → Prop
  | nil (fr : Fr) : ARunQ P W0 ops H [] fr fr
  | skip {o : Oper} {rest : List Oper} {fr fr' : Fr} : wantA ops fr o = some false → ARunQ P W0 ops H rest (fr.put o.dst .any) fr' → ARunQ P W0 ops H (o :: rest) fr fr'
  | op {o : Oper} {rest : List Oper} {fr fr' : Fr} {r : AV} : wantA ops fr o = some true → AOp P W0 o fr H r H → ARunQ P W0 ops H rest (fr.put o.dst r) fr' → ARunQ P W0 ops H (o :: rest) fr fr'

def dstOk (N : Nat) (o : Oper) : Bool := match o.dst with | some d => decide (d < N) | none => true

section
variable {P : Program} {W0 : World} {N : Nat} {C : Ctx} {fr : Fr} {a : Act} {H : Heap} {ops : Array Oper} {md : Region.Mode}

theorem Rel.put (h : Rel W0 N fr H C a) {C' : Ctx} {H' : Heap} {r : AV} {v : Value} {dst : Option Nat} (he : Ext C C') (hi : Inv W0 C') (hH : C'.H = H') (hr : Rep C' r v) (hd : ∀ d, dst = some d → d < N) : Rel W0 N (fr.put dst r) H' C' (a.put dst v) where
  heap := hH
  inv := hi
  size := by cases dst <;> simp [Act.put, h.size]
  defers := by cases dst <;> simp [Act.put, h.defers]
  rep t x hx := by
    cases dst with
    | none => exact (h.rep t x hx).ext he
    | some d =>
      have hdN : d < a.tmps.size := by rw [h.size]; exact hd d rfl
      simp only [Fr.put] at hx
      by_cases htd : t = d
      · subst htd
        rw [if_pos rfl] at hx
        cases hx
        have : (a.put (some t) v).tmps.getD t undef = v := by simp [Act.put, Array.getD, hdN]
        rw [this]; exact hr
      · rw [if_neg htd] at hx
        have : (a.put (some d) v).tmps.getD t undef = a.tmps.getD t undef := by
          simp only [Act.put, Array.getD_eq_getD_getElem?]
          rw [Array.getElem?_setIfInBounds_ne (Ne.symm htd)]
        rw [this]; exact (h.rep t x hx).ext he

theorem wantA_spec {o : Oper} {b : Bool} (hr : ∀ t x, fr t = some x → Rep C x (a.tmps.getD t undef)) (h : wantA ops fr o = some b) : Region.wanted o (yielded ops a.tmps) = b := by
  unfold wantA at h
  unfold Region.wanted
  split at h
  · rename_i hg; rw [hg]; simpa using h
  · rename_i j c hg
    rw [hg]
    split at h
    · rename_i d hd
      split at h
      · rename_i q hq
        simp only [Option.some.injEq] at h
        have h1 := rep_toV (v := .bool q) rfl (hr d _ hq)
        have h2 : a.tmps[d]? = some (.bool q) := by
          by_cases hlt : d < a.tmps.size
          · rw [getD_of hlt, h1]
          · simp [Array.getD, hlt, undef] at h1
        simp only [yielded, hd, Option.bind_some, h2]
        cases q <;> cases c <;> simp_all
      · cases h
    · cases h

/-- In the order of the text. -/
theorem wpList_of_run {l : List Oper} {fr' : Fr} {H' : Heap} (h : ARun P W0 ops l fr H fr' H') (hN : ∀ o ∈ l, dstOk N o = true) : ∀ (C : Ctx) (a : Act) (Q : Exit → Act → World → Prop), Rel W0 N fr H C a →
    (∀ C' a', Ext C C' → Rel W0 N fr' H' C' a' → Q .normal a' C'.w) → wpList P ops Q l a C.w := by
  have dst : ∀ {o : Oper}, dstOk N o = true → ∀ d, o.dst = some d → d < N := fun h d hd => by simpa [dstOk, hd] using h
  induction h with
  | nil fr H => intro C a Q hr hQ; exact hQ C a (.refl C) hr
  | skip hw _ ih =>
    intro C a Q hr hQ
    unfold wpList
    rw [wantA_spec hr.rep hw]
    simp only [Bool.false_eq_true, if_false]
    exact ih (fun o ho => hN o (List.mem_cons_of_mem _ ho)) C _ Q (hr.put (.refl C) hr.inv hr.heap (.any _) (dst (hN _ (List.mem_cons_self ..)))) hQ
  | op hw hop _ ih =>
    intro C a Q hr hQ
    unfold wpList
    rw [wantA_spec hr.rep hw]
    simp only [if_true]
    refine .inl (hop C a hr.inv hr.heap (fun x _ t _ av hav => hr.rep t av hav) _ _ (fun v C' he hi hH hv => ?_))
    exact ih (fun o ho => hN o (List.mem_cons_of_mem _ ho)) C' _ Q (hr.put he hi hH hv (dst (hN _ (List.mem_cons_self ..)))) (fun C2 a2 h2 => hQ C2 a2 (he.trans h2))

/-! ### Whatever order -/

def Yields (P : Program) (W0 : World) (ops : Array Oper) (H : Heap) (o : Oper) (r : AV) (fr : Fr) : Prop :=
  (wantA ops fr o = some true ∧ AOp P W0 o fr H r H) ∨ (wantA ops fr o = some false ∧ r = .any)

def ASt (P : Program) (W0 : World) (ops : Array Oper) (H : Heap) (i : Nat) (K : Fr → Prop) (fr : Fr) : Prop :=
  match ops[i]? with
  | none => K fr
  | some o => ∃ r, Yields P W0 ops H o r fr ∧ K (fr.put o.dst r)

def AAny (P : Program) (W0 : World) (md : Region.Mode) (ops : Array Oper) (H : Heap) (n : Nat) (L : Array Bool → Fr → Prop) : Nat → Array Bool → Fr → Prop
  | 0, listed, fr => L listed fr
  | f + 1, listed, fr => Region.ready md ops listed ≠ [] ∧ ∀ i ∈ Region.ready md ops listed, i < n ∧ ASt P W0 ops H i (AAny P W0 md ops H n L f (listed.setIfInBounds i true)) fr

theorem Fr.put_other {fr : Fr} {dst : Option Nat} {r : AV} {t : Nat} (h : dst ≠ some t) : fr.put dst r t = fr t := by
  cases dst with
  | none => rfl
  | some d =>
    simp only [Fr.put]
    rw [if_neg (fun e => h (by rw [e]))]

theorem Fr.put_comm (fr : Fr) {x y : Option Nat} (r s : AV) (h : ∀ d, x = some d → y ≠ some d) : (fr.put x r).put y s = (fr.put y s).put x r := by
  cases x with
  | none => rfl
  | some d =>
    cases y with
    | none => rfl
    | some e =>
      have hne : e ≠ d := fun he => h d rfl (by rw [he])
      funext t
      simp only [Fr.put]
      by_cases h1 : t = e
      · rw [if_pos h1, if_neg (by omega), if_pos h1]
      · rw [if_neg h1]
        by_cases h2 : t = d
        · rw [if_pos h2, if_pos h2]
        · rw [if_neg h2, if_neg h2, if_neg h1]

theorem mem_looksAt_tmp {o : Oper} {t : Nat} (h : Operand.tmp t ∈ o.op.operands) : t ∈ o.looksAt ops := by
  unfold Oper.looksAt
  refine List.mem_append_left _ ?_
  rw [List.mem_filterMap]
  exact ⟨.tmp t, by simpa using h, rfl⟩

/-- What an operation does hangs on what it looks at alone. -/
theorem Yields.put {o : Oper} {r : AV} {dst : Option Nat} {s : AV} (hd : ∀ d, dst = some d → d ∉ o.looksAt ops) : Yields P W0 ops H o r (fr.put dst s) ↔ Yields P W0 ops H o r fr := by
  have hw : wantA ops (fr.put dst s) o = wantA ops fr o := by
    unfold wantA
    cases hg : o.guard with
    | none => rfl
    | some p =>
      obtain ⟨j, b⟩ := p
      simp only
      cases hj : (ops[j]?).bind (·.dst) with
      | none => rfl
      | some d =>
        simp only
        rw [Fr.put_other]
        intro he
        exact hd d he (by unfold Oper.looksAt; exact List.mem_append_right _ (by simp [hg, hj]))
  have hR : ∀ C (a : Act) (x : Operand), x ∈ o.op.operands → (RepO C (fr.put dst s) a x ↔ RepO C fr a x) := fun C a x hx => by
    unfold RepO
    constructor
    · intro h t ht av hav
      subst ht
      exact h t rfl av (by rw [Fr.put_other (fun he => hd t he (mem_looksAt_tmp hx))]; exact hav)
    · intro h t ht av hav
      subst ht
      rw [Fr.put_other (fun he => hd t he (mem_looksAt_tmp hx))] at hav
      exact h t rfl av hav
  unfold Yields AOp
  rw [hw]
  constructor <;> rintro (⟨h1, h2⟩ | h)
  · exact .inl ⟨h1, fun C a hI hH hx => h2 C a hI hH (fun x hm => (hR C a x hm).2 (hx x hm))⟩
  · exact .inr h
  · exact .inl ⟨h1, fun C a hI hH hx => h2 C a hI hH (fun x hm => (hR C a x hm).1 (hx x hm))⟩
  · exact .inr h

theorem ASt.mono {i : Nat} {K K' : Fr → Prop} (h : ∀ fr, K fr → K' fr) {fr : Fr} (hh : ASt P W0 ops H i K fr) : ASt P W0 ops H i K' fr := by
  unfold ASt at *
  split
  · rename_i ho; simp only [ho] at hh; exact h _ hh
  · rename_i o ho
    simp only [ho] at hh
    obtain ⟨r, h1, h2⟩ := hh
    exact ⟨r, h1, h _ h2⟩

theorem ASt.of {i : Nat} {o : Oper} {r : AV} {K : Fr → Prop} {fr : Fr} (hi : ops[i]? = some o) (hy : Yields P W0 ops H o r fr) (h : K (fr.put o.dst r)) : ASt P W0 ops H i K fr := by
  unfold ASt
  simp only [hi]
  exact ⟨r, hy, h⟩

/-- An operation that may come up now may be taken first. -/
theorem AAny_first {n i : Nat} {oi : Oper} {v : AV} {L : Array Bool → Fr → Prop} {J : Array Bool → Prop} (hi : ops[i]? = some oi) (hin : i < n)
    (hJ : ∀ listed k, J listed → k ∈ Region.ready md ops listed → k < n → J (listed.setIfInBounds k true))
    (hJn : ∀ listed, J listed → listed.getD i true = false → ∀ j ∈ Region.ready md ops listed, j < n)
    (hL : ∀ listed fr, L listed fr → ∀ j ∈ Region.ready md ops listed, n ≤ j) :
    ∀ (f : Nat) (listed : Array Bool) (fr : Fr), J listed →
      (∀ j oj, ops[j]? = some oj → j ≠ i → listed.getD j true = false → (∀ e ∈ oj.after, Region.binds md e = true → e.on ≠ i) → oi.apart ops oj = true) →
      i ∈ Region.ready md ops listed → Yields P W0 ops H oi v fr →
      AAny P W0 md ops H n L f (listed.setIfInBounds i true) (fr.put oi.dst v) → AAny P W0 md ops H n L (f + 1) listed fr := by
  intro f
  induction f with
  | zero =>
    intro listed fr hj _ hr hy HL
    have hun := (mem_ready.1 hr).1
    refine ⟨fun h => (by rw [h] at hr; cases hr), fun j hjr => ⟨hJn listed hj hun j hjr, ?_⟩⟩
    by_cases hji : j = i
    · subst hji; exact .of hi hy HL
    · have h1 := hL _ _ HL j (ready_mono hjr hji)
      have h2 := hJn listed hj hun j hjr
      omega
  | succ f ih =>
    intro listed fr hj hfree hr hy HL
    have hun := (mem_ready.1 hr).1
    refine ⟨fun h => (by rw [h] at hr; cases hr), fun j hjr => ⟨hJn listed hj hun j hjr, ?_⟩⟩
    by_cases hji : j = i
    · subst hji; exact .of hi hy HL
    · have h1 := (HL.2 j (ready_mono hjr hji)).2
      obtain ⟨hjun, oj, hoj, hall⟩ := mem_ready.1 hjr
      have hnot : ∀ e ∈ oj.after, Region.binds md e = true → e.on ≠ i := fun e he hb heq => by
        have h2 := hall e he hb
        rw [heq, getD_both hun] at h2
        cases h2
      obtain ⟨a1, a2, a3⟩ := Oper.apart_spec (hfree j oj hoj hji hjun hnot)
      unfold ASt at h1
      simp only [hoj] at h1
      obtain ⟨s, hs, hK⟩ := h1
      rw [Yields.put a1] at hs
      refine .of hoj hs (ih (listed.setIfInBounds j true) (fr.put oj.dst s) (hJ _ _ hj hjr (hJn listed hj hun j hjr)) (fun k ok hk hki hku hno => ?_) (ready_mono hr (Ne.symm hji)) ((Yields.put a3).2 hy) ?_)
      · refine hfree k ok hk hki ?_ hno
        by_cases hjk : j = k
        · subst hjk; exact hjun
        · rw [getD_set_ne true hjk] at hku; exact hku
      · rw [Array.setIfInBounds_comm _ _ hji, ← Fr.put_comm fr v s a2]
        exact hK

/-- The order of the text serves for all. -/
theorem AAny_lex {n : Nat} {Q : Fr → Prop} {B : Array Bool → Prop} {chk : Nat → Nat → Array Bool → Bool} {J : Array Bool → Prop}
    (hchk : ∀ f k listed, chk (f + 1) k listed = true → (Region.ready md ops listed).contains k = true ∧ Region.free md ops listed k = true ∧ chk f (k + 1) (listed.setIfInBounds k true) = true)
    (hB : ∀ listed, chk 0 n listed = true → B listed)
    (hJ : ∀ listed k, J listed → k ∈ Region.ready md ops listed → k < n → J (listed.setIfInBounds k true))
    (hJn : ∀ i, i < n → ∀ listed, J listed → listed.getD i true = false → ∀ j ∈ Region.ready md ops listed, j < n)
    (hL : ∀ listed, B listed → ∀ j ∈ Region.ready md ops listed, n ≤ j) :
    ∀ (l : List Oper) (k : Nat) (listed : Array Bool) (fr fr' : Fr), (∀ j, j < l.length → l[j]? = ops[k + j]?) → k + l.length = n → J listed → chk l.length k listed = true → ARunQ P W0 ops H l fr fr' → Q fr' →
      AAny P W0 md ops H n (fun listed' fr'' => B listed' ∧ Q fr'') l.length listed fr
  | [], k, listed, fr, fr', _, hk, _, hc, h, hQ => by
    cases h
    have hkn : k = n := by simpa using hk
    subst hkn
    exact ⟨hB _ hc, hQ⟩
  | o :: l, k, listed, fr, fr', hl, hk, hj, hc, h, hQ => by
    have h0 : ops[k]? = some o := by simpa using (hl 0 (by simp)).symm
    obtain ⟨h1, h2, h3⟩ := hchk _ _ _ hc
    have hr : k ∈ Region.ready md ops listed := by simpa using h1
    have hkn : k < n := by simp only [List.length_cons] at hk; omega
    have rest : ∀ fr1, ARunQ P W0 ops H l fr1 fr' → AAny P W0 md ops H n (fun listed' fr'' => B listed' ∧ Q fr'') l.length (listed.setIfInBounds k true) fr1 := fun fr1 h' =>
      AAny_lex hchk hB hJ hJn hL l (k + 1) _ fr1 fr' (fun j hjl => by have := hl (j + 1) (by simp; omega); simpa [Nat.add_assoc, Nat.add_comm 1 j] using this) (by simp only [List.length_cons] at hk; omega) (hJ _ _ hj hr hkn) h3 h' hQ
    have go : ∀ v, Yields P W0 ops H o v fr → ARunQ P W0 ops H l (fr.put o.dst v) fr' → AAny P W0 md ops H n (fun listed' fr'' => B listed' ∧ Q fr'') (l.length + 1) listed fr := fun v hy h' =>
      AAny_first h0 hkn hJ (hJn k hkn) (fun listed fr hh => hL listed hh.1) l.length listed fr hj (Region.free_spec h0 h2) hr hy (rest _ h')
    cases h with
    | skip hw h' => exact go .any (.inr ⟨hw, rfl⟩) h'
    | op hw ho h' => exact go _ (.inl ⟨hw, ho⟩) h'

/-- What holds of what the proof sees holds of the run. -/
theorem wpAny_of_AAny {n g : Nat} {L : Array Bool → Fr → Prop} {Q : Exit → Act → World → Prop} (hN : ∀ o ∈ ops, dstOk N o = true) :
    ∀ (f : Nat) (listed : Array Bool) (fr : Fr) (C : Ctx) (a : Act), Rel W0 N fr H C a →
      (∀ listed fr C' a', Ext C C' → Rel W0 N fr H C' a' → L listed fr → wpAny P md ops Q g listed a' C'.w) → AAny P W0 md ops H n L f listed fr → wpAny P md ops Q (f + g) listed a C.w
  | 0, listed, fr, C, a, hr, hL, h => by rw [Nat.zero_add]; exact hL _ _ C a (.refl C) hr h
  | f + 1, listed, fr, C, a, hr, hL, h => by
    rw [show f + 1 + g = (f + g) + 1 by omega]
    refine ⟨fun h0 => absurd h0 h.1, fun i hi => ?_⟩
    have h1 := (h.2 i hi).2
    obtain ⟨_, o, ho, _⟩ := mem_ready.1 hi
    unfold ASt at h1
    simp only [ho] at h1
    obtain ⟨r, hy, hK⟩ := h1
    have hd : ∀ d, o.dst = some d → d < N := fun d hd => by have := hN o (Array.mem_of_getElem? ho); simpa [dstOk, hd] using this
    unfold wpOp
    simp only [ho]
    rcases hy with ⟨hw, hop⟩ | ⟨hw, rfl⟩
    · rw [wantA_spec hr.rep hw]
      simp only [if_true]
      refine .inl (hop C a hr.inv hr.heap (fun x _ t _ av hav => hr.rep t av hav) _ _ (fun v C' he hi' hH hv => ?_))
      exact wpAny_of_AAny hN f _ _ C' _ (hr.put he hi' hH hv hd) (fun l2 f2 C2 a2 h2 => hL l2 f2 C2 a2 (he.trans h2)) hK
    · rw [wantA_spec hr.rep hw]
      simp only [Bool.false_eq_true, if_false]
      exact wpAny_of_AAny hN f _ _ C _ (hr.put (.refl C) hr.inv hr.heap (.any _) hd) hL hK

theorem rel_drew (h : Rel W0 N fr H C a) : Ext C (C.inW { C.w with drawn := C.w.drawn + 1 }) ∧ Rel W0 N fr H (C.inW { C.w with drawn := C.w.drawn + 1 }) a := by
  have hD : Below C.w.heap.size C.w { C.w with drawn := C.w.drawn + 1 } := ⟨rfl, rfl, rfl, Nat.le_refl _, fun _ _ => rfl⟩
  have hE : Ext C (C.inW { C.w with drawn := C.w.drawn + 1 }) := ext_of_block hD
  exact ⟨hE, h.heap, h.inv.inW hD, h.size, h.defers, fun t x hx => (h.rep t x hx).ext hE⟩

/-- A region that draws its order, and only reads. -/
theorem wp_draw_all {id : Nat} {Q : Exit → Act → World → Prop} {fr' : Fr} {l : List Oper} (hm : P.follows .mixedOrders = true) (hB : Region.lexB .any l.toArray = true) (hN : ∀ o ∈ l, dstOk N o = true) (h : ARunQ P W0 l.toArray H l fr fr') (hr : Rel W0 N fr H C a)
    (hQ : ∀ C' a', Ext C C' → Rel W0 N fr' H C' a' → Q .normal a' C'.w) : (Code.region id l.toArray true).wp P Q a C.w := by
  simp only [Region.lexB, Bool.and_eq_true] at hB
  obtain ⟨hE, hR⟩ := rel_drew hr
  refine wp_region_any hm ?_
  have key := AAny_lex (P := P) (W0 := W0) (md := .any) (ops := l.toArray) (H := H) (n := l.length) (Q := fun f => f = fr') (B := fun listed => Region.ready .any l.toArray listed = []) (chk := Region.lexFrom .any l.toArray) (J := fun _ => True)
    (fun f k listed hc => by simp only [Region.lexFrom, Bool.and_eq_true] at hc; exact ⟨hc.1.1, hc.1.2, hc.2⟩)
    (fun listed hc => by simpa [Region.lexFrom] using hc) (fun _ _ _ _ _ => trivial)
    (fun i hi listed _ _ j hj => by
      obtain ⟨_, o, ho, _⟩ := mem_ready.1 hj
      simpa using (Array.getElem?_eq_some_iff.1 ho).1)
    (fun listed hb j hj => by rw [hb] at hj; cases hj)
    l 0 (Array.replicate l.toArray.size false) fr fr' (fun j _ => by simp) (by simp) trivial (by simpa using hB.2) h rfl
  have := wpAny_of_AAny (P := P) (g := 0) (Q := Q) (fun o ho => hN o (by simpa using ho)) _ _ _ _ _ hR (fun listed f C' a' he hrel hL => ⟨hL.1, by obtain ⟨_, rfl⟩ := hL; exact hQ C' a' (hE.trans he) hrel⟩) key
  simpa [Ctx.inW] using this

/-- A region that draws its order: what only reads, in whatever order, and behind it what writes. -/
theorem wp_draw_tail {id : Nat} {Q : Exit → Act → World → Prop} {fr1 fr' : Fr} {H' : Heap} {l : List Oper} (n : Nat) (hm : P.follows .mixedOrders = true) (hB : Region.lexTailB .any l.toArray n = true) (hN : ∀ o ∈ l, dstOk N o = true) (h : ARunQ P W0 l.toArray H (l.take n) fr fr1)
    (ht : ARun P W0 l.toArray (l.drop n) fr1 H fr' H') (hr : Rel W0 N fr H C a) (hQ : ∀ C' a', Ext C C' → Rel W0 N fr' H' C' a' → Q .normal a' C'.w) : (Code.region id l.toArray true).wp P Q a C.w := by
  simp only [Region.lexTailB, Bool.and_eq_true, decide_eq_true_eq] at hB
  obtain ⟨⟨⟨⟨hsel, hn⟩, hs⟩, hc⟩, hlex⟩ := hB
  have hn' : n < l.length := by simpa using hn
  have htl : (l.take n).length = n := by simp; omega
  have hdl : (l.drop n).length = l.toArray.size - n := by simp
  obtain ⟨hE, hR⟩ := rel_drew hr
  refine wp_region_any hm ?_
  have inv0 : HeadInv .any l.toArray n (Array.replicate l.toArray.size false) :=
    ⟨by simp, fun j oj _ hl => (by rw [getD_replicate_false] at hl; cases hl), fun t _ ht => getD_in (by simpa using ht) (getD_replicate_false _ _)⟩
  have key := AAny_lex (P := P) (W0 := W0) (md := .any) (ops := l.toArray) (H := H) (n := n) (Q := fun f => f = fr1) (B := fun listed => Region.seqB .any l.toArray (l.toArray.size - n) n listed = true) (chk := Region.lexHead .any l.toArray (l.toArray.size - n)) (J := HeadInv .any l.toArray n)
    (fun f k listed hc => by simp only [Region.lexHead, Bool.and_eq_true] at hc; exact ⟨hc.1.1, hc.1.2, hc.2⟩)
    (fun listed hc => hc)
    (fun listed k hj hr hk => hj.set hr hk)
    (fun i hi listed hj hu j hjr => by
      rcases Nat.lt_or_ge j n with h | h
      · exact h
      · exact absurd hjr (tail_waits hs hc hn hj _ i rfl hi hu j h))
    (fun listed hb j hj => seqB_ready hb j hj)
    (l.take n) 0 (Array.replicate l.toArray.size false) fr fr1 (fun j hj => by
      have hj' : j < n := by rw [htl] at hj; exact hj
      simp [hj']) (by simpa using htl) inv0 (by rw [htl]; exact hlex) h rfl
  have := wpAny_of_AAny (P := P) (g := l.toArray.size - n) (Q := Q) (fun o ho => hN o (by simpa using ho)) _ _ _ _ _ hR (fun listed f C' a' he hrel hL => by
    obtain ⟨hL1, rfl⟩ := hL
    have h2 := wpList_of_run ht (fun o ho => hN o (List.mem_of_mem_drop ho)) C' a' Q hrel (fun C2 a2 h3 h4 => hQ C2 a2 (hE.trans (he.trans h3)) h4)
    have h3 := wpAny_of_seq (md := .any) (Q' := Q) (l.drop n) n listed a' C'.w (fun j => by simp [List.getElem?_drop]) (by rw [hdl]; exact hL1) h2
    rwa [hdl] at h3) key
  rw [htl, show n + (l.toArray.size - n) = l.toArray.size by omega] at this
  exact this

/-- A region in the order of the text. -/
theorem wp_text {id : Nat} {Q : Exit → Act → World → Prop} {fr' : Fr} {H' : Heap} {l : List Oper} (hN : ∀ o ∈ l, dstOk N o = true) (h : ARun P W0 l.toArray l fr H fr' H') (hr : Rel W0 N fr H C a) (hQ : ∀ C' a', Ext C C' → Rel W0 N fr' H' C' a' → Q .normal a' C'.w) :
    (Code.region id l.toArray false).wp P Q a C.w :=
  wp_region_lit (wpList_of_run h hN C a Q hr hQ)

end
end Go.Av
