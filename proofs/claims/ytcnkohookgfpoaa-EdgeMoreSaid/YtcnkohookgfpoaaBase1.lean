/- What a proof sees of a run, and the rules by which it goes through a text. -/
import Derived.Test.YtcnkohookgfpoaaBase
import Derived.RangeFuncRecord
import Derived.ScopeJumps
import Derived.Laws.StructEq
set_option linter.unusedSimpArgs false
set_option linter.unusedVariables false
section
/- Objects under other names: what a proof may do with its heap between two statements. -/
namespace Go.Av

/-- x' tells no more than x, where 'g' names the old object of each new one, and the objects in 'nw' are new and empty. -/
inductive See (H : Heap) (g : List (Nat × Nat)) (nw : List Nat) : AV → AV → Prop
  | same (x : AV) : NoId x → See H g nw x x
  | any (x : AV) : See H g nw x .any
  | view {old new off len : Nat} : lk g new = some old → See H g nw (.view old off len) (.view new off len)
  | viewL {old new off len len' : Nat} : lk g new = some old → len = len' → See H g nw (.view old off len) (.view new off len')
  | ref {old new i j : Nat} : lk g new = some old → See H g nw (.ref old i j) (.ref new i j)
  | nil {n : Nat} : n ∈ nw → See H g nw (.imm (.slice none 0 0)) (.view n 0 0)
  | lend {id off len : Nat} {es ys : List AV} : H.get id = some es → (∀ p ∈ g, p.2 ≠ id) → (es.drop off).take len = ys → (∀ e ∈ ys, NoId e) → See H g nw (.view id off len) (.sl ys)
  | agg (cs cs' : List AV) : cs.length = cs'.length → (∀ (k : Nat) (x x' : AV), cs[k]? = some x → cs'[k]? = some x' → See H g nw x x') → See H g nw (.agg cs) (.agg cs')
  | tuple (cs cs' : List AV) : cs.length = cs'.length → (∀ (k : Nat) (x x' : AV), cs[k]? = some x → cs'[k]? = some x' → See H g nw x x') → See H g nw (.tuple cs) (.tuple cs')
  | clo (fn : Fn) (cs cs' : List AV) : cs.length = cs'.length → (∀ (k : Nat) (x x' : AV), cs[k]? = some x → cs'[k]? = some x' → See H g nw x x') → See H g nw (.clo fn cs) (.clo fn cs')
  | ifc (t : TypeId) (x x' : AV) : See H g nw x x' → See H g nw (.ifc t x) (.ifc t x')
  | wide (es : List AV) : (∀ e ∈ es, NoId e) → See H g nw (.clip es) (.sl es)
  | nilsl : See H g nw (.imm (.slice none 0 0)) (.sl [])
  | frz {id i j : Nat} {es fl : List AV} {e : AV} : H.get id = some es → (∀ p ∈ g, p.2 ≠ id) → es[i]? = some e → e.flat = fl → (∀ x ∈ fl, NoId x) → See H g nw (.ref id i j) (.pp fl j)

structure SeeL (H : Heap) (g : List (Nat × Nat)) (nw : List Nat) (es es' : List AV) : Prop where
  len : es.length = es'.length
  see : ∀ (k : Nat) (e e' : AV), es[k]? = some e → es'[k]? = some e' → See H g nw e e' ∧ e.flat.length = e'.flat.length

def Held (H : Heap) (g : List (Nat × Nat)) (nw : List Nat) (next : Nat) : List (Nat × (Nat × List AV)) → Prop
  | [] => True
  | (n, (s, es')) :: r => ((∃ old es, lk g n = some old ∧ lk H.objs old = some (s, es) ∧ SeeL H g nw es es') ∨ (n ∈ nw ∧ es' = [])) ∧ n < next ∧ Held H g nw next r

def Seen (H : Heap) (g : List (Nat × Nat)) (nw : List Nat) (fr : List (Nat × AV)) : List (Nat × AV) → Prop
  | [] => True
  | (t, x') :: r => (∃ x, lk fr t = some x ∧ See H g nw x x') ∧ Seen H g nw fr r

theorem lk_mem {α : Type} : ∀ {l : List (Nat × α)} {t : Nat} {x : α}, lk l t = some x → (t, x) ∈ l
  | [], _, _, h => by cases h
  | (s, u) :: l, t, x, h => by
    simp only [lk] at h
    split at h
    · rename_i hs; subst hs; cases h; exact List.mem_cons_self ..
    · exact List.mem_cons_of_mem _ (lk_mem h)

section
variable {P : Program} {W0 : Base} {C : Ctx} {N : Nat} {H : Heap} {g : List (Nat × Nat)} {nw : List Nat}

theorem SeeL.same {es : List AV} (h : ∀ e ∈ es, NoId e) : SeeL H g nw es es :=
  ⟨rfl, fun k e e' h1 h2 => by rw [h1] at h2; cases h2; exact ⟨.same e (h e (List.mem_of_getElem? h1)), rfl⟩⟩

theorem Held.spec {next : Nat} : ∀ {l : List (Nat × (Nat × List AV))}, Held H g nw next l → ∀ {n s : Nat} {es' : List AV}, lk l n = some (s, es') →
    ((∃ old es, lk g n = some old ∧ lk H.objs old = some (s, es) ∧ SeeL H g nw es es') ∨ (n ∈ nw ∧ es' = [])) ∧ n < next
  | [], _, _, _, _, h => by cases h
  | (m, (s, es)) :: l, hl, n, s', es', h => by
    simp only [lk] at h
    split at h
    · rename_i hm; subst hm; cases h; exact ⟨hl.1, hl.2.1⟩
    · exact Held.spec hl.2.2 h

theorem Seen.spec {fr : List (Nat × AV)} : ∀ {l : List (Nat × AV)}, Seen H g nw fr l → ∀ {t : Nat} {x' : AV}, lk l t = some x' → ∃ x, lk fr t = some x ∧ See H g nw x x'
  | [], _, _, _, h => by cases h
  | (m, u) :: l, hl, t, x', h => by
    simp only [lk] at h
    split at h
    · rename_i hm; subst hm; cases h; exact hl.1
    · exact Seen.spec hl.2 h

theorem See.flat {e e' x x' : AV} (h : See H g nw e e') {j : Nat} (hl : e.flat.length = e'.flat.length) (h1 : e.flat[j]? = some x) (h2 : e'.flat[j]? = some x') : See H g nw x x' := by
  cases h with
  | same _ hn =>
    rw [h1] at h2; cases h2
    refine .same _ ?_
    cases e <;> simp only [AV.flat] at h1
    case agg cs => simp only [noId_agg] at hn; exact hn x (List.mem_of_getElem? h1)
    all_goals
      have := List.mem_of_getElem? h1
      simp only [List.mem_singleton] at this
      rw [this]; exact hn
  | any =>
    have := List.mem_of_getElem? h2
    simp only [AV.flat, List.mem_singleton] at this
    rw [this]; exact .any _
  | agg cs cs' hl' hs => exact hs j x x' h1 h2
  | tuple cs cs' hl' hs =>
    have a := List.mem_of_getElem? h1; have b := List.mem_of_getElem? h2
    simp only [AV.flat, List.mem_singleton] at a b
    rw [a, b]; exact .tuple cs cs' hl' hs
  | clo fn cs cs' hl' hs =>
    have a := List.mem_of_getElem? h1; have b := List.mem_of_getElem? h2
    simp only [AV.flat, List.mem_singleton] at a b
    rw [a, b]; exact .clo fn cs cs' hl' hs
  | ifc t y y' hs =>
    have a := List.mem_of_getElem? h1; have b := List.mem_of_getElem? h2
    simp only [AV.flat, List.mem_singleton] at a b
    rw [a, b]; exact .ifc t y y' hs
  | wide es hn =>
    have a := List.mem_of_getElem? h1; have b := List.mem_of_getElem? h2
    simp only [AV.flat, List.mem_singleton] at a b
    rw [a, b]; exact .wide es hn
  | nilsl =>
    have a := List.mem_of_getElem? h1; have b := List.mem_of_getElem? h2
    simp only [AV.flat, List.mem_singleton] at a b
    rw [a, b]; exact .nilsl
  | frz q1 q2 q3 q4 q5 =>
    have a := List.mem_of_getElem? h1; have b := List.mem_of_getElem? h2
    simp only [AV.flat, List.mem_singleton] at a b
    rw [a, b]; exact .frz q1 q2 q3 q4 q5
  | view hg =>
    have a := List.mem_of_getElem? h1; have b := List.mem_of_getElem? h2
    simp only [AV.flat, List.mem_singleton] at a b
    rw [a, b]; exact .view hg
  | viewL hg he =>
    have a := List.mem_of_getElem? h1; have b := List.mem_of_getElem? h2
    simp only [AV.flat, List.mem_singleton] at a b
    rw [a, b]; exact .viewL hg he
  | ref hg =>
    have a := List.mem_of_getElem? h1; have b := List.mem_of_getElem? h2
    simp only [AV.flat, List.mem_singleton] at a b
    rw [a, b]; exact .ref hg
  | nil hn =>
    have a := List.mem_of_getElem? h1; have b := List.mem_of_getElem? h2
    simp only [AV.flat, List.mem_singleton] at a b
    rw [a, b]; exact .nil hn
  | lend q1 q2 q3 q4 =>
    have a := List.mem_of_getElem? h1; have b := List.mem_of_getElem? h2
    simp only [AV.flat, List.mem_singleton] at a b
    rw [a, b]; exact .lend q1 q2 q3 q4

/-- An own slice, given up, may be read by whoever. -/
theorem rep_given {C' : Ctx} (hI : Inv W0 C) {id off len : Nat} {v : Value} {es : List AV} (h : Rep C (.view id off len) v) (hg : C.H.get id = some es) (hn : ∀ e ∈ (es.drop off).take len, NoId e) (hw : C'.w = C.w)
    (hbad : ∀ b, C'.bad b → C.bad b) (hfree : (C.pl id).nil = false → ¬ C'.bad (C.pl id).blk) : Rep C' (.sl ((es.drop off).take len)) v := by
  obtain ⟨ad, cap, rfl, h2, h3⟩ := rep_elems hI h (es := (es.drop off).take len) (by simp [AV.elems, hg])
  rcases h3 with h3 | ⟨b, o, sz, rfl, h4, h5, h6⟩
  · rw [h3]; exact .slNil _ _
  · by_cases hes : (es.drop off).take len = []
    · rw [hes]; exact .slNil _ _
    · have hne : (C.pl id).nil = false := by
        cases hq : (C.pl id).nil with
        | false => rfl
        | true => exact absurd (by rw [hI.nil id es hg hq]; simp) hes
      have hb : b = (C.pl id).blk := by
        have this : SliceAt (C.pl id) off len _ := match h with
          | .view _ _ _ _ _ hs _ => hs es hg
        unfold SliceAt at this
        rw [if_neg (by simp [hne])] at this
        obtain ⟨A, cap', h7, h8, h9, h10, h11⟩ := this
        simp only [Value.slice.injEq] at h7
        obtain ⟨h7, h12, h13⟩ := h7
        rcases h11 with h11 | h11
        · subst h11
          have : ((es.drop off).take len).length = 0 := by omega
          exact absurd (List.eq_nil_of_length_eq_zero this) hes
        · subst h11; cases h7; rfl
      have hch : ∀ i j, ∃ u : Value, ∀ e x, ((es.drop off).take len)[i]? = some e → e.flat[j]? = some x → Holds C.w b (o + i * sz + j) u ∧ Rep C x u := fun i j => by
        cases he : ((es.drop off).take len)[i]? with
        | none => exact ⟨undef, fun e x h => by cases h⟩
        | some e =>
          cases hx : e.flat[j]? with
          | none => exact ⟨undef, fun e' x h hx' => by cases h; rw [hx] at hx'; cases hx'⟩
          | some x =>
            obtain ⟨u, h7, h8⟩ := h6 i j e x he hx
            exact ⟨u, fun e' x' h hx' => by cases h; rw [hx] at hx'; cases hx'; exact ⟨h7, h8⟩⟩
      refine .sl _ b o sz cap (fun i j => Classical.choose (hch i j)) (by rw [hw]; exact h4) (by rw [hb]; exact hfree hne) h2 h5 (fun i j e x he hx => by rw [hw]; exact (Classical.choose_spec (hch i j) e x he hx).1) (fun i j e x he hx => ?_)
      have hne' := hn e (List.mem_of_getElem? he)
      refine (Classical.choose_spec (hch i j) e x he hx).2.move ?_ (by rw [hw]; exact Nat.le_refl _) (fun b _ hb => ⟨by rw [hw], fun h => hb (hbad b h)⟩)
      cases e <;> simp only [AV.flat] at hx
      case agg cs => simp only [noId_agg] at hne'; exact hne' x (List.mem_of_getElem? hx)
      all_goals
        have := List.mem_of_getElem? hx
        simp only [List.mem_singleton] at this
        rw [this]; exact hne'

/-- The objects that keep their numbers keep them. -/
def pinOk (p : Nat) (g : List (Nat × Nat)) (nw : List Nat) (next : Nat) : Bool := decide (p ≤ next) && (List.range p).all fun k => (lk g k == some k || lk g k == none) && !nw.contains k

theorem pinOk.spec {p : Nat} {g : List (Nat × Nat)} {nw : List Nat} {next : Nat} (h : pinOk p g nw next = true) : p ≤ next ∧ ∀ k, k < p → (lk g k = some k ∨ lk g k = none) ∧ k ∉ nw := by
  simp only [pinOk, Bool.and_eq_true, decide_eq_true_eq, List.all_eq_true, List.mem_range, Bool.or_eq_true, beq_iff_eq, Bool.not_eq_true', List.contains_eq_mem, decide_eq_false_iff_not] at h
  exact h

def Ctx.re (C : Ctx) (g : List (Nat × Nat)) (H' : Heap) : Ctx := { C with H := H', pl := fun n => match lk g n with | some old => C.pl old | none => ⟨0, 0, 0, 0, true⟩ }

/-- Objects under other names, new empty ones, and some given up: the context behind it. -/
theorem re_rel {st : St} {fr' : List (Nat × AV)} {H' : Heap} {a : Act} (g : List (Nat × Nat)) (nw : List Nat) (hinj : g.all (fun p => g.all (fun q => p.2 != q.2 || p.1 == q.1)) = true) (hlt : g.all (fun p => decide (p.1 < H'.next)) = true)
    (hnw : nw.all (fun n => (lk g n).isNone && decide (n < H'.next)) = true) (hH : Held st.H g nw H'.next H'.objs) (hfr : Seen st.H g nw st.fr fr') (hpo : pinOk W0.p g nw H'.next = true) (hlp : H'.lps = st.H.lps) (hr : Rel W0 N (lk st.fr) st.H C a) : Mem C (C.re g H') ∧ Rel W0 N (lk fr') H' (C.re g H') a := by
  have hI := hr.inv
  have hCH := hr.heap
  have getS : ∀ {n : Nat} {es' : List AV}, (C.re g H').H.get n = some es' → ∃ s, lk H'.objs n = some (s, es') := fun {n es'} h => by
    simp only [Ctx.re, Heap.get, Option.map_eq_some_iff] at h
    obtain ⟨⟨s, e⟩, h1, rfl⟩ := h
    exact ⟨s, h1⟩
  have nwS : ∀ {n : Nat}, n ∈ nw → lk g n = none ∧ n < H'.next := fun {n} h => by
    have := List.all_eq_true.1 hnw n h
    simpa using this
  have gS : ∀ {n old : Nat}, lk g n = some old → n < H'.next := fun {n old} h => by
    have := List.all_eq_true.1 hlt _ (lk_mem h)
    simpa using this
  have inj : ∀ {n m old : Nat}, lk g n = some old → lk g m = some old → n = m := fun {n m old} h1 h2 => by
    have := List.all_eq_true.1 (List.all_eq_true.1 hinj _ (lk_mem h1)) _ (lk_mem h2)
    simpa using this
  have plS : ∀ {n old : Nat}, lk g n = some old → (C.re g H').pl n = C.pl old := fun {n old} h => by simp [Ctx.re, h]
  have plN : ∀ {n : Nat}, n ∈ nw → (C.re g H').pl n = ⟨0, 0, 0, 0, true⟩ := fun {n} h => by simp [Ctx.re, (nwS h).1]
  -- an object of the new context
  have objS : ∀ {n : Nat} {es' : List AV}, (C.re g H').H.get n = some es' → ((∃ old es, lk g n = some old ∧ C.H.get old = some es ∧ (C.re g H').pl n = C.pl old ∧ SeeL st.H g nw es es') ∨ (n ∈ nw ∧ es' = [])) ∧ n < H'.next := fun {n es'} h => by
    obtain ⟨s, h1⟩ := getS h
    obtain ⟨h2, h3⟩ := hH.spec h1
    refine ⟨?_, h3⟩
    rcases h2 with ⟨old, es, q1, q2, q3⟩ | h2
    · exact .inl ⟨old, es, q1, by rw [hCH]; simp [Heap.get, q2], plS q1, q3⟩
    · exact .inr h2
  have ownS : ∀ {b : Nat}, (C.re g H').cells b → ∃ n old es, lk g n = some old ∧ C.H.get old = some es ∧ (C.pl old).nil = false ∧ (C.pl old).blk = b := fun {b} h => by
    obtain ⟨n, es', h1, h2, h3⟩ := h
    rcases (objS h1).1 with ⟨old, es, q1, q2, q3, _⟩ | ⟨q, _⟩
    · rw [q3] at h2 h3; exact ⟨n, old, es, q1, q2, h2, h3⟩
    · rw [plN q] at h2; cases h2
  have sp' : ∀ b, (C.re g H').sp b → C.sp b := fun b h => h.imp (fun ⟨r, h⟩ => ⟨r, by rw [hCH, ← hlp]; exact h⟩) id
  have own' : ∀ b, (C.re g H').own b → C.own b := fun b h => h.imp (fun h => by
    obtain ⟨n, old, es, _, q2, q3, q4⟩ := ownS h
    exact ⟨old, es, q2, q3, q4⟩) (sp' b)
  have bad' : ∀ b, (C.re g H').bad b → C.bad b := fun b h => h.imp (own' b) id
  have repS : ∀ {x x' : AV}, See st.H g nw x x' → ∀ {v : Value}, Rep C x v → Rep (C.re g H') x' v := by
    intro x x' hs
    induction hs with
    | same x hn => intro v h; exact h.move hn (Nat.le_refl _) (fun b _ hb => ⟨rfl, fun h => hb (bad' b h)⟩)
    | any x => intro v _; exact .any v
    | view hg =>
      intro v h
      match h with
      | .view _ _ _ _ h1 h2 h3 =>
      refine .view _ _ _ _ (gS hg) (fun es' he => ?_) h3
      rcases (objS he).1 with ⟨o2, es, q1, q2, q3, _⟩ | ⟨q, _⟩
      · rw [hg] at q1; cases q1
        rw [q3]; exact h2 es q2
      · rw [(nwS q).1] at hg; cases hg
    | viewL hg he =>
      intro v h
      subst he
      match h with
      | .view _ _ _ _ h1 h2 h3 =>
      refine .view _ _ _ _ (gS hg) (fun es' he => ?_) h3
      rcases (objS he).1 with ⟨o2, es, q1, q2, q3, _⟩ | ⟨q, _⟩
      · rw [hg] at q1; cases q1
        rw [q3]; exact h2 es q2
      · rw [(nwS q).1] at hg; cases hg
    | ref hg =>
      intro v h
      match h with
      | .ref _ _ _ _ h1 h2 h3 =>
      refine .ref _ _ _ _ (gS hg) (fun es' he => ?_) h3
      rcases (objS he).1 with ⟨o2, es, q1, q2, q3, _⟩ | ⟨q, _⟩
      · rw [hg] at q1; cases q1
        rw [q3]; exact h2 es q2
      · rw [(nwS q).1] at hg; cases hg
    | nil hn =>
      intro v h
      have := rep_toV (v := .slice none 0 0) rfl h
      subst this
      refine .view _ _ _ _ (nwS hn).2 (fun es' _ => ?_) rfl
      rw [plN hn]
      exact ⟨rfl, rfl, none, rfl⟩
    | lend hid hno hys hn =>
      intro v h
      rename_i id off len es ys
      subst hys
      refine rep_given hI h (by rw [hCH]; exact hid) hn rfl bad' (fun hnil hb => ?_)
      obtain ⟨_, _, hbk, _⟩ := (hI.obj id es (by rw [hCH]; exact hid) hnil).blk
      rcases hb with (hb | hb) | hb
      rotate_left
      · exact hI.sp_ne (sp' _ hb) hbk
      rotate_left
      · obtain ⟨n, old, es2, q1, q2, q3, q4⟩ := ownS hb
        have := hI.sep old id es2 es q2 (by rw [hCH]; exact hid) q3 hnil q4
        exact hno _ (lk_mem q1) this
      · exact hI.prot id es (by rw [hCH]; exact hid) hnil hb
    | agg cs cs' hl _ ih =>
      intro v h
      match h with
      | .agg _ vs h1 h2 h3 =>
      refine .agg cs' vs (h1.trans hl) h2 (fun k x' hx' => ?_)
      have hk : k < cs.length := by rw [hl]; exact (List.getElem?_eq_some_iff.1 hx').1
      exact ih k cs[k] x' (List.getElem?_eq_getElem hk) hx' (h3 k _ (List.getElem?_eq_getElem hk))
    | tuple cs cs' hl _ ih =>
      intro v h
      match h with
      | .tuple _ vs h1 h3 =>
      refine .tuple cs' vs (h1.trans hl) (fun k x' hx' => ?_)
      have hk : k < cs.length := by rw [hl]; exact (List.getElem?_eq_some_iff.1 hx').1
      exact ih k cs[k] x' (List.getElem?_eq_getElem hk) hx' (h3 k _ (List.getElem?_eq_getElem hk))
    | clo fn cs cs' hl _ ih =>
      intro v h
      match h with
      | .clo _ _ vs h1 h3 =>
      refine .clo fn cs' vs (h1.trans hl) (fun k x' hx' => ?_)
      have hk : k < cs.length := by rw [hl]; exact (List.getElem?_eq_some_iff.1 hx').1
      exact ih k cs[k] x' (List.getElem?_eq_getElem hk) hx' (h3 k _ (List.getElem?_eq_getElem hk))
    | ifc t x x' _ ih =>
      intro v h
      match h with
      | .ifc _ _ v h1 => exact .ifc t x' v (ih h1)
    | wide es hn =>
      intro v h
      have h2 : Rep (C.re g H') (.clip es) v := h.move (by simpa using hn) (Nat.le_refl _) (fun b _ hb => ⟨rfl, fun h => hb (bad' b h)⟩)
      match h2 with
      | .clipNil a => exact .slNil a 0
      | .clip _ b off sz c h1 h2 h3 h4 h5 => exact .sl es b off sz es.length c h1 h2 (Nat.le_refl _) h3 h4 h5
    | nilsl =>
      intro v h
      have := rep_toV (v := .slice none 0 0) rfl h
      subst this
      exact .slNil _ _
    | frz hid hno hes hfl hn =>
      intro v h
      rename_i id i j es fl e
      subst hfl
      match h with
      | .ref _ _ _ _ h1 h2 h3 =>
      have hid' : C.H.get id = some es := by rw [hCH]; exact hid
      obtain ⟨hnil, rfl⟩ := h2 es hid'
      have hch : ∀ k, ∃ u : Value, ∀ x, e.flat[k]? = some x → Holds C.w (C.pl id).blk (i * (C.pl id).sz + k) u ∧ Rep C x u := fun k => by
        cases hx : e.flat[k]? with
        | none => exact ⟨undef, fun x h => by cases h⟩
        | some x =>
          obtain ⟨u, h7, h8⟩ := holds_obj hI hid' hnil hes hx
          exact ⟨u, fun x' h => by cases h; exact ⟨h7, h8⟩⟩
      have hfree : ¬ (C.re g H').bad (C.pl id).blk := by
        obtain ⟨_, _, hbk, _⟩ := (hI.obj id es hid' hnil).blk
        rintro ((hb | hb) | hb)
        rotate_left
        · exact hI.sp_ne (sp' _ hb) hbk
        rotate_left
        · obtain ⟨n, old, es2, q1, q2, q3, q4⟩ := ownS hb
          have := hI.sep old id es2 es q2 hid' q3 hnil q4
          exact hno _ (lk_mem q1) this
        · exact hI.prot id es hid' hnil hb
      refine .pp e.flat j (C.pl id).blk (i * (C.pl id).sz) (fun k => Classical.choose (hch k)) (hI.lt hid' hnil) hfree (fun k x hx => (Classical.choose_spec (hch k) x hx).1) (fun k x hx => ?_)
      exact (Classical.choose_spec (hch k) x hx).2.move (hn x (List.mem_of_getElem? hx)) (Nat.le_refl _) (fun b _ hb => ⟨rfl, fun h => hb (bad' b h)⟩)
  obtain ⟨hp1, hp2⟩ := pinOk.spec hpo
  have hM : Mem C (C.re g H') := ⟨.refl _ _, fun _ _ _ => rfl, fun b _ h => own' b h, rfl, rfl, fun _ => ⟨by show C.pin ≤ H'.next; rw [hI.pinB]; exact hp1, fun k es' hk hg => by
    rw [hI.pinB] at hk
    obtain ⟨h1, h2⟩ := hp2 k hk
    rcases (objS hg).1 with ⟨old, es, q1, q2, q3, _⟩ | ⟨q, _⟩
    · rcases h1 with h1 | h1
      · rw [h1] at q1; cases q1; exact ⟨⟨es, q2⟩, q3⟩
      · rw [h1] at q1; cases q1
    · exact absurd q h2⟩⟩
  refine ⟨hM, rfl, ?_, hr.size, hr.defers, fun t x' hx' => ?_⟩
  · exact {
      fresh := fun n es' h => (objS h).2
      nil := fun n es' h hn => by
        rcases (objS h).1 with ⟨old, es, q1, q2, q3, q4⟩ | ⟨q, h⟩
        · rw [q3] at hn
          have := hI.nil old es q2 hn
          subst this
          exact List.eq_nil_of_length_eq_zero q4.len.symm
        · exact h
      obj := fun n es' h hn => by
        rcases (objS h).1 with ⟨old, es, q1, q2, q3, q4⟩ | ⟨q, h⟩
        · rw [q3] at hn ⊢
          have hO := hI.obj old es q2 hn
          have back : ∀ {i : Nat} {e' : AV}, es'[i]? = some e' → ∃ e, es[i]? = some e ∧ See st.H g nw e e' ∧ e.flat.length = e'.flat.length := fun {i e'} hi => by
            have hk : i < es.length := by rw [q4.len]; exact (List.getElem?_eq_some_iff.1 hi).1
            exact ⟨es[i], List.getElem?_eq_getElem hk, q4.see i _ e' (List.getElem?_eq_getElem hk) hi⟩
          refine ⟨hO.n.trans q4.len, hO.cap, hO.blk, hO.one, fun i e' he' => ?_, fun i j e' x' v he' hx' hv => ?_⟩
          · obtain ⟨e, h1, _, h3⟩ := back he'
            rw [← h3]; exact hO.flat i e h1
          · obtain ⟨e, h1, h2, h3⟩ := back he'
            have hj : j < e.flat.length := by rw [h3]; exact (List.getElem?_eq_some_iff.1 hx').1
            exact repS (h2.flat h3 (List.getElem?_eq_getElem hj) hx') (hO.cell i j e _ v h1 (List.getElem?_eq_getElem hj) hv)
        · rw [plN q] at hn; cases hn
      sep := fun n m en em h1 h2 hn hm hb => by
        rcases (objS h1).1 with ⟨o1, e1, p1, p2, p3, _⟩ | ⟨q, _⟩
        · rcases (objS h2).1 with ⟨o2, e2, r1, r2, r3, _⟩ | ⟨q, _⟩
          · rw [p3] at hn hb; rw [r3] at hm hb
            have := hI.sep o1 o2 e1 e2 p2 r2 hn hm hb
            subst this
            exact inj p1 r1
          · rw [plN q] at hm; cases hm
        · rw [plN q] at hn; cases hn
      prot := fun n es' h hn => by
        rcases (objS h).1 with ⟨old, es, q1, q2, q3, _⟩ | ⟨q, _⟩
        · rw [q3] at hn ⊢; exact hI.prot old es q2 hn
        · rw [plN q] at hn; cases hn
      szok := fun n s h hn => by
        simp only [Ctx.re, Heap.sz, Option.map_eq_some_iff] at h
        obtain ⟨⟨s', es'⟩, h1, rfl⟩ := h
        rcases (hH.spec h1).1 with ⟨old, es, q1, q2, _⟩ | ⟨q, _⟩
        · rw [plS q1] at hn ⊢
          exact hI.szok old s' (by rw [hCH]; simp [Heap.sz, q2]) hn
        · rw [plN q] at hn; cases hn
      protlt := hI.protlt
      protge := hI.protge
      size := hI.size
      glob := fun b h => ⟨(hI.glob b h).1, fun ho => (hI.glob b h).2 (own' b ho)⟩
      lps := fun l r h => hI.lps l r (by rw [hCH, ← hlp]; exact h)
      dfs := hI.dfs
      dnd := hI.dnd
      rod := hI.rod
      spprot := fun b h => hI.spprot b (sp' b h)
      pinB := hI.pinB
      pinlt := by show C.pin ≤ H'.next; rw [hI.pinB]; exact hp1
      gh := W0.st C _ hM hI.pinlt hI.gh }
  · obtain ⟨x, h1, h2⟩ := hfr.spec hx'
    exact repS h2 (hr.rep t x h1)

/-- Objects under other names, new empty ones, and some given up. -/
theorem Weak.re {st : St} {fr' : List (Nat × AV)} {H' : Heap} (g : List (Nat × Nat)) (nw : List Nat) (hinj : g.all (fun p => g.all (fun q => p.2 != q.2 || p.1 == q.1)) = true) (hlt : g.all (fun p => decide (p.1 < H'.next)) = true)
    (hnw : nw.all (fun n => (lk g n).isNone && decide (n < H'.next)) = true) (hH : Held st.H g nw H'.next H'.objs) (hfr : Seen st.H g nw st.fr fr') (hpo : pinOk W0.p g nw H'.next = true := by rfl) (hlp : H'.lps = st.H.lps := by rfl) : Weak W0 N st ⟨fr', H'⟩ := fun C a hr =>
  let h := re_rel g nw hinj hlt hnw hH hfr hpo hlp hr
  ⟨C.re g H', rfl, h.1, h.2⟩
end
end Go.Av
end

section
/- More rules for numbers. -/
namespace Go.Av
section
variable {P : Program} {W0 : Base} {fr : Fr} {H : Heap} {o : Oper}

theorem toNat_inj64 (a b : BitVec 64) : ((a.toNat : Int) = (b.toNat : Int)) ↔ a = b :=
  ⟨fun h => BitVec.eq_of_toNat_eq (by omega), fun h => by rw [h]⟩

theorem aop_eql64 {t t' : TypeId} {x y : Operand} {a b : BitVec 64} (ho : o.op = .binOp .eql t x y t') (hx : evalA fr x = some (u64 a)) (hy : evalA fr y = some (u64 b)) : AOp P W0 o fr H (bl (decide (a = b))) H :=
  (aop_eql ho hx hy).conv (by congr 2; exact propext (toNat_inj64 a b))
theorem aop_neq64 {t t' : TypeId} {x y : Operand} {a b : BitVec 64} (ho : o.op = .binOp .neq t x y t') (hx : evalA fr x = some (u64 a)) (hy : evalA fr y = some (u64 b)) : AOp P W0 o fr H (bl (decide (a ≠ b))) H :=
  (aop_neq ho hx hy).conv (by congr 2; exact propext (not_congr (toNat_inj64 a b)))

theorem aop_neg64 {t : TypeId} {x : Operand} {a : BitVec 64} (ho : o.op = .unOp .neg t x) (hx : evalA fr x = some (u64 a)) : AOp P W0 o fr H (u64 (-a)) H :=
  aop_un ho hx rfl (by
    show pvOk P (Pure.pure _) = _
    have e : IntKind.u64.wrap (0 - (a.toNat : Int)) = ((-a).toNat : Int) := by
      rw [wrapu]
      congr 2
      apply BitVec.eq_of_toNat_eq
      have := a.isLt
      rw [BitVec.toNat_ofInt, BitVec.toNat_neg]; omega
    rw [e]; rfl)

theorem aop_quo64 {t t' : TypeId} {x y : Operand} {a b : BitVec 64} (ho : o.op = .binOp .quo t x y t') (hx : evalA fr x = some (u64 a)) (hy : evalA fr y = some (u64 b)) (h0 : b ≠ 0#64) : AOp P W0 o fr H (u64 (a / b)) H :=
  aop_quo ho hx hy (fun h => h0 (BitVec.eq_of_toNat_eq (by simpa using h))) (by
    have e : (a.toNat : Int).tdiv b.toNat = ((a / b).toNat : Int) := by
      rw [BitVec.toNat_udiv]; rfl
    rw [e, u64_wrap])
theorem aop_rem64 {t t' : TypeId} {x y : Operand} {a b : BitVec 64} (ho : o.op = .binOp .rem t x y t') (hx : evalA fr x = some (u64 a)) (hy : evalA fr y = some (u64 b)) (h0 : b ≠ 0#64) : AOp P W0 o fr H (u64 (a % b)) H :=
  aop_rem ho hx hy (fun h => h0 (BitVec.eq_of_toNat_eq (by simpa using h))) (by rw [BitVec.toNat_umod]; rfl)

theorem aop_app_view {t ty e : TypeId} {s by' : Nat} {z : Value} {x y : Operand} (hT : ElT P t e s by' z) (ho : o.op = .call { callee := .builtin .append, args := #[x, y], argTypes := #[t, t] }) (hty : o.type = ty) {ay : AV} {id : Nat} {es : List AV} (hx : evalA fr x = some (.view id 0 es.length)) (hid : H.get id = some es) (hs : H.sz id = some s) (hy : evalA fr y = some ay) {ys : List AV} (hys : ay.elems H = some ys)
    (hfe : ∀ x ∈ es, x.flat.length = s) (hfy : ∀ x ∈ ys, x.flat.length = s) (hsz : (es.length + ys.length) * by' ≤ 140737488355328) : AOp P W0 o fr H (.view H.next 0 (es ++ ys).length) ((H.del id).push s (es ++ ys)) :=
  (aop_append_view hT ho hty hx hid hs hy hys hfe hfy hsz).conv (by rw [List.length_append])

theorem of_not_t {p : Prop} [Decidable p] (h : (!decide p) = true) : ¬ p := fun hp => by rw [decide_eq_true hp] at h; cases h
theorem of_not_f {p : Prop} [Decidable p] (h : (!decide p) = false) : p := Classical.byContradiction fun hp => by rw [decide_eq_false hp] at h; cases h

/-- A slice that lies in one own object, under its own name. -/
theorem Held.one {H : Heap} {g : List (Nat × Nat)} {nw : List Nat} {next n old s : Nat} {es : List AV} (h1 : lk g n = some old) (h2 : lk H.objs old = some (s, es)) (h3 : ∀ e ∈ es, NoId e) (h4 : n < next) : Held H g nw next [(n, (s, es))] :=
  ⟨.inl ⟨old, es, h1, h2, .same h3⟩, h4, trivial⟩
theorem Held.new {H : Heap} {g : List (Nat × Nat)} {nw : List Nat} {next n s : Nat} (h1 : n ∈ nw) (h4 : n < next) : Held H g nw next [(n, (s, []))] :=
  ⟨.inr ⟨h1, rfl⟩, h4, trivial⟩

end
section
variable {P : Program} {W0 : Base} {N : Nat} {Q : Exit → St → Prop} {fr : List (Nat × AV)} {H : Heap}
theorem awp_reg {id : Nat} {l : List Oper} (hN : l.all (dstOk N) = true) (h : AR P W0 l.toArray l fr H (fun f g => Q .normal ⟨f, g⟩)) : AWP P W0 N (.region id l.toArray false) ⟨fr, H⟩ Q := awp_region hN h
theorem Weak.kp {fr' : List (Nat × AV)} (h : Keeps fr fr') : Weak W0 N ⟨fr, H⟩ ⟨fr', H⟩ := .keep h
end
end Go.Av
namespace Go.Av
abbrev i64l (l : List Nat) : List AV := l.map fun (k : Nat) => i64 (k : Int)
abbrev ints (l : List Nat) : AV := .sl (i64l l)
theorem i64l_snoc (l : List Nat) (k : Nat) : i64l (l ++ [k]) = i64l l ++ [i64 (k : Int)] := by simp [i64l]
theorem flat_i64s {l : List Nat} : ∀ x ∈ i64l l, x.flat.length = 1 := fun x hx => by
  simp only [i64l, List.mem_map] at hx
  obtain ⟨k, _, rfl⟩ := hx; rfl
theorem noId_i64s {l : List Nat} : ∀ e ∈ i64l l, NoId e := fun x hx => by
  simp only [i64l, List.mem_map] at hx
  obtain ⟨k, _, rfl⟩ := hx; simp
theorem noId_snoc {l : List Nat} {k : Int} : ∀ e ∈ i64l l ++ [i64 k], NoId e := fun x hx => by
  rcases List.mem_append.1 hx with h | h
  · exact noId_i64s x h
  · simp at h; subst h; simp
theorem AV.view_take (es : List AV) : ((es.drop 0).take es.length) = es := by simp
theorem tab_part {l : List Nat} {m k : Nat} (h : l[m]? = some k) : partA ((l.map fun (k : Nat) => Value.int .u8 (k : Int)).map .imm) m 1 false = some (.imm (.int .u8 (k : Int))) := by
  show ((l.map _).map _)[m]? = _
  simp [h]
theorem get_i64l (l : List Nat) {k : Nat} (h : k < l.length) : (i64l l)[k]? = some (i64 (l[k] : Nat)) := by simp [i64l, h]
theorem get_i64s (l : List Int) {k : Nat} (h : k < l.length) : (l.map i64)[k]? = some (i64 l[k]) := by simp [h]

def AV.wide : AV → AV
  | .clip es => .sl es
  | x => x

theorem rep_wide {C : Ctx} {x : AV} {v : Value} (h : Rep C x v) : Rep C x.wide v := by
  cases x with
  | clip es =>
    match h with
    | .clipNil a => exact .slNil a 0
    | .clip _ b off sz c h1 h2 h3 h4 h5 => exact .sl es b off sz es.length c h1 h2 (Nat.le_refl _) h3 h4 h5
  | _ => exact h

theorem evalA_wide {fr : Fr} {x : Operand} {r : AV} (h : evalA fr x = some r) : ∀ (C : Ctx) (a : Act), RepO C fr a x → Rep C r.wide (a.eval x) := fun _ _ hr => rep_wide (rep_eval hr h)

@[simp] theorem ofV_int (k : IntKind) (n : Int) : AV.ofV (.int k n) = .imm (.int k n) := rfl
@[simp] theorem ofV_bool (b : Bool) : AV.ofV (.bool b) = .imm (.bool b) := rfl
@[simp] theorem wide_clip (es : List AV) : (AV.clip es).wide = .sl es := rfl
@[simp] theorem wide_sl (es : List AV) : (AV.sl es).wide = .sl es := rfl
@[simp] theorem wide_imm (v : Value) : (AV.imm v).wide = .imm v := rfl
theorem noId_u64s {l : List (BitVec 64)} : NoId (u64s l) := by simp
theorem noId_snoc64 {l : List (BitVec 64)} {k : BitVec 64} : ∀ e ∈ l.map u64 ++ [k].map u64, NoId e := fun x hx => by
  rw [← List.map_append] at hx
  simp only [List.mem_map] at hx
  obtain ⟨k, _, rfl⟩ := hx; simp
theorem flat_u64s {l : List (BitVec 64)} : ∀ x ∈ l.map u64, x.flat.length = 1 := fun x hx => by
  simp only [List.mem_map] at hx
  obtain ⟨k, _, rfl⟩ := hx; rfl
theorem see_i64 {H : Heap} {g : List (Nat × Nat)} {nw : List Nat} {m n : Int} (h : m = n) : See H g nw (i64 m) (i64 n) := h ▸ .same _ (.imm _)
theorem aop_and127 {P : Program} {W0 : Base} {fr : Fr} {H : Heap} {o : Oper} {t t' : TypeId} {x y : Operand} {a : BitVec 64} {r : Nat} (ho : o.op = .binOp .and t x y t') (hx : evalA fr x = some (i64 (a.toNat : Int))) (hy : evalA fr y = some (i64 127)) (hr : a.toNat % 128 = r) : AOp P W0 o fr H (i64 (r : Int)) H :=
  aop_int ho hx hy (fun w => by
    have e : (a &&& BitVec.ofInt 64 127).toNat = a.toNat % 128 := by
      rw [BitVec.toNat_and]
      exact Nat.and_two_pow_sub_one_eq_mod a.toNat 7
    have e2 : IntKind.i64.wrap ((a &&& BitVec.ofInt 64 127).toNat : Int) = (r : Int) := by
      rw [e, hr, i64_wrap (by omega) (by omega)]
    simp only [binOp, ne_eq, not_true_eq_false, if_false, Op.intBits, IntKind.bits, bv_ofInt]
    show Result.ok (Value.int .i64 (IntKind.i64.wrap ((a &&& BitVec.ofInt 64 127).toNat : Int))) w = _
    rw [e2]) rfl
end Go.Av
end

section
/- Literals of structs. -/
namespace Go.Av

/-- A struct type's fields' places, and its zero's cells. -/
def bdT (P : Program) (t : TypeId) : Option (List (Nat × Nat) × List Value) :=
  match P.underlying t, zrT P t with
  | some (.struct fs), some z => (fs.toList.mapM fun f => (P.info? f.type).map fun i => (f.offset, i.size)).map fun pl => (pl, z.cells.toList)
  | _, _ => none

def fillA (pl : List (Nat × Nat)) : List AV → List (Nat × AV) → Option (List AV)
  | cells, [] => some cells
  | cells, (i, x) :: rest => match pl[i]? with
    | some (off, size) => if x.flat.length = size ∧ off + size ≤ cells.length ∧ x.solid = true then fillA pl (cells.take off ++ x.flat ++ cells.drop (off + x.flat.length)) rest else none
    | none => none

section
variable {P : Program} {W0 : Base} {C : Ctx} {fr : Fr} {a : Act} {H : Heap} {o : Oper}

structure CellsRep (C : Ctx) (cs : List AV) (vs : Array Value) : Prop where
  size : vs.size = cs.length
  one : ∀ (k : Nat) (v : Value), vs[k]? = some v → v.oneCell' = true
  rep : ∀ (k : Nat) (x : AV), cs[k]? = some x → ∃ v, vs[k]? = some v ∧ Rep C x v

theorem fill_rep (pl : List (Nat × Nat)) : ∀ (ps : List (Nat × AV)) (vs : List (Nat × Value)) (cs : List AV) (cells : Array Value) (r : List AV), CellsRep C cs cells → ps.length = vs.length →
    (∀ (k i j : Nat) (x : AV) (v : Value), ps[k]? = some (i, x) → vs[k]? = some (j, v) → i = j ∧ Rep C x v) → fillA pl cs ps = some r → ∃ cells', Instr.fill (pl[·]?) cells vs = some cells' ∧ CellsRep C r cells'
  | [], [], cs, cells, r, hc, _, _, h => by
    simp only [fillA, Option.some.injEq] at h
    subst h
    exact ⟨cells, rfl, hc⟩
  | [], _ :: _, _, _, _, _, hl, _, _ => by cases hl
  | _ :: _, [], _, _, _, _, hl, _, _ => by cases hl
  | (i, x) :: ps, (j, v) :: vs, cs, cells, r, hc, hl, hp, h => by
    obtain ⟨rfl, hx⟩ := hp 0 i j x v rfl rfl
    simp only [fillA] at h
    cases hpl : pl[i]? with
    | none => simp [hpl] at h
    | some q =>
      obtain ⟨off, size⟩ := q
      simp only [hpl] at h
      split at h
      · rename_i hq
        obtain ⟨h1, h2, h3⟩ := hq
        obtain ⟨c1, c2, c3⟩ := rep_cells hx h3
        have hl' : v.cells.toList.length = x.flat.length := by simpa using c1
        obtain ⟨g1, g2⟩ := foldl_put v.cells.toList off 0 cells
        have hg : v.cells.zipIdx.foldl (fun cs (p : Value × Nat) => cs.setIfInBounds (off + p.2) p.1) cells = (v.cells.toList.zipIdx 0).foldl (fun cs (p : Value × Nat) => cs.setIfInBounds (off + p.2) p.1) cells := by
          rw [← Array.foldl_toList]; simp
        have hsz : cells.size = cs.length := hc.size
        have g3 := fun q => g2 q (by rw [hl', hsz]; omega)
        have hc' : CellsRep C (cs.take off ++ x.flat ++ cs.drop (off + x.flat.length)) ((v.cells.toList.zipIdx 0).foldl (fun cs (p : Value × Nat) => cs.setIfInBounds (off + p.2) p.1) cells) := by
          refine ⟨by rw [g1, hsz]; simp; omega, fun k u hk => ?_, fun k y hk => ?_⟩
          · rw [g3 k] at hk
            split at hk
            · rw [Array.getElem?_toList] at hk; exact c2 _ u hk
            · exact hc.one k u hk
          · rw [splice_get cs x.flat off (by omega) k] at hk
            by_cases k1 : k < off
            · rw [if_pos k1] at hk
              rw [g3 k, if_neg (by omega)]
              exact hc.rep k y hk
            · rw [if_neg k1] at hk
              by_cases k2 : k < off + x.flat.length
              · rw [if_pos k2] at hk
                rw [g3 k, if_pos (by rw [hl']; omega), Array.getElem?_toList]
                exact c3 _ y hk
              · rw [if_neg k2] at hk
                rw [g3 k, if_neg (by rw [hl']; omega)]
                exact hc.rep k y hk
        obtain ⟨cells', e1, e2⟩ := fill_rep pl ps vs _ _ r hc' (by simpa using hl) (fun k i' j' x' v' a1 a2 => hp (k + 1) i' j' x' v' a1 a2) h
        refine ⟨cells', ?_, e2⟩
        simp only [Instr.fill, hpl]
        rw [if_neg (by simp only [c1, h1, ne_eq, not_true_eq_false, false_or, Bool.or_eq_true, decide_eq_true_eq]; rw [hsz]; simp; omega)]
        first
          | (rw [hg]; exact e1)
          | (simp only [] at *; rw [← hg] at e1; exact e1)
      · cases h

theorem mapM_info {α : Type} (f : α → Nat) (ty : α → TypeId) (w : World) : ∀ (l : List α) (pl : List (Nat × Nat)), (l.mapM fun x => (P.info? (ty x)).map fun i => (f x, i.size)) = some pl →
    (l.mapM fun x => (do pure (f x, ← sizeOf (ty x)) : Sem (Nat × Nat))).run P w = .ok pl w
  | [], pl, h => by
    simp at h; subst h; rfl
  | x :: l, pl, h => by
    rw [List.mapM_cons] at h
    simp only [Option.bind_eq_bind, Option.bind_eq_some_iff, Option.pure_def, Option.some.injEq] at h
    obtain ⟨q, h1, rest, h2, rfl⟩ := h
    simp only [Option.map_eq_some_iff] at h1
    obtain ⟨i, h3, rfl⟩ := h1
    have ih := mapM_info f ty w l rest h2
    rw [List.mapM_cons, Sem.run_bind]
    have e : (do pure (f x, ← sizeOf (ty x)) : Sem (Nat × Nat)).run P w = .ok (f x, i.size) w := by
      simp [sizeOf, typeInfo, h3]
    rw [e]
    simp only [Result.andThen_ok]
    rw [Sem.run_bind, ih]
    rfl

theorem aop_build {t : TypeId} {parts : Array (Nat × Operand)} {pl : List (Nat × Nat)} {zs : List Value} {xs : List (Nat × AV)} {r : List AV} (ho : o.op = .build t parts) (ht : bdT P t = some (pl, zs)) (hz : zs.all (·.oneCell') = true)
    (hxs : (parts.toList.mapM fun p => (evalA fr p.2).map fun x => (p.1, x)) = some xs) (hr : fillA pl (zs.map .imm) xs = some r) : AOp P W0 o fr H (.agg r) H :=
  .of_pure fun C a _ _ hop => by
    unfold bdT at ht
    split at ht
    · rename_i fs z hu hzr
      simp only [Option.map_eq_some_iff, Prod.mk.injEq] at ht
      obtain ⟨pl', h1, rfl, rfl⟩ := ht
      have hz0 : (zeroValue t).run P C.w = .ok z C.w := by
        unfold zrT at hzr
        cases hi : P.info? t with
        | none => simp [hi] at hzr
        | some i =>
          simp only [hi, Option.bind_some] at hzr
          simp [zeroValue, typeInfo, hi, hzr]
      have key : ∀ (l : List (Nat × Operand)) (xs : List (Nat × AV)), (∀ p ∈ l, RepO C fr a p.2) → (l.mapM fun p => (evalA fr p.2).map fun x => (p.1, x)) = some xs →
          xs.length = l.length ∧ ∀ (k i j : Nat) (x : AV) (v : Value), xs[k]? = some (i, x) → (l.map fun p => (p.1, a.eval p.2))[k]? = some (j, v) → i = j ∧ Rep C x v := by
        intro l
        induction l with
        | nil => intro xs _ h; simp at h; subst h; exact ⟨rfl, fun k i j x v h => by simp at h⟩
        | cons p l ih =>
          intro xs hp h
          rw [List.mapM_cons] at h
          simp only [Option.bind_eq_bind, Option.bind_eq_some_iff, Option.pure_def, Option.some.injEq] at h
          obtain ⟨q, e1, rest, e2, rfl⟩ := h
          simp only [Option.map_eq_some_iff] at e1
          obtain ⟨y, e3, rfl⟩ := e1
          obtain ⟨i1, i2⟩ := ih rest (fun q hq => hp q (List.mem_cons_of_mem _ hq)) e2
          refine ⟨by simp [i1], fun k i j x v a1 a2 => ?_⟩
          cases k with
          | zero =>
            simp at a1 a2
            obtain ⟨rfl, rfl⟩ := a1
            obtain ⟨rfl, rfl⟩ := a2
            exact ⟨rfl, rep_eval (hp p (List.mem_cons_self ..)) e3⟩
          | succ k => simp at a1; exact i2 k i j x v a1 (by simpa using a2)
      obtain ⟨l1, l2⟩ := key parts.toList xs (fun p hp => hop p.2 (by rw [ho]; show p.2 ∈ (List.map (fun x => x.2) parts.toList).toArray; simp only [List.mem_toArray, List.mem_map]; exact ⟨p, hp, rfl⟩)) hxs
      have hzc : CellsRep C (z.cells.toList.map .imm) z.cells := by
        have hone : ∀ (k : Nat) (v : Value), z.cells[k]? = some v → v.oneCell' = true := fun k v hk => by
          rw [List.all_eq_true] at hz
          exact hz v (by simpa using Array.mem_of_getElem? hk)
        refine ⟨by simp, hone, fun k x hk => ?_⟩
        simp only [List.getElem?_map, Option.map_eq_some_iff, Array.getElem?_toList] at hk
        obtain ⟨v, h3, rfl⟩ := hk
        exact ⟨v, h3, .imm v (hone k v h3)⟩
      obtain ⟨cells', f1, f2⟩ := fill_rep pl' xs (parts.toList.map fun p => (p.1, a.eval p.2)) _ _ r hzc (by simp [l1]) l2 hr
      refine ⟨.agg cells', ?_, .agg r cells' f2.size f2.one (fun k x hk => ?_)⟩
      · have hp : (fs.mapM fun f => (do pure (f.offset, ← sizeOf f.type) : Sem (Nat × Nat))).run P C.w = .ok pl'.toArray C.w := by
          have := mapM_info (P := P) (fun f : Field => f.offset) (fun f => f.type) C.w fs.toList pl' h1
          have e : fs = fs.toList.toArray := by simp
          rw [e, List.mapM_toArray, Sem.run_map, this]
          rfl
        have hm : (parts.map fun (i, x) => (i, a.eval x)).toList = parts.toList.map fun p => (p.1, a.eval p.2) := by simp
        have hrun : (Instr.build t (parts.map fun (i, x) => (i, a.eval x))).run P C.w = .ok (.agg cells') C.w := by
          unfold Instr.build
          rw [Sem.run_bind, hz0]
          simp only [Result.andThen_ok]
          rw [Sem.run_bind, run_underlying hu]
          simp only [Result.andThen_ok]
          rw [Sem.run_bind, hp]
          simp only [Result.andThen_ok, hm, List.getElem?_toArray, f1]
          rfl
        simp only [execOp, ho]
        rw [Sem.run_bind, hrun]
        rfl
      · obtain ⟨v, e1, e2⟩ := f2.rep k x hk
        have hlt := (Array.getElem?_eq_some_iff.1 e1).1
        have := getD_of hlt
        rw [e1] at this
        rw [← Option.some.inj this]; exact e2
    · cases ht
end
end Go.Av
end

section
/- What a walk computes: partial functions over plain data, with loops that run by a budget. -/
namespace Go.Sh

/-- At most n rounds: each goes on from a state, or ends with an answer. -/
def iter {σ α : Type} (b : σ → Option (σ ⊕ α)) : Nat → σ → Option α
  | 0, _ => none
  | n + 1, s => match b s with
    | none => none
    | some (.inl s') => iter b n s'
    | some (.inr r) => some r

def FUEL : Nat := 9223372036854775808

/-- A loop. -/
def loop {σ α : Type} (b : σ → Option (σ ⊕ α)) (s : σ) : Option α := iter b FUEL s

def idx {α : Type} (l : List α) (i : Int) : Option α := if 0 ≤ i then l[i.toNat]? else none
def upd {α : Type} (l : List α) (i : Int) (x : α) : Option (List α) := if 0 ≤ i ∧ i < l.length then some (l.set i.toNat x) else none
def app {α : Type} (by' : Nat) (l m : List α) : Option (List α) := if (l.length + m.length) * by' ≤ 140737488355328 then some (l ++ m) else none
def mk {α : Type} (by' : Nat) (n c : Int) (z : α) : Option (List α) := if 0 ≤ n ∧ n ≤ c ∧ by' * c ≤ 140737488355328 ∧ c ≤ 4611686018427387904 then some (List.replicate n.toNat z) else none
def sub {α : Type} (l : List α) (lo hi : Int) : Option (List α) := if 0 ≤ lo ∧ lo ≤ hi ∧ hi ≤ l.length then some ((l.drop lo.toNat).take (hi.toNat - lo.toNat)) else none
def guard' (p : Prop) [Decidable p] : Option Unit := if p then some () else none
abbrev len {α : Type} (l : List α) : Int := (l.length : Int)
/-- Copy into a slice of the same length: what it holds from then on. -/
def cpy {α : Type} (l m : List α) : Option (List α) := if m.length = l.length then some m else none
def set {α : Type} (l : List α) (i : Int) (x : α) : List α := l.set i.toNat x
@[simp] theorem set_len {α : Type} (l : List α) (i : Int) (x : α) : (set l i x).length = l.length := by simp [set]
def quo (w : Int → Int) (m n : Int) : Option Int := if n ≠ 0 then some (w (m.tdiv n)) else none
def rem (m n : Int) : Option Int := if n ≠ 0 then some (m.tmod n) else none
def udiv (m n : BitVec 64) : Option (BitVec 64) := if n ≠ 0#64 then some (m / n) else none
def umod (m n : BitVec 64) : Option (BitVec 64) := if n ≠ 0#64 then some (m % n) else none
def shl (a : BitVec 64) (n : Int) : Option (BitVec 64) := if 0 ≤ n then some (a <<< n.toNat) else none
def shr (a : BitVec 64) (n : Int) : Option (BitVec 64) := if 0 ≤ n then some (a >>> n.toNat) else none
def min (a b : Int) : Int := if b < a then b else a
def max (a b : Int) : Int := if b > a then b else a
theorem if_t {α : Type} {b : Bool} {x y o : α} (h : (if b then x else y) = o) (hb : b = true) : x = o := by subst hb; exact h
theorem if_f {α : Type} {b : Bool} {x y o : α} (h : (if b then x else y) = o) (hb : b = false) : y = o := by subst hb; exact h
theorem bind_some' {α β : Type} {x : Option α} {f : α → Option β} {o : β} (h : x.bind f = some o) : ∃ a, x = some a ∧ f a = some o := Option.bind_eq_some_iff.1 h
def lett {α β : Type} (x : α) (f : α → β) : β := f x
theorem lett_eq {α β : Type} (x : α) (f : α → β) : lett x f = f x := rfl
theorem lett_some {α β : Type} {x : α} {f : α → β} {o : β} (h : lett x f = o) : ∃ v, x = v ∧ f v = o := ⟨x, rfl, h⟩
def exit {σ α : Type} (x : Option α) : Option (σ ⊕ α) := x.map .inr
def next {σ α : Type} (s : σ) : Option (σ ⊕ α) := some (.inl s)

theorem exit_eq {σ α : Type} {x : Option α} {o : σ ⊕ α} {r : α} (h : exit (σ := σ) x = some o) (hr : ∀ y, o = .inr y → y = r) : x = some r := by
  cases x with
  | none => cases h
  | some y =>
    simp only [exit, Option.map_some, Option.some.injEq] at h
    rw [hr y h.symm]
theorem next_eq {σ α : Type} {s : σ} {o : σ ⊕ α} (h : next (α := α) s = some o) : o = .inl s := by
  simp only [next, Option.some.injEq] at h; exact h.symm

theorem idx_some {α : Type} {l : List α} {i : Int} {x : α} (h : idx l i = some x) : ∃ k : Nat, i = k ∧ l[k]? = some x := by
  unfold idx at h
  split at h
  · rename_i h0; exact ⟨i.toNat, by omega, h⟩
  · cases h
theorem upd_some {α : Type} {l m : List α} {i : Int} {x : α} (h : upd l i x = some m) : ∃ k : Nat, i = k ∧ k < l.length ∧ m = l.set k x := by
  unfold upd at h
  split at h
  · rename_i h0; cases h; exact ⟨i.toNat, by omega, by omega, rfl⟩
  · cases h
theorem app_some {α : Type} {by' : Nat} {l m r : List α} (h : app by' l m = some r) : (l.length + m.length) * by' ≤ 140737488355328 ∧ r = l ++ m := by
  unfold app at h
  split at h
  · rename_i h0; cases h; exact ⟨h0, rfl⟩
  · cases h
theorem mk_some {α : Type} {by' : Nat} {n c : Int} {z : α} {r : List α} (h : mk by' n c z = some r) : ∃ m k : Nat, n = m ∧ c = k ∧ m ≤ k ∧ by' * k ≤ 140737488355328 ∧ k ≤ 4611686018427387904 ∧ r = List.replicate m z := by
  unfold mk at h
  split at h
  · rename_i h0
    cases h
    obtain ⟨h1, h2, h3, h4⟩ := h0
    refine ⟨n.toNat, c.toNat, by omega, by omega, by omega, ?_, by omega, rfl⟩
    have : ((by' * c.toNat : Nat) : Int) = by' * c := by rw [Int.natCast_mul]; congr 1; omega
    omega
  · cases h
theorem sub_some {α : Type} {l r : List α} {lo hi : Int} (h : sub l lo hi = some r) : ∃ m k : Nat, lo = m ∧ hi = k ∧ m ≤ k ∧ k ≤ l.length ∧ r = (l.drop m).take (k - m) := by
  unfold sub at h
  split at h
  · rename_i h0; cases h; exact ⟨lo.toNat, hi.toNat, by omega, by omega, by omega, by omega, rfl⟩
  · cases h

theorem cpy_some {α : Type} {l m r : List α} (h : cpy l m = some r) : m.length = l.length ∧ r = m := by
  unfold cpy at h
  split at h
  · rename_i h0; cases h; exact ⟨h0, rfl⟩
  · cases h
theorem cpy_len {α : Type} {l m r : List α} (h : cpy l m = some r) : r.length = l.length := by obtain ⟨h1, rfl⟩ := cpy_some h; exact h1
theorem get_lt {α : Type} {l : List α} {k : Nat} {x : α} (h : l[k]? = some x) : k < l.length := (List.getElem?_eq_some_iff.1 h).1
theorem get_some {α : Type} {l : List α} {k : Nat} (h : k < l.length) : l[k]? = some l[k] := List.getElem?_eq_getElem h
theorem quo_some {w : Int → Int} {m n r : Int} (h : quo w m n = some r) : n ≠ 0 ∧ w (m.tdiv n) = r := by
  unfold quo at h
  split at h
  · rename_i h0; cases h; exact ⟨h0, rfl⟩
  · cases h
theorem rem_some {m n r : Int} (h : rem m n = some r) : n ≠ 0 ∧ m.tmod n = r := by
  unfold rem at h
  split at h
  · rename_i h0; cases h; exact ⟨h0, rfl⟩
  · cases h
theorem udiv_some {m n r : BitVec 64} (h : udiv m n = some r) : n ≠ 0#64 ∧ r = m / n := by
  unfold udiv at h
  split at h
  · rename_i h0; cases h; exact ⟨h0, rfl⟩
  · cases h
theorem umod_some {m n r : BitVec 64} (h : umod m n = some r) : n ≠ 0#64 ∧ r = m % n := by
  unfold umod at h
  split at h
  · rename_i h0; cases h; exact ⟨h0, rfl⟩
  · cases h
theorem shl_some {a r : BitVec 64} {n : Int} (h : shl a n = some r) : 0 ≤ n ∧ r = a <<< n.toNat := by
  unfold shl at h
  split at h
  · rename_i h0; cases h; exact ⟨h0, rfl⟩
  · cases h
theorem shr_some {a r : BitVec 64} {n : Int} (h : shr a n = some r) : 0 ≤ n ∧ r = a >>> n.toNat := by
  unfold shr at h
  split at h
  · rename_i h0; cases h; exact ⟨h0, rfl⟩
  · cases h

/-! ### What is used to reason about loops -/
variable {σ α : Type} {b : σ → Option (σ ⊕ α)}

/-- Rounds one by one: after m of them the loop goes on from there. -/
theorem iter_go (S : Nat → σ) (m : Nat) (h : ∀ k, k < m → b (S k) = some (.inl (S (k + 1)))) (n : Nat) : iter b (m + n) (S 0) = iter b n (S m) := by
  induction m generalizing n with
  | zero => simp
  | succ m ih =>
    rw [show m + 1 + n = m + (n + 1) by omega, ih (fun k hk => h k (by omega)) (n + 1)]
    simp only [iter, h m (by omega)]

theorem loop_run (S : Nat → σ) (m : Nat) (r : α) (hm : m < FUEL) (h : ∀ k, k < m → b (S k) = some (.inl (S (k + 1)))) (hr : b (S m) = some (.inr r)) : loop b (S 0) = some r := by
  unfold loop
  rw [show FUEL = m + ((FUEL - m - 1) + 1) by omega, iter_go S m h]
  simp only [iter, hr]

/-- By an invariant and a measure: whatever the loop answers is good. -/
theorem loop_inv (I : σ → Prop) (μ : σ → Nat) (G : α → Prop) {s : σ} (h0 : I s) (hμ : μ s < FUEL) (h : ∀ s, I s → (∃ s', b s = some (.inl s') ∧ I s' ∧ μ s' < μ s) ∨ (∃ r, b s = some (.inr r) ∧ G r)) : ∃ r, loop b s = some r ∧ G r := by
  have key : ∀ n s, I s → μ s < n → ∃ r, iter b n s = some r ∧ G r := by
    intro n
    induction n with
    | zero => intro s _ h; omega
    | succ n ih =>
      intro s hs hn
      rcases h s hs with ⟨s', h1, h2, h3⟩ | ⟨r, h1, h2⟩
      · simp only [iter, h1]; exact ih s' h2 (by omega)
      · simp only [iter, h1]; exact ⟨r, rfl, h2⟩
  exact key FUEL s h0 hμ

/-- By a family of states, with a measure. -/
theorem loop_fam {ι : Type} (S : ι → σ) (ok : ι → Prop) (μ : ι → Nat) (G : α → Prop) {i0 : ι} (h0 : ok i0) (hμ : μ i0 < FUEL)
    (h : ∀ i, ok i → (∃ i', ok i' ∧ μ i' < μ i ∧ b (S i) = some (.inl (S i'))) ∨ ∃ r, b (S i) = some (.inr r) ∧ G r) : ∃ r, loop b (S i0) = some r ∧ G r := by
  have key : ∀ n i, ok i → μ i < n → ∃ r, iter b n (S i) = some r ∧ G r := by
    intro n
    induction n with
    | zero => intro i _ h; omega
    | succ n ih =>
      intro i hi hn
      rcases h i hi with ⟨i', h1, h2, h3⟩ | ⟨r, h1, h2⟩
      · simp only [iter, h3]; exact ih i' h1 (by omega)
      · simp only [iter, h1]; exact ⟨r, rfl, h2⟩
  exact key FUEL i0 h0 hμ
end Go.Sh
end

section
/- Loops by their own rounds; functions that hand back what is their own. -/
namespace Go.Av
open Go.RowKit (Below)

section
variable {P : Program} {W0 : Base} {N : Nat} {st : St} {Q : Exit → St → Prop}

/-- A loop goes through the rounds that its plain function goes through. -/
theorem awp_iter {c : Code} {σ α : Type} (b : σ → Option (σ ⊕ α)) (S : σ → St) {s0 : σ} {r : α} (h : Sh.loop b s0 = some r) (hw : Weak W0 N st (S s0))
    (round : ∀ s o, b s = some o → (∀ x, o = .inr x → x = r) → AWP P W0 N c (S s) (Then (fun s1 => ∃ s', o = .inl s' ∧ Weak W0 N s1 (S s')) Q)) : AWP P W0 N (.loop c) st Q := by
  refine awp_loopS (σ := σ × Nat) (fun p => S p.1) (fun p => Sh.iter b p.2 p.1 = some r) (fun p => p.2) (s0, Sh.FUEL) h hw ?_
  rintro ⟨s, n⟩ hn
  cases n with
  | zero => cases hn
  | succ n =>
    simp only [Sh.iter] at hn
    cases hb : b s with
    | none => simp [hb] at hn
    | some o =>
      rw [hb] at hn
      refine (round s o hb (fun x hx => ?_)).mono fun e s1 h1 => ?_
      · subst hx; simpa using hn
      · cases e with
        | normal =>
          obtain ⟨s', rfl, h2⟩ := h1
          exact ⟨(s', n), hn, Nat.lt_succ_self n, h2⟩
        | _ => exact h1

/-! ### What a function hands back that is its own -/

/-- What is handed back: the callee's objects under the caller's next names. -/
inductive Shift (ok : AV → Prop) (n : Nat) : AV → AV → Prop
  | same (x : AV) : ok x → Shift ok n x x
  | view (id off len : Nat) : Shift ok n (.view id off len) (.view (n + id) off len)
  | ref (id i j : Nat) : Shift ok n (.ref id i j) (.ref (n + id) i j)
  | agg (cs cs' : List AV) : cs.length = cs'.length → (∀ (k : Nat) (x x' : AV), cs[k]? = some x → cs'[k]? = some x' → Shift ok n x x') → Shift ok n (.agg cs) (.agg cs')
  | tuple (cs cs' : List AV) : cs.length = cs'.length → (∀ (k : Nat) (x x' : AV), cs[k]? = some x → cs'[k]? = some x' → Shift ok n x x') → Shift ok n (.tuple cs) (.tuple cs')
  | clo (fn : Fn) (cs cs' : List AV) : cs.length = cs'.length → (∀ (k : Nat) (x x' : AV), cs[k]? = some x → cs'[k]? = some x' → Shift ok n x x') → Shift ok n (.clo fn cs) (.clo fn cs')
  | ifc (t : TypeId) (x x' : AV) : Shift ok n x x' → Shift ok n (.ifc t x) (.ifc t x')

structure ShiftL (ok : AV → Prop) (n : Nat) (es es' : List AV) : Prop where
  len : es.length = es'.length
  see : ∀ (k : Nat) (e e' : AV), es[k]? = some e → es'[k]? = some e' → e.flat.length = e'.flat.length ∧ ∀ (j : Nat) (x x' : AV), e.flat[j]? = some x → e'.flat[j]? = some x' → Shift ok n x x'

def Joined (ok : AV → Prop) (n : Nat) : List (Nat × (Nat × List AV)) → List (Nat × (Nat × List AV)) → Prop
  | [], [] => True
  | (i, (s, es)) :: l, (j, (s', es')) :: l' => j = n + i ∧ s = s' ∧ ShiftL ok n es es' ∧ Joined ok n l l'
  | _, _ => False

theorem ShiftL.same {ok : AV → Prop} {n : Nat} {es : List AV} (h : ∀ e ∈ es, ∀ x ∈ e.flat, ok x) : ShiftL ok n es es :=
  ⟨rfl, fun k e e' h1 h2 => by
    rw [h1] at h2; cases h2
    exact ⟨rfl, fun j x x' h3 h4 => by rw [h3] at h4; cases h4; exact .same x (h e (List.mem_of_getElem? h1) x (List.mem_of_getElem? h3))⟩⟩

theorem Joined.at {ok : AV → Prop} {n : Nat} : ∀ {l l' : List (Nat × (Nat × List AV))}, Joined ok n l l' → ∀ {k s : Nat} {es' : List AV}, lk l' k = some (s, es') → ∃ i es, k = n + i ∧ lk l i = some (s, es) ∧ ShiftL ok n es es'
  | [], [], _, _, _, _, h => by cases h
  | (i, (s, es)) :: l, (j, (s', es')) :: l', h, k, q, es2, hk => by
    obtain ⟨rfl, rfl, h1, h2⟩ := h
    simp only [lk] at hk
    split at hk
    · rename_i e; subst e; cases hk
      exact ⟨i, es, rfl, by simp [lk], h1⟩
    · rename_i e
      obtain ⟨i', es3, rfl, h3, h4⟩ := Joined.at h2 hk
      refine ⟨i', es3, rfl, ?_, h4⟩
      simp only [lk]
      rw [if_neg (by omega)]; exact h3
  | [], _ :: _, h, _, _, _, _ => h.elim
  | _ :: _, [], h, _, _, _, _ => h.elim

theorem lk_append {α : Type} (l1 l2 : List (Nat × α)) (k : Nat) : lk (l1 ++ l2) k = match lk l1 k with | some x => some x | none => lk l2 k := by
  induction l1 with
  | nil => rfl
  | cons p l ih =>
    obtain ⟨s, u⟩ := p
    simp only [List.cons_append, lk]
    split <;> simp [*]

/-- What a function does that only reads what it is given: it hands back what nobody else has, objects and all. -/
structure Fun2 (P : Program) (W0 : World) (f : FuncId) (xs : List AV) (r : AV) (Hr : Heap) : Prop where
  call : Callable P f
  runs : ∀ (C : Ctx) (vals : Array Value), Inv (.of W0) C → C.H = .empty → C.dfs = [] → vals.size = xs.length → (∀ (k : Nat) (x : AV), xs[k]? = some x → Rep C x (vals.getD k undef)) →
    Calls P f vals C.w (fun e w' => ∃ v C', e = .returned v ∧ C'.w = w' ∧ Ext C C' ∧ Inv (.of W0) C' ∧ C'.H = Hr ∧ Rep C' r v)

variable {C C1 : Ctx}

/-- The caller's context behind the call. -/
def Ctx.join (C C1 : Ctx) (objs' : List (Nat × (Nat × List AV))) : Ctx :=
  { w := C1.w, H := { next := C.H.next + C1.H.next, objs := C.H.objs ++ objs', lps := C.H.lps }, pl := fun k => if k < C.H.next then C.pl k else C1.pl (k - C.H.next), prot := C.prot, dfs := C.dfs, pin := C.pin }

theorem join_rules {ok : AV → Prop} {pr : Nat → Prop} {objs' : List (Nat × (Nat × List AV))} (hI : Inv W0 C) (hI1 : Inv (.of W0.w) C1) (hE : Ext (C.bare pr) C1) (hpr : ∀ b, C.prot b → pr b) (hJ : Joined ok C.H.next C1.H.objs objs')
    (hok : ∀ x v, ok x → Rep C1 x v → (∀ b, b < C1.w.heap.size → ¬ C1.bad b → ¬ (C.join C1 objs').bad b ∨ ∀ C' : Ctx, Rep C' x v) → Rep (C.join C1 objs') x v) (hbad : (∀ b, C.own b → pr b) ∨ ∀ x, ok x → Dry x) :
    Ext C (C.join C1 objs') ∧ Inv W0 (C.join C1 objs') ∧ ∀ x x' v, Shift ok C.H.next x x' → Rep C1 x v → Rep (C.join C1 objs') x' v := by
  have hkeep : ∀ b, b < C.w.heap.size → C1.w.heap[b]? = C.w.heap[b]? := fun b hb => hE.keep b hb (bare_own _ b)
  have hnew : ∀ b, C1.own b → C.w.heap.size ≤ b := fun b hb => by
    rcases Nat.lt_or_ge b C.w.heap.size with h | h
    · exact absurd (hE.own b h hb) (bare_own _ b)
    · exact h
  have hprot1 : C1.prot = pr := hE.prot
  have hold : ∀ {k : Nat} {p : Nat × List AV}, lk C.H.objs k = some p → k < C.H.next := fun {k p} h => hI.fresh k p.2 (by simp [Heap.get, h])
  -- an object of the joined heap
  have getJ : ∀ {k s : Nat} {es' : List AV}, lk (C.H.objs ++ objs') k = some (s, es') → (lk C.H.objs k = some (s, es') ∧ k < C.H.next) ∨ ∃ i es, k = C.H.next + i ∧ lk C1.H.objs i = some (s, es) ∧ ShiftL ok C.H.next es es' := fun {k s es'} h => by
    rw [lk_append] at h
    cases hk : lk C.H.objs k with
    | some p => rw [hk] at h; simp only [Option.some.injEq] at h; subst h; exact .inl ⟨rfl, hold hk⟩
    | none => rw [hk] at h; exact .inr (hJ.at h)
  have plO : ∀ {k : Nat}, k < C.H.next → (C.join C1 objs').pl k = C.pl k := fun {k} h => by simp [Ctx.join, h]
  have plN : ∀ i, (C.join C1 objs').pl (C.H.next + i) = C1.pl i := fun i => by
    have h1 : ¬ C.H.next + i < C.H.next := by omega
    have h2 : C.H.next + i - C.H.next = i := by omega
    show (if C.H.next + i < C.H.next then _ else _) = _
    rw [if_neg h1, h2]
  have getG : ∀ {k : Nat} {es' : List AV}, (C.join C1 objs').H.get k = some es' → ∃ s, lk (C.H.objs ++ objs') k = some (s, es') := fun {k es'} h => by
    simp only [Ctx.join, Heap.get, Option.map_eq_some_iff] at h
    obtain ⟨⟨s, e⟩, h1, rfl⟩ := h
    exact ⟨s, h1⟩
  have ownJ : ∀ b, (C.join C1 objs').own b → C.own b ∨ C1.own b := by
    rintro b (⟨k, es', h1, h2, h3⟩ | h)
    · obtain ⟨s, h4⟩ := getG h1
      rcases getJ h4 with ⟨h5, h6⟩ | ⟨i, es, rfl, h5, _⟩
      · rw [plO h6] at h2 h3; exact .inl (.inl ⟨k, es', by simp [Heap.get, h5], h2, h3⟩)
      · rw [plN] at h2 h3; exact .inr (.inl ⟨i, es, by simp [Heap.get, h5], h2, h3⟩)
    · exact .inl (.inr h)
  have ext : Ext C (C.join C1 objs') := {
    below := hE.below
    keep := fun b hb _ => hkeep b hb
    own := fun b hb h => by
      rcases ownJ b h with h | h
      · exact h
      · have := hnew b h; omega
    next := Nat.le_add_right _ _
    id := fun k es' hk h => by
      obtain ⟨s, h4⟩ := getG h
      rcases getJ h4 with ⟨h5, h6⟩ | ⟨i, es, rfl, _, _⟩
      · exact ⟨⟨es', by simp [Heap.get, h5]⟩, plO h6⟩
      · omega
    prot := rfl
    dfs := rfl
    pin := rfl }
  have badJ : ∀ b, b < C1.w.heap.size → ¬ C1.bad b → ∀ (x : AV) (v : Value), ok x → Rep C1 x v → ¬ (C.join C1 objs').bad b ∨ ∀ C' : Ctx, Rep C' x v := fun b _ hb x v hx hr => by
    rcases hbad with h | h
    · left
      rintro (h1 | h1)
      · rcases ownJ b h1 with h2 | h2
        · exact hb (.inr (by rw [hprot1]; exact h b h2))
        · exact hb (.inl h2)
      · exact hb (.inr (by rw [hprot1]; exact hpr b h1))
    · right; intro C'; exact (h x hx).rep hr
  have repJ : ∀ x x' v, Shift ok C.H.next x x' → Rep C1 x v → Rep (C.join C1 objs') x' v := by
    intro x x' v hs
    induction hs generalizing v with
    | same x hx => intro h; exact hok x v hx h (fun b hb hn => badJ b hb hn x v hx h)
    | view id off len =>
      intro h
      match h with
      | .view _ _ _ _ h1 h2 h3 =>
      refine .view _ _ _ _ (by show C.H.next + id < C.H.next + C1.H.next; omega) (fun es' he => ?_) h3
      obtain ⟨s, h4⟩ := getG he
      rw [plN]
      rcases getJ h4 with ⟨h5, h6⟩ | ⟨i, es, h5, h6, _⟩
      · omega
      · have : i = id := by omega
        subst this; exact h2 es (by simp [Heap.get, h6])
    | ref id i j =>
      intro h
      match h with
      | .ref _ _ _ _ h1 h2 h3 =>
      refine .ref _ _ _ _ (by show C.H.next + id < C.H.next + C1.H.next; omega) (fun es' he => ?_) h3
      obtain ⟨s, h4⟩ := getG he
      rw [plN]
      rcases getJ h4 with ⟨h5, h6⟩ | ⟨i, es, h5, h6, _⟩
      · omega
      · have : i = id := by omega
        subst this; exact h2 es (by simp [Heap.get, h6])
    | agg cs cs' hl _ ih =>
      intro h
      match h with
      | .agg _ vs h1 h2 h3 =>
      refine .agg cs' vs (h1.trans hl) h2 (fun k x' hx' => ?_)
      have hk : k < cs.length := by rw [hl]; exact (List.getElem?_eq_some_iff.1 hx').1
      exact ih k cs[k] x' (List.getElem?_eq_getElem hk) hx' _ (h3 k _ (List.getElem?_eq_getElem hk))
    | tuple cs cs' hl _ ih =>
      intro h
      match h with
      | .tuple _ vs h1 h3 =>
      refine .tuple cs' vs (h1.trans hl) (fun k x' hx' => ?_)
      have hk : k < cs.length := by rw [hl]; exact (List.getElem?_eq_some_iff.1 hx').1
      exact ih k cs[k] x' (List.getElem?_eq_getElem hk) hx' _ (h3 k _ (List.getElem?_eq_getElem hk))
    | clo fn cs cs' hl _ ih =>
      intro h
      match h with
      | .clo _ _ vs h1 h3 =>
      refine .clo fn cs' vs (h1.trans hl) (fun k x' hx' => ?_)
      have hk : k < cs.length := by rw [hl]; exact (List.getElem?_eq_some_iff.1 hx').1
      exact ih k cs[k] x' (List.getElem?_eq_getElem hk) hx' _ (h3 k _ (List.getElem?_eq_getElem hk))
    | ifc t x x' _ ih =>
      intro h
      match h with
      | .ifc _ _ v h1 => exact .ifc t x' v (ih v h1)
  refine ⟨ext, ?_, repJ⟩
  have obj1 : ∀ {i s : Nat} {es es' : List AV}, lk C1.H.objs i = some (s, es) → ShiftL ok C.H.next es es' → (C1.pl i).nil = false → ObjOK (C.join C1 objs') (C1.pl i) es' := fun {i s es es'} h hS hn => by
    have hO := hI1.obj i es (by simp [Heap.get, h]) hn
    have back : ∀ {q : Nat} {e' : AV}, es'[q]? = some e' → ∃ e, es[q]? = some e ∧ e.flat.length = e'.flat.length ∧ ∀ (j : Nat) (x x' : AV), e.flat[j]? = some x → e'.flat[j]? = some x' → Shift ok C.H.next x x' := fun {q e'} hq => by
      have hk : q < es.length := by rw [hS.len]; exact (List.getElem?_eq_some_iff.1 hq).1
      exact ⟨es[q], List.getElem?_eq_getElem hk, hS.see q _ e' (List.getElem?_eq_getElem hk) hq⟩
    refine ⟨hO.n.trans hS.len, hO.cap, hO.blk, hO.one, fun q e' he' => ?_, fun q j e' x' v he' hx' hv => ?_⟩
    · obtain ⟨e, h1, h2, _⟩ := back he'
      rw [← h2]; exact hO.flat q e h1
    · obtain ⟨e, h1, h2, h3⟩ := back he'
      have hj : j < e.flat.length := by rw [h2]; exact (List.getElem?_eq_some_iff.1 hx').1
      exact repJ _ _ _ (h3 j _ x' (List.getElem?_eq_getElem hj) hx') (hO.cell q j e _ v h1 (List.getElem?_eq_getElem hj) hv)
  exact {
    fresh := fun k es' h => by
      obtain ⟨s, h4⟩ := getG h
      show k < C.H.next + C1.H.next
      rcases getJ h4 with ⟨h5, h6⟩ | ⟨i, es, rfl, h5, _⟩
      · omega
      · have := hI1.fresh i es (by simp [Heap.get, h5]); omega
    nil := fun k es' h hn => by
      obtain ⟨s, h4⟩ := getG h
      rcases getJ h4 with ⟨h5, h6⟩ | ⟨i, es, rfl, h5, h6⟩
      · rw [plO h6] at hn; exact hI.nil k es' (by simp [Heap.get, h5]) hn
      · rw [plN] at hn
        have := hI1.nil i es (by simp [Heap.get, h5]) hn
        subst this
        exact List.eq_nil_of_length_eq_zero h6.len.symm
    obj := fun k es' h hn => by
      obtain ⟨s, h4⟩ := getG h
      rcases getJ h4 with ⟨h5, h6⟩ | ⟨i, es, rfl, h5, h6⟩
      · rw [plO h6] at hn ⊢
        have hg : C.H.get k = some es' := by simp [Heap.get, h5]
        exact (hI.obj k es' hg hn).ext ext (hkeep _ (hI.lt hg hn))
      · rw [plN] at hn ⊢; exact obj1 h5 h6 hn
    sep := fun k1 k2 e1 e2 h1 h2 n1 n2 hb => by
      obtain ⟨s1, g1⟩ := getG h1
      obtain ⟨s2, g2⟩ := getG h2
      rcases getJ g1 with ⟨a1, a2⟩ | ⟨i1, es1, rfl, a1, _⟩ <;> rcases getJ g2 with ⟨b1, b2⟩ | ⟨i2, es2, rfl, b1, _⟩
      · rw [plO a2] at n1 hb; rw [plO b2] at n2 hb
        exact hI.sep k1 k2 e1 e2 (by simp [Heap.get, a1]) (by simp [Heap.get, b1]) n1 n2 hb
      · rw [plO a2] at n1 hb; rw [plN] at n2 hb
        have h3 := hI.lt (id := k1) (es := e1) (by simp [Heap.get, a1]) n1
        have h4 := hnew (C1.pl i2).blk (.inl ⟨i2, es2, by simp [Heap.get, b1], n2, rfl⟩)
        omega
      · rw [plN] at n1 hb; rw [plO b2] at n2 hb
        have h3 := hI.lt (id := k2) (es := e2) (by simp [Heap.get, b1]) n2
        have h4 := hnew (C1.pl i1).blk (.inl ⟨i1, es1, by simp [Heap.get, a1], n1, rfl⟩)
        omega
      · rw [plN] at n1 n2 hb; rw [plN] at hb
        have := hI1.sep i1 i2 es1 es2 (by simp [Heap.get, a1]) (by simp [Heap.get, b1]) n1 n2 hb
        omega
    prot := fun k es' h hn => by
      obtain ⟨s, h4⟩ := getG h
      rcases getJ h4 with ⟨h5, h6⟩ | ⟨i, es, rfl, h5, h6⟩
      · rw [plO h6] at hn ⊢; exact hI.prot k es' (by simp [Heap.get, h5]) hn
      · rw [plN] at hn ⊢
        have := hI1.prot i es (by simp [Heap.get, h5]) hn
        rw [hprot1] at this
        exact fun hp => this (hpr _ hp)
    szok := fun k s h hn => by
      simp only [Ctx.join, Heap.sz, Option.map_eq_some_iff] at h
      obtain ⟨⟨s', es'⟩, h1, rfl⟩ := h
      rcases getJ h1 with ⟨h5, h6⟩ | ⟨i, es, rfl, h5, _⟩
      · rw [plO h6] at hn ⊢; exact hI.szok k _ (by simp [Heap.sz, h5]) hn
      · rw [plN] at hn ⊢; exact hI1.szok i _ (by simp [Heap.sz, h5]) hn
    protlt := fun b hb => Nat.lt_of_lt_of_le (hI.protlt b hb) hE.below.size
    protge := hI.protge
    size := hI1.size
    glob := fun b hb => ⟨(hI1.glob b hb).1, fun ho => by
      rcases ownJ b ho with h | h
      · exact (hI.glob b hb).2 h
      · exact (hI1.glob b hb).2 h⟩
    lps := fun l r h => by
      have h1 := hI.lps l r h
      rw [← h1]; exact hkeep l (Array.getElem?_eq_some_iff.1 h1).1
    dfs := fun d h => by
      have h1 := hI.dfs d h
      rw [← h1]; exact hkeep d (Array.getElem?_eq_some_iff.1 h1).1
    dnd := hI.dnd
    rod := hI.rod
    spprot := hI.spprot
    pinB := hI.pinB
    pinlt := Nat.le_trans hI.pinlt (Nat.le_add_right _ _)
    gh := W0.st C _ ext.mem hI.pinlt hI.gh }

variable {fr : Fr} {a : Act} {H : Heap} {o : Oper}

theorem Shift.mono {ok ok' : AV → Prop} {n : Nat} {x x' : AV} (h : Shift ok n x x') (hk : ∀ x, ok x → ok' x) : Shift ok' n x x' := by
  induction h with
  | same x hx => exact .same x (hk x hx)
  | view id off len => exact .view id off len
  | ref id i j => exact .ref id i j
  | agg cs cs' hl _ ih => exact .agg cs cs' hl ih
  | tuple cs cs' hl _ ih => exact .tuple cs cs' hl ih
  | clo fn cs cs' hl _ ih => exact .clo fn cs cs' hl ih
  | ifc t x x' _ ih => exact .ifc t x x' ih

/-- The arguments, as they are seen. -/
theorem args_rep {args : Array Operand} {ys : List AV} (hop : ∀ y ∈ args.toList, RepO C fr a y) (hys : args.toList.mapM (evalA fr) = some ys) : (args.map a.eval).size = ys.length ∧ ∀ t x, lk (argsFr 0 ys) t = some x → Rep C x ((args.map a.eval).getD t undef) := by
  obtain ⟨m1, m2⟩ := mapM_eval args.toList ys hys
  refine ⟨by simpa using m1.symm, fun t x hx => ?_⟩
  obtain ⟨_, h2⟩ := lk_argsFr ys 0 t x hx
  rw [Nat.sub_zero] at h2
  obtain ⟨y, g1, g2⟩ := m2 t x h2
  have hy : args[t]? = some y := by simpa using g1
  have hlt : t < (args.map a.eval).size := by have := (Array.getElem?_eq_some_iff.1 hy).1; simpa using this
  have e : (args.map a.eval).getD t undef = a.eval y := by
    have := getD_of hlt
    rw [Array.getElem?_map, hy] at this
    exact (Option.some.inj this).symm
  rw [e]
  exact rep_eval (hop y (List.mem_of_getElem? g1)) g2

/-- What names the same objects, at the same places, of which no more are owned. -/
theorem Rep.sub {C' : Ctx} {x : AV} {v : Value} (h : Rep C x v) (hw : C'.w = C.w) (hn : C.H.next ≤ C'.H.next) (hg : ∀ id es, id < C.H.next → C'.H.get id = some es → ∃ es0, C.H.get id = some es0) (hpl : ∀ id, id < C.H.next → C'.pl id = C.pl id) (hb : ∀ b, C'.bad b → C.bad b) : Rep C' x v := by
  induction h with
  | any v => exact .any v
  | imm v hv => exact .imm v hv
  | slNil a cap => exact .slNil a cap
  | sl es b off sz cap c hlt hbad hc hf hcell _ ih => exact .sl es b off sz cap c (by rw [hw]; exact hlt) (fun h => hbad (hb b h)) hc hf (fun i j e x he hx => by rw [hw]; exact hcell i j e x he hx) ih
  | clipNil a => exact .clipNil a
  | clip es b off sz c hlt hbad hf hcell _ ih => exact .clip es b off sz c (by rw [hw]; exact hlt) (fun h => hbad (hb b h)) hf (fun i j e x he hx => by rw [hw]; exact hcell i j e x he hx) ih
  | view id off len v hid hs h1 =>
    refine .view id off len v (by omega) (fun es he => ?_) h1
    obtain ⟨es0, h0⟩ := hg id es hid he
    rw [hpl id hid]; exact hs es0 h0
  | ref id i j v hid hs h1 =>
    refine .ref id i j v (by omega) (fun es he => ?_) h1
    obtain ⟨es0, h0⟩ := hg id es hid he
    rw [hpl id hid]; exact hs es0 h0
  | pp fl j b off c hlt hbad hcell _ ih => exact .pp fl j b off c (by rw [hw]; exact hlt) (fun h => hbad (hb b h)) (fun k x hx => by rw [hw]; exact hcell k x hx) ih
  | agg cs vs hs h1 _ ih => exact .agg cs vs hs h1 ih
  | tuple cs vs hs _ ih => exact .tuple cs vs hs ih
  | ifc t x v _ ih => exact .ifc t x v ih
  | clo fn caps vs hs _ ih => exact .clo fn caps vs hs ih

/-- The same objects, without records, and without what has been put off. -/
def Ctx.plain (C : Ctx) : Ctx := { C with H := { C.H with lps := [] }, dfs := [], pin := 0 }

theorem plain_own {b : Nat} (h : C.plain.own b) : C.own b := by
  rcases h with ⟨id, es, h1, h2, h3⟩ | ⟨r, h⟩ | h
  · exact .inl ⟨id, es, h1, h2, h3⟩
  · simp [Ctx.plain, lk] at h
  · simp [Ctx.plain] at h

theorem Rep.plain {x : AV} {v : Value} (h : Rep C x v) : Rep C.plain x v :=
  h.sub rfl (Nat.le_refl _) (fun id es _ h => ⟨es, h⟩) (fun _ _ => rfl) (fun b h => h.imp plain_own id)

theorem Inv.plain (hI : Inv W0 C) : Inv (.of W0.w) C.plain where
  fresh := hI.fresh
  nil := hI.nil
  obj id es h hn := by
    have hO := hI.obj id es h hn
    exact ⟨hO.n, hO.cap, hO.blk, hO.one, hO.flat, fun i j e x v h1 h2 h3 => (hO.cell i j e x v h1 h2 h3).plain⟩
  sep := hI.sep
  prot := hI.prot
  szok := hI.szok
  protlt := hI.protlt
  protge := hI.protge
  size := hI.size
  glob b h := ⟨(hI.glob b h).1, fun ho => (hI.glob b h).2 (plain_own ho)⟩
  lps l r h := by simp [Ctx.plain, lk] at h
  dfs d h := by simp [Ctx.plain] at h
  dnd := .nil
  rod := fun _ _ => rfl
  spprot b h := by
    rcases h with ⟨r, h⟩ | h
    · simp [Ctx.plain, lk] at h
    · simp [Ctx.plain] at h
  pinB := rfl
  pinlt := Nat.zero_le _
  gh := trivial

theorem rel_args {vals : Array Value} {xs : List AV} {n : Nat} {H : Heap} (h : Rel W0 n (lk (argsFr 0 xs)) H C { tmps := vals, defers := [] }) : ∀ (k : Nat) (x : AV), xs[k]? = some x → Rep C x (vals.getD k undef) := by
  have key : ∀ (xs : List AV) (q k : Nat) (x : AV), xs[k]? = some x → lk (argsFr q xs) (q + k) = some x := by
    intro xs
    induction xs with
    | nil => intro q k x h; simp at h
    | cons y ys ih =>
      intro q k x hk
      cases k with
      | zero => simp at hk; subst hk; simp [argsFr, lk]
      | succ k =>
        simp at hk
        simp only [argsFr, lk]
        rw [if_neg (by omega)]
        have := ih (q + 1) k x hk
        rwa [show q + 1 + k = q + (k + 1) by omega] at this
  intro k x hx
  have := key xs 0 k x hx
  rw [Nat.zero_add] at this
  exact h.rep k x this

theorem rel_bare {vals : Array Value} {ys : List AV} {pr : Nat → Prop} (hsz : vals.size = ys.length) (h : ∀ t x, lk (argsFr 0 ys) t = some x → Rep C x (vals.getD t undef)) (hno : ∀ y ∈ ys, NoId y) (hI1 : Inv (.of W0.w) (C.bare pr)) (hp : ∀ b, ¬ C.bad b → ¬ pr b) : Rel (.of W0.w) ys.length (lk (argsFr 0 ys)) .empty (C.bare pr) { tmps := vals, defers := [] } :=
  ⟨rfl, hI1, hsz, rfl, fun t x hx => by
    obtain ⟨_, h2⟩ := lk_argsFr ys 0 t x hx
    exact (h t x hx).bare (hno x (List.mem_of_getElem? h2)) hp⟩
theorem rel_plain {vals : Array Value} {ys : List AV} (hI : Inv W0 C) (hsz : vals.size = ys.length) (h : ∀ t x, lk (argsFr 0 ys) t = some x → Rep C x (vals.getD t undef)) : Rel (.of W0.w) ys.length (lk (argsFr 0 ys)) { C.H with lps := [] } C.plain { tmps := vals, defers := [] } :=
  ⟨rfl, hI.plain, hsz, rfl, fun t x hx => (h t x hx).plain⟩

theorem dfs_nil {n : Nat} {f : Fr} {vals : Array Value} (h : Rel W0 n f H C { tmps := vals, defers := [] }) : C.dfs = [] := by
  have := h.defers
  cases hd : C.dfs with
  | nil => rfl
  | cons d l => simp [hd] at this

theorem call_ops {f : FuncId} {args : Array Operand} {tys : Array TypeId} (ho : o.op = .call { callee := .value (.func f), args := args, argTypes := tys }) (hop : ∀ x ∈ o.op.operands, RepO C fr a x) : ∀ y ∈ args.toList, RepO C fr a y := fun y hy =>
  hop y (by rw [ho]; simp [Op.operands, Call.operands]; exact .inr (by simpa using hy))

/-- An operation calls a function, with these arguments. -/
def Enters (P : Program) (o : Oper) (fr : Fr) (f : FuncId) (ys : List AV) : Prop :=
  ∀ (C : Ctx) (a : Act), (∀ x ∈ o.op.operands, RepO C fr a x) → ∃ vals : Array Value, (∀ w, (execOp a.eval o).run P w = .ok (.enter f vals) w) ∧ vals.size = ys.length ∧ ∀ t x, lk (argsFr 0 ys) t = some x → Rep C x (vals.getD t undef)

theorem Enters.func {f : FuncId} {args : Array Operand} {tys : Array TypeId} {ys : List AV} (ho : o.op = .call { callee := .value (.func f), args := args, argTypes := tys }) (hys : args.toList.mapM (evalA fr) = some ys) (hc : Callable P f) : Enters P o fr f ys := fun C a hop =>
  ⟨args.map a.eval, fun w => resolve_func ho hc w, args_rep (call_ops ho hop) hys⟩

theorem inv_bare2 (hI : Inv W0 C) : Inv (.of W0.w) (C.bare (fun b => C.prot b ∨ C.own b)) := hI.bare (fun b hb => by
    rcases hb with h | h
    · exact hI.protlt b h
    · exact hI.own_lt h) (fun b hb => by
    rcases hb with h | h
    · exact hI.protge b h
    · exact hI.own_ge h)

/-- A call of what only reads; the arguments seen as the function wants them. -/
theorem aop_callNE {f : FuncId} {ys xs : List AV} {r : AV} (he : Enters P o fr f ys) (hw : Weak (.of W0.w) ys.length ⟨argsFr 0 ys, .empty⟩ ⟨argsFr 0 xs, .empty⟩) (hl : xs.length = ys.length) (hno : ∀ y ∈ ys, NoId y)
    (hf : Fun1 P W0.w f xs r) : AOp P W0 o fr H r H := by
  intro C a hI hH hop K Q hK
  obtain ⟨vals, hrun, hr0⟩ := he C a hop
  unfold Oper.wp
  rw [hrun, Oper.upon_enter]
  have hr1 := rel_bare (pr := fun b => C.prot b ∨ C.own b) hr0.1 hr0.2 hno (inv_bare2 hI) (fun b hb h => hb (h.elim .inr .inl))
  obtain ⟨C0, q1, q2, q3⟩ := hw _ _ hr1
  have hw0 : C0.w = C.w := q1
  have hsz : vals.size = xs.length := by rw [hl]; exact q3.size
  have := hf.runs C0 vals q3.inv q3.heap (dfs_nil q3) hsz (rel_args q3)
  rw [hw0] at this
  refine this.mono ?_
  rintro e w' ⟨v, C1, rfl, rfl, hE, hI', hr⟩
  have hn0 : ∀ b, ¬ C0.own b := own_none q3.heap (dfs_nil q3)
  have hB' : RowKit.Below C.w.heap.size C.w C1.w := by have := below_of_ext hE hn0; rwa [hw0] at this
  have hp1 : C1.prot = fun b => C.prot b ∨ C.own b := by rw [hE.prot]; exact q2.prot
  refine hK v (C.inW C1.w) (ext_of_block hB') (hI.inW hB') hH (hr.move hf.noid (Nat.le_refl _) (fun b hb hn => ⟨rfl, fun h => hn ?_⟩))
  refine .inr ?_
  rw [hp1]
  rcases h with h | h
  · exact .inr h
  · exact .inl h
theorem aop_callN {f : FuncId} {args : Array Operand} {tys : Array TypeId} {ys xs : List AV} {r : AV} (ho : o.op = .call { callee := .value (.func f), args := args, argTypes := tys }) (hys : args.toList.mapM (evalA fr) = some ys) (hw : Weak (.of W0.w) ys.length ⟨argsFr 0 ys, .empty⟩ ⟨argsFr 0 xs, .empty⟩) (hl : xs.length = ys.length) (hno : ∀ y ∈ ys, NoId y)
    (hf : Fun1 P W0.w f xs r) : AOp P W0 o fr H r H :=
  aop_callNE (.func ho hys hf.call) hw hl hno hf

/-- The same, with what is lent to it: what it hands back lies in no memory. -/
theorem aop_callLE {f : FuncId} {ys xs : List AV} {r : AV} (he : Enters P o fr f ys) (hw : Weak (.of W0.w) ys.length ⟨argsFr 0 ys, { H with lps := [] }⟩ ⟨argsFr 0 xs, .empty⟩) (hl : xs.length = ys.length)
    (hf : Fun1 P W0.w f xs r) (hd : Dry r) : AOp P W0 o fr H r H := by
  intro C a hI hH hop K Q hK
  subst hH
  obtain ⟨vals, hrun, hr0⟩ := he C a hop
  unfold Oper.wp
  rw [hrun, Oper.upon_enter]
  obtain ⟨C0, q1, q2, q3⟩ := hw _ _ (rel_plain hI hr0.1 hr0.2)
  have hw0 : C0.w = C.w := q1
  have hsz : vals.size = xs.length := by rw [hl]; exact q3.size
  have := hf.runs C0 vals q3.inv q3.heap (dfs_nil q3) hsz (rel_args q3)
  rw [hw0] at this
  refine this.mono ?_
  rintro e w' ⟨v, C1, rfl, rfl, hE, hI', hr⟩
  have hn0 : ∀ b, ¬ C0.own b := own_none q3.heap (dfs_nil q3)
  have hB' : RowKit.Below C.w.heap.size C.w C1.w := by have := below_of_ext hE hn0; rwa [hw0] at this
  exact hK v (C.inW C1.w) (ext_of_block hB') (hI.inW hB') rfl (hd.rep hr)
theorem aop_callL {f : FuncId} {args : Array Operand} {tys : Array TypeId} {ys xs : List AV} {r : AV} (ho : o.op = .call { callee := .value (.func f), args := args, argTypes := tys }) (hys : args.toList.mapM (evalA fr) = some ys) (hw : Weak (.of W0.w) ys.length ⟨argsFr 0 ys, { H with lps := [] }⟩ ⟨argsFr 0 xs, .empty⟩) (hl : xs.length = ys.length)
    (hf : Fun1 P W0.w f xs r) (hd : Dry r) : AOp P W0 o fr H r H :=
  aop_callLE (.func ho hys hf.call) hw hl hf hd

def ShiftAll (ok : AV → Prop) (n : Nat) : List AV → List AV → Prop
  | [], [] => True
  | x :: l, y :: m => Shift ok n x y ∧ ShiftAll ok n l m
  | _, _ => False

theorem ShiftAll.spec {ok : AV → Prop} {n : Nat} : ∀ {l m : List AV}, ShiftAll ok n l m → l.length = m.length ∧ ∀ (k : Nat) (x x' : AV), l[k]? = some x → m[k]? = some x' → Shift ok n x x'
  | [], [], _ => ⟨rfl, fun k x x' h => by simp at h⟩
  | x :: l, y :: m, h => by
    obtain ⟨h1, h2⟩ := ShiftAll.spec h.2
    refine ⟨by simp [h1], fun k u v hu hv => ?_⟩
    cases k with
    | zero => simp at hu hv; subst hu hv; exact h.1
    | succ k => simp at hu hv; exact h2 k u v hu hv
  | [], _ :: _, h => h.elim
  | _ :: _, [], h => h.elim
theorem Shift.ag {ok : AV → Prop} {n : Nat} {cs cs' : List AV} (h : ShiftAll ok n cs cs') : Shift ok n (.agg cs) (.agg cs') := .agg cs cs' h.spec.1 h.spec.2
theorem Shift.tp {ok : AV → Prop} {n : Nat} {cs cs' : List AV} (h : ShiftAll ok n cs cs') : Shift ok n (.tuple cs) (.tuple cs') := .tuple cs cs' h.spec.1 h.spec.2

/-- A context of what hands back its own, joined to the caller's: where the callee began without objects, at the caller's memory. -/
theorem ext_from {C0 : Ctx} {pr : Nat → Prop} (hw : C0.w = C.w) (hp : C0.prot = pr) (hd0 : C0.dfs = []) (hp0 : C0.pin = 0) (hn0 : ∀ b, ¬ C0.own b) (hE : Ext C0 C1) : Ext (C.bare pr) C1 where
  below := by have := hE.below; rw [hw] at this; exact this
  keep b hb _ := by have := hE.keep b (by rw [hw]; exact hb) (hn0 b); rw [this, hw]; rfl
  own b hb h := absurd (hE.own b (by rw [hw]; exact hb) h) (hn0 b)
  next := Nat.zero_le _
  id i es hi _ := absurd hi (Nat.not_lt_zero _)
  prot := hE.prot.trans hp
  dfs := hE.dfs.trans hd0
  pin := hE.pin.trans hp0

/-- A call of what hands back what is its own. -/
theorem aop_call2NE {f : FuncId} {ys xs : List AV} {r : AV} {Hr : Heap} (r' : AV) (objs' : List (Nat × (Nat × List AV))) (he : Enters P o fr f ys) (hw : Weak (.of W0.w) ys.length ⟨argsFr 0 ys, .empty⟩ ⟨argsFr 0 xs, .empty⟩) (hl : xs.length = ys.length) (hno : ∀ y ∈ ys, NoId y)
    (hf : Fun2 P W0.w f xs r Hr) (hr : Shift NoId H.next r r') (hJ : Joined NoId H.next Hr.objs objs') : AOp P W0 o fr H r' { next := H.next + Hr.next, objs := H.objs ++ objs', lps := H.lps } := by
  intro C a hI hH hop K Q hK
  subst hH
  obtain ⟨vals, hrun, hr0⟩ := he C a hop
  unfold Oper.wp
  rw [hrun, Oper.upon_enter]
  have hr1 := rel_bare (pr := fun b => C.prot b ∨ C.own b) hr0.1 hr0.2 hno (inv_bare2 hI) (fun b hb h => hb (h.elim .inr .inl))
  obtain ⟨C0, q1, q2, q3⟩ := hw _ _ hr1
  have hw0 : C0.w = C.w := q1
  have hsz : vals.size = xs.length := by rw [hl]; exact q3.size
  have := hf.runs C0 vals q3.inv q3.heap (dfs_nil q3) hsz (rel_args q3)
  rw [hw0] at this
  refine this.mono ?_
  rintro e w' ⟨v, C1, rfl, rfl, hE0, hI', hH1, hr1⟩
  subst hH1
  have hn0 : ∀ b, ¬ C0.own b := own_none q3.heap (dfs_nil q3)
  have hE := ext_from (C := C) (pr := fun b => C.prot b ∨ C.own b) hw0 q2.prot (dfs_nil q3) q3.inv.pinB hn0 hE0
  obtain ⟨h1, h2, h3⟩ := join_rules (ok := NoId) (pr := fun b => C.prot b ∨ C.own b) hI hI' hE (fun b h => .inl h) hJ (fun x v hx hrx hb => by
    by_cases hd : ∃ b, b < C1.w.heap.size ∧ ¬ C1.bad b ∧ (C.join C1 objs').bad b
    · obtain ⟨b, q1, q2, q3⟩ := hd
      rcases hb b q1 q2 with h | h
      · exact absurd q3 h
      · exact h _
    · exact hrx.move hx (Nat.le_refl _) (fun b q1 q2 => ⟨rfl, fun q3 => hd ⟨b, q1, q2, q3⟩⟩)) (.inl fun b h => .inr h)
  exact hK v (C.join C1 objs') h1 h2 rfl (h3 r r' v hr hr1)
theorem aop_call2N {f : FuncId} {args : Array Operand} {tys : Array TypeId} {ys xs : List AV} {r : AV} {Hr : Heap} (r' : AV) (objs' : List (Nat × (Nat × List AV))) (ho : o.op = .call { callee := .value (.func f), args := args, argTypes := tys }) (hys : args.toList.mapM (evalA fr) = some ys) (hw : Weak (.of W0.w) ys.length ⟨argsFr 0 ys, .empty⟩ ⟨argsFr 0 xs, .empty⟩) (hl : xs.length = ys.length) (hno : ∀ y ∈ ys, NoId y)
    (hf : Fun2 P W0.w f xs r Hr) (hr : Shift NoId H.next r r') (hJ : Joined NoId H.next Hr.objs objs') : AOp P W0 o fr H r' { next := H.next + Hr.next, objs := H.objs ++ objs', lps := H.lps } :=
  aop_call2NE r' objs' (.func ho hys hf.call) hw hl hno hf hr hJ

/-- The same, with what is lent to it; what it hands back lies in no memory but its own. -/
theorem aop_call2LE {f : FuncId} {ys xs : List AV} {r : AV} {Hr : Heap} (r' : AV) (objs' : List (Nat × (Nat × List AV))) (he : Enters P o fr f ys) (hw : Weak (.of W0.w) ys.length ⟨argsFr 0 ys, { H with lps := [] }⟩ ⟨argsFr 0 xs, .empty⟩) (hl : xs.length = ys.length)
    (hf : Fun2 P W0.w f xs r Hr) (hr : Shift Dry H.next r r') (hJ : Joined Dry H.next Hr.objs objs') : AOp P W0 o fr H r' { next := H.next + Hr.next, objs := H.objs ++ objs', lps := H.lps } := by
  intro C a hI hH hop K Q hK
  subst hH
  obtain ⟨vals, hrun, hr0⟩ := he C a hop
  unfold Oper.wp
  rw [hrun, Oper.upon_enter]
  obtain ⟨C0, q1, q2, q3⟩ := hw _ _ (rel_plain hI hr0.1 hr0.2)
  have hw0 : C0.w = C.w := q1
  have hsz : vals.size = xs.length := by rw [hl]; exact q3.size
  have := hf.runs C0 vals q3.inv q3.heap (dfs_nil q3) hsz (rel_args q3)
  rw [hw0] at this
  refine this.mono ?_
  rintro e w' ⟨v, C1, rfl, rfl, hE0, hI', hH1, hr1⟩
  subst hH1
  have hn0 : ∀ b, ¬ C0.own b := own_none q3.heap (dfs_nil q3)
  have hE := ext_from (C := C) (pr := C.prot) hw0 q2.prot (dfs_nil q3) q3.inv.pinB hn0 hE0
  obtain ⟨h1, h2, h3⟩ := join_rules (ok := Dry) (pr := C.prot) hI hI' hE (fun b h => h) hJ (fun x v hx hrx _ => hx.rep hrx) (.inr fun x h => h)
  exact hK v (C.join C1 objs') h1 h2 rfl (h3 r r' v hr hr1)
theorem aop_call2L {f : FuncId} {args : Array Operand} {tys : Array TypeId} {ys xs : List AV} {r : AV} {Hr : Heap} (r' : AV) (objs' : List (Nat × (Nat × List AV))) (ho : o.op = .call { callee := .value (.func f), args := args, argTypes := tys }) (hys : args.toList.mapM (evalA fr) = some ys) (hw : Weak (.of W0.w) ys.length ⟨argsFr 0 ys, { H with lps := [] }⟩ ⟨argsFr 0 xs, .empty⟩) (hl : xs.length = ys.length)
    (hf : Fun2 P W0.w f xs r Hr) (hr : Shift Dry H.next r r') (hJ : Joined Dry H.next Hr.objs objs') : AOp P W0 o fr H r' { next := H.next + Hr.next, objs := H.objs ++ objs', lps := H.lps } :=
  aop_call2LE r' objs' (.func ho hys hf.call) hw hl hf hr hJ

/-! ### From a body to what the function does -/

theorem rel_one {W0 : Base} {C : Ctx} {q : AV} {v : Value} (hI : Inv W0 C) (hd : C.dfs = []) (h : Rep C q v) : Rel W0 1 (lk [(0, q)]) C.H C { tmps := #[v], defers := [] } :=
  ⟨rfl, hI, rfl, by simp [hd], fun t x hx => by
    simp only [lk] at hx
    split at hx
    · rename_i ht; subst ht; cases hx; exact h
    · cases hx⟩

/-- Where a function begins. -/
theorem rel_start {W0 : Base} {C : Ctx} {fn : Func} {xs : List AV} {vals : Array Value} {H : Heap} {N : Nat} (hI : Inv W0 C) (hH : C.H = H) (hd : C.dfs = []) (hN : fn.ntmps = N) (hxN : xs.length ≤ N) (hsz : vals.size = xs.length) (hrep : ∀ (k : Nat) (x : AV), xs[k]? = some x → Rep C x (vals.getD k undef)) :
    Rel W0 N (lk (argsFr 0 xs)) H C { tmps := vals ++ Array.replicate (fn.ntmps - vals.size) undef, defers := [] } := by
  refine ⟨hH, hI, by simp [hN]; omega, by simp [hd], fun t x hx => ?_⟩
  obtain ⟨_, h2⟩ := lk_argsFr xs 0 t x hx
  have hlt : t < vals.size := by rw [hsz]; exact (List.getElem?_eq_some_iff.1 h2).1
  have := hrep t x h2
  have e : (vals ++ Array.replicate (fn.ntmps - vals.size) undef).getD t undef = vals.getD t undef := by
    rw [Array.getD_eq_getD_getElem?, Array.getElem?_append_left hlt, ← Array.getD_eq_getD_getElem?]
  rw [e]; exact this

/-- What has been put off is taken up: no call was. -/
theorem drain {W0 : Base} {fn : Func} {tmps : Array Value} {R : Ending → World → Prop} {H : Heap} {Q : Ctx → Prop} (hQ : ∀ C2, Q C2 → C2.dfs = [] → LeavesInM Fence.wide 0 P fn tmps R [] .returning C2.w) :
    ∀ (l : List Nat) (C : Ctx), C.dfs = l → Inv W0 C → C.H = H → (∀ C2, C2.H = C.H → C2.pl = C.pl → Mem C C2 → Inv W0 C2 → C2.dfs = [] → (∀ x v, Rep C x v → Rep C2 x v) → Q C2) →
      LeavesInM Fence.wide 0 P fn tmps R (l.map fun d => { target := .collected d, args := #[] }) .returning C.w
  | [], C, hl, hI, hH, hq => hQ C (hq C rfl rfl (.refl C) hI hl (fun _ _ h => h)) hl
  | d :: l, C, hl, hI, hH, hq => by
    have hd : C.w.heap[d]? = some (.deferred (some [])) := hI.dfs d (by rw [hl]; exact List.mem_cons_self ..)
    have hdlt : d < C.w.heap.size := (Array.getElem?_eq_some_iff.1 hd).1
    have hnd : d ∉ l := by have := hI.dnd; rw [hl] at this; exact (List.nodup_cons.1 this).1
    refine ⟨by simp, .inl ⟨d, C.w.putObj d (.deferred none), rfl, run_takeDeferred hd, ?_⟩⟩
    -- the context behind it
    let C1 : Ctx := { C with w := C.w.putObj d (.deferred none), dfs := l }
    have hne : ∀ b, b ≠ d → C1.w.heap[b]? = C.w.heap[b]? := fun b hb => World.putObj_heap_other hb
    have hcell : ∀ {b : Nat} {arr : Array Value} {el : TypeId} {fz : Nat × Nat}, C.w.heap[b]? = some (.cells arr el fz) → b ≠ d := fun {b arr el fz} h hb => by
      subst hb; rw [hd] at h; cases h
    have hown : ∀ b, C1.own b → C.own b := by
      rintro b (⟨id, es, h1, h2, h3⟩ | h | h)
      · exact .inl ⟨id, es, h1, h2, h3⟩
      · exact .inr (.inl h)
      · exact .inr (.inr (by rw [hl]; exact List.mem_cons_of_mem _ h))
    have hM : Mem C C1 := ⟨⟨rfl, rfl, rfl, by simp [C1], fun k hk => absurd hk (Nat.not_lt_zero k)⟩, fun b _ hb => hne b (fun h => hb (.inr (.inr (by rw [h, hl]; exact List.mem_cons_self ..)))), fun b _ h => hown b h, rfl, rfl, fun hp => ⟨hp, fun k es' _ hg => ⟨⟨es', hg⟩, rfl⟩⟩⟩
    have hholds : ∀ {b o : Nat} {v : Value}, Holds C.w b o v → Holds C1.w b o v := fun {b o v} h => by
      refine ⟨?_, h.2⟩
      have hb : b ≠ d := fun hb => by
        subst hb
        have := h.1
        simp [World.cell?, hd] at this
      rw [World.cell?_of_block (w := C.w) (a := ⟨b, o, none⟩) (hne b hb)]
      exact h.1
    have hrep : ∀ x v, Rep C x v → Rep C1 x v := by
      intro x v h
      induction h with
      | any v => exact .any v
      | imm v hv => exact .imm v hv
      | slNil a cap => exact .slNil a cap
      | sl es b off sz cap c hlt hbad hc hf hcell _ ih => exact .sl es b off sz cap c (by simpa [C1] using hlt) (fun h => hbad (h.imp (hown b) id)) hc hf (fun i j e x he hx => hholds (hcell i j e x he hx)) ih
      | clipNil a => exact .clipNil a
      | clip es b off sz c hlt hbad hf hcell _ ih => exact .clip es b off sz c (by simpa [C1] using hlt) (fun h => hbad (h.imp (hown b) id)) hf (fun i j e x he hx => hholds (hcell i j e x he hx)) ih
      | view id off len v hid hs h1 => exact .view id off len v hid hs h1
      | ref id i j v hid hs h1 => exact .ref id i j v hid hs h1
      | pp fl j b off c hlt hbad hcell _ ih => exact .pp fl j b off c (by simpa [C1] using hlt) (fun h => hbad (h.imp (hown b) id)) (fun k x hx => hholds (hcell k x hx)) ih
      | agg cs vs hs h1 _ ih => exact .agg cs vs hs h1 ih
      | tuple cs vs hs _ ih => exact .tuple cs vs hs ih
      | ifc t x v _ ih => exact .ifc t x v ih
      | clo fn caps vs hs _ ih => exact .clo fn caps vs hs ih
    have hI1 : Inv W0 C1 := {
      fresh := hI.fresh
      nil := hI.nil
      obj := fun id es h hn => by
        have hO := hI.obj id es h hn
        obtain ⟨arr, el, h1, h2⟩ := hO.blk
        have hb := hcell h1
        have hc : ∀ o, C1.w.cell? ⟨(C.pl id).blk, o, none⟩ = C.w.cell? ⟨(C.pl id).blk, o, none⟩ := fun o => World.cell?_of_block (w := C.w) (a := ⟨_, o, none⟩) (hne _ hb)
        exact ⟨hO.n, hO.cap, ⟨arr, el, by rw [← h1]; exact hne _ hb, h2⟩, fun o v hv => hO.one o v (by rw [← hc o]; exact hv), hO.flat, fun i j e x v h1 h2 h3 => hrep _ _ (hO.cell i j e x v h1 h2 (by rw [← hc]; exact h3))⟩
      sep := hI.sep
      prot := hI.prot
      szok := hI.szok
      protlt := fun b h => by simpa [C1] using hI.protlt b h
      protge := hI.protge
      size := by simpa [C1] using hI.size
      glob := fun b h => ⟨by
        rw [← (hI.glob b h).1]
        exact hne b (fun hb => (hI.glob b h).2 (.inr (.inr (by rw [hb, hl]; exact List.mem_cons_self ..)))), fun ho => (hI.glob b h).2 (hown b ho)⟩
      lps := fun q r h => by
        rw [← hI.lps q r h]
        refine hne q (fun hq => ?_)
        have := hI.lps q r h
        rw [hq, hd] at this; cases this
      dfs := fun q h => by
        rw [← hI.dfs q (by rw [hl]; exact List.mem_cons_of_mem _ h)]
        exact hne q (fun hq => hnd (hq ▸ h))
      dnd := by have := hI.dnd; rw [hl] at this; exact (List.nodup_cons.1 this).2
      rod := fun q h => by have := hI.rod q h; rw [hl] at this; cases this
      spprot := fun b h => hI.spprot b (by
        rcases h with h | h
        · exact .inl h
        · exact .inr (by rw [hl]; exact List.mem_cons_of_mem _ h))
      pinB := hI.pinB
      pinlt := hI.pinlt
      gh := W0.st C C1 hM hI.pinlt hI.gh }
    exact drain hQ l C1 rfl hI1 hH (fun C2 h1 h2 h3 h4 h5 h6 => hq C2 h1 h2 (hM.trans h3) h4 h5 (fun x v h => h6 x v (hrep x v h)))

/-- What comes of a body: the function returns; what it hands back, and what the objects are, under other names. -/
theorem calls_of_awp {W0 : Base} {N : Nat} {f : FuncId} {fn : Func} {c : Code} {xs : List AV} {r : AV} {Hin Hr : Heap} (hf : P.funcs[f]? = some fn) (hb : fn.body = some c) (hN : fn.ntmps = N) (hxN : xs.length ≤ N) (hro : W0.ro = none)
    (h : AWP P W0 N c ⟨argsFr 0 xs, Hin⟩ (fun e s => (e = .normal ∨ e = .ret) ∧ ∃ q, resA P fn.results.toList s = some q ∧ Weak W0 1 ⟨[(0, q)], s.H⟩ ⟨[(0, r)], Hr⟩))
    (C : Ctx) (vals : Array Value) (hI : Inv W0 C) (hH : C.H = Hin) (hd : C.dfs = []) (hsz : vals.size = xs.length) (hrep : ∀ (k : Nat) (x : AV), xs[k]? = some x → Rep C x (vals.getD k undef)) :
    Calls P f vals C.w (fun e w' => ∃ v C', e = .returned v ∧ C'.w = w' ∧ Mem C C' ∧ Inv W0 C' ∧ C'.H = Hr ∧ C'.dfs = [] ∧ Rep C' r v) := by
  refine (callsIn_wide (n := 0)).1 (callsIn_of_wp_marks hf hb trivial ?_)
  have hrel := rel_start (W0 := W0) hI hH hd hN hxN hsz hrep
  have key := h C _ hrel
  rw [hro, fw_none] at key
  refine wpIn_mono key fun e a' w' ⟨s, C', g1, g2, g3, g4, q, g5, g6⟩ => ?_
  subst g1
  have main : LeavesInM Fence.wide 0 P fn a'.tmps (fun e w' => ∃ v C', e = .returned v ∧ C'.w = w' ∧ Mem C C' ∧ Inv W0 C' ∧ C'.H = Hr ∧ C'.dfs = [] ∧ Rep C' r v) a'.defers .returning C'.w := by
    rw [g3.defers]
    refine drain (W0 := W0) (Q := fun C2 => Rel W0 N (lk s.fr) s.H C2 { tmps := a'.tmps, defers := [] } ∧ Mem C C2) (fun C2 hq hd2 => ?_) C'.dfs C' rfl g3.inv g3.heap (fun C2 h1 h2 h3 h4 h5 h6 => ⟨⟨h1.trans g3.heap, h4, g3.size, by simp [h5], fun t x hx => h6 x _ (g3.rep t x hx)⟩, g2.trans h3⟩)
    obtain ⟨hq, hm⟩ := hq
    obtain ⟨v, g7, g8⟩ := run_results hq g5
    have g9 := rel_one hq.inv hd2 g8
    rw [hq.heap] at g9
    obtain ⟨C3, q1, q2, q3⟩ := g6 C2 _ g9
    exact ⟨v, g7, v, C3, rfl, q1, hm.trans q2, q3.inv, q3.heap, dfs_nil q3, q3.rep 0 r rfl⟩
  rcases g4 with rfl | rfl
  · exact main
  · exact main

/-- A function whose body does so; what it hands back, and its objects, under other names. -/
theorem fun2_of_awp {W0 : World} {N : Nat} {f : FuncId} {fn : Func} {c : Code} {xs : List AV} {r : AV} {Hr : Heap} (hf : P.funcs[f]? = some fn) (hb : fn.body = some c) (hname : (fn.name == "runtime.NumGoroutine") = false) (hN : fn.ntmps = N) (hxN : xs.length ≤ N)
    (h : AWP P (.of W0) N c ⟨argsFr 0 xs, .empty⟩ (fun e s => (e = .normal ∨ e = .ret) ∧ ∃ q, resA P fn.results.toList s = some q ∧ Weak (.of W0) 1 ⟨[(0, q)], s.H⟩ ⟨[(0, r)], Hr⟩)) : Fun2 P W0 f xs r Hr where
  call := callable_of hf hname hb
  runs C vals hI hH hd hsz hrep := (calls_of_awp hf hb hN hxN rfl h C vals hI hH hd hsz hrep).mono fun e w' ⟨v, C', h1, h2, h3, h4, h5, h6, h7⟩ =>
    ⟨v, C', h1, h2, ⟨h3.below, h3.keep, h3.own, by rw [hH]; exact Nat.zero_le _, fun id es hi _ => by rw [hH] at hi; exact absurd hi (Nat.not_lt_zero _), h3.prot, h6.trans hd.symm, h3.pin⟩, h4, h5, h7⟩

/-- What is handed back given up, to be read by whoever. -/
theorem Fun2.give {W0 : World} {f : FuncId} {xs : List AV} {r r' : AV} {Hr : Heap} (h : Fun2 P W0 f xs r Hr) (hw : Weak (.of W0) 1 ⟨[(0, r)], Hr⟩ ⟨[(0, r')], .empty⟩) (hn : NoId r') : Fun1 P W0 f xs r' where
  call := h.call
  noid := hn
  runs C vals hI hH hd hsz hrep := (h.runs C vals hI hH hd hsz hrep).mono fun e w' ⟨v, C', h1, h2, h3, h4, h5, h6⟩ => by
    have g := rel_one h4 (h3.dfs.trans hd) h6
    rw [h5] at g
    obtain ⟨C2, q1, q2, q3⟩ := hw C' _ g
    refine ⟨v, C2, h1, q1.trans h2, ?_, q3.inv, q3.rep 0 r' rfl⟩
    have hm := h3.mem.trans q2
    refine ⟨hm.below, hm.keep, hm.own, by rw [hH]; exact Nat.zero_le _, fun id es hi _ => ?_, hm.prot, (dfs_nil q3).trans hd.symm, hm.pin⟩
    rw [hH] at hi; exact absurd hi (Nat.not_lt_zero _)

theorem Fun1.two {W0 : World} {f : FuncId} {xs : List AV} {r : AV} (h : Fun2 P W0 f xs r .empty) (hn : NoId r) : Fun1 P W0 f xs r := h.give (Weak.refl _) hn
end
end Go.Av
end

section
/- Sets of numbers as bits: plain facts on 64 bits. -/
namespace Bv

theorem odd_part : ∀ x : Nat, 0 < x → ∃ k m, x = 2 ^ k * (2 * m + 1) := by
  intro x
  induction x using Nat.strongRecOn with
  | _ x ih =>
    intro hx
    rcases Nat.mod_two_eq_zero_or_one x with h | h
    · obtain ⟨k, m, hk⟩ := ih (x / 2) (by omega) (by omega)
      refine ⟨k + 1, m, ?_⟩
      rw [Nat.pow_succ, Nat.mul_assoc, Nat.mul_comm 2, ← Nat.mul_assoc, ← hk]; omega
    · exact ⟨0, x / 2, by simp; omega⟩

theorem tb (k a b i : Nat) (hb : b < 2 ^ k) : (2 ^ k * a + b).testBit i = if i < k then b.testBit i else a.testBit (i - k) := Nat.testBit_two_pow_mul_add a hb i

theorem tb_odd (k m i : Nat) : (2 ^ k * (2 * m + 1)).testBit i = if i < k then false else if i = k then true else m.testBit (i - k - 1) := by
  have h := tb k (2 * m + 1) 0 i (Nat.two_pow_pos k)
  rw [Nat.add_zero] at h
  rw [h]
  by_cases h1 : i < k
  · simp [h1]
  · rw [if_neg h1, if_neg h1]
    by_cases h2 : i = k
    · subst h2; simp
    · rw [if_neg h2]
      have h3 := tb 1 m 1 (i - k) (by decide)
      rw [Nat.pow_one] at h3
      rw [h3, if_neg (by omega)]

/-- The least bit, the one that is taken away, and what is left. -/
theorem low (x : Nat) (hx : 0 < x) (hlt : x < 2 ^ 64) : ∃ k, k < 64 ∧ x.testBit k = true ∧ (∀ i, i < k → x.testBit i = false) ∧ (∀ i, (x &&& (x - 1)).testBit i = (x.testBit i && decide (i ≠ k))) ∧ x &&& (2 ^ 64 - x) = 2 ^ k := by
  obtain ⟨k, m, rfl⟩ := odd_part x hx
  have hk : k < 64 := by
    rcases Nat.lt_or_ge k 64 with h | h
    · exact h
    · have : 2 ^ 64 ≤ 2 ^ k := Nat.pow_le_pow_right (by decide) h
      have : 2 ^ k * 1 ≤ 2 ^ k * (2 * m + 1) := Nat.mul_le_mul_left _ (by omega)
      omega
  refine ⟨k, hk, by rw [tb_odd]; simp, fun i hi => by rw [tb_odd, if_pos hi], fun i => ?_, ?_⟩
  · have h1 : 2 ^ k * (2 * m + 1) - 1 = 2 ^ k * (2 * m) + (2 ^ k - 1) := by
      have := Nat.two_pow_pos k
      rw [Nat.mul_add, Nat.mul_one]; omega
    rw [Nat.testBit_and, h1, tb k (2 * m) (2 ^ k - 1) i (by have := Nat.two_pow_pos k; omega), tb_odd]
    by_cases h2 : i < k
    · simp [h2]
    · rw [if_neg h2, if_neg h2]
      by_cases h3 : i = k
      · subst h3; simp
      · rw [if_neg h3]
        have h4 := tb 1 m 0 (i - k) (by decide)
        rw [Nat.pow_one, Nat.add_zero] at h4
        rw [h4, if_neg (by omega)]
        simp [h3]
  · have hle : 2 * m + 1 ≤ 2 ^ (64 - k) := by
      rcases Nat.lt_or_ge (2 ^ (64 - k)) (2 * m + 1) with h | h
      · have h5 : 2 ^ k * 2 ^ (64 - k) < 2 ^ k * (2 * m + 1) := Nat.mul_lt_mul_of_pos_left h (Nat.two_pow_pos k)
        rw [← Nat.pow_add, show k + (64 - k) = 64 by omega] at h5
        omega
      · exact h
    have h1 : 2 ^ 64 - 2 ^ k * (2 * m + 1) = 2 ^ k * (2 ^ (64 - k) - (2 * m + 1)) := by
      rw [Nat.mul_sub, ← Nat.pow_add, show k + (64 - k) = 64 by omega]
    rw [h1]
    apply Nat.eq_of_testBit_eq
    intro i
    rw [Nat.testBit_and, tb_odd, Nat.testBit_two_pow]
    have h2 := tb k (2 ^ (64 - k) - (2 * m + 1)) 0 i (Nat.two_pow_pos k)
    rw [Nat.add_zero] at h2
    rw [h2]
    by_cases h3 : i < k
    · rw [if_pos h3, if_pos h3]; simp; omega
    · rw [if_neg h3, if_neg h3]
      have h4 : (2 ^ (64 - k) - (2 * m + 1)).testBit (i - k) = (decide (i - k < 64 - k) && !(2 * m).testBit (i - k)) := Nat.testBit_two_pow_sub_succ (by omega) _
      rw [h4]
      by_cases h5 : i = k
      · subst h5
        simp
        omega
      · rw [if_neg h5]
        have h6 := tb 1 m 0 (i - k) (by decide)
        rw [Nat.pow_one, Nat.add_zero] at h6
        rw [h6, if_neg (by omega)]
        have : ¬ k = i := fun h => h5 h.symm
        simp [this]
        exact fun h _ => h

/-- The numbers of a set, rising. -/
def list (s : BitVec 64) : List Nat := (List.range 64).filter fun i => s.getLsbD i

def has (s : BitVec 64) (i : Int) : Bool := decide (0 ≤ i) && decide (i < 64) && s.getLsbD i.toNat
def bit (i : Int) : BitVec 64 := if 0 ≤ i ∧ i < 64 then 1#64 <<< i.toNat else 0#64
def least (s : BitVec 64) : Int := match list s with | [] => -1 | i :: _ => i
def ctz (s : BitVec 64) : Nat := match list s with | [] => 64 | i :: _ => i

theorem mem_list {s : BitVec 64} {i : Nat} : i ∈ list s ↔ s.getLsbD i = true := by
  simp only [list, List.mem_filter, List.mem_range]
  constructor
  · exact fun h => h.2
  · intro h
    refine ⟨?_, h⟩
    rcases Nat.lt_or_ge i 64 with h1 | h1
    · exact h1
    · rw [BitVec.getLsbD_of_ge _ _ h1] at h; cases h

theorem list_sorted (s : BitVec 64) : (list s).Pairwise (· < ·) := (List.pairwise_lt_range).filter _

theorem list_zero : list 0#64 = [] := by decide

/-- Lists that rise and hold the same are the same. -/
theorem sorted_ext : ∀ {l m : List Nat}, l.Pairwise (· < ·) → m.Pairwise (· < ·) → (∀ i, i ∈ l ↔ i ∈ m) → l = m
  | [], [], _, _, _ => rfl
  | [], y :: m, _, _, h => by have := (h y).2 (List.mem_cons_self ..); cases this
  | x :: l, [], _, _, h => by have := (h x).1 (List.mem_cons_self ..); cases this
  | x :: l, y :: m, hl, hm, h => by
    rw [List.pairwise_cons] at hl hm
    have hxy : x = y := by
      have h1 := (h x).1 (List.mem_cons_self ..)
      have h2 := (h y).2 (List.mem_cons_self ..)
      rcases List.mem_cons.1 h1 with h1 | h1
      · exact h1
      · rcases List.mem_cons.1 h2 with h2 | h2
        · exact h2.symm
        · have := hl.1 y h2; have := hm.1 x h1; omega
    subst hxy
    rw [sorted_ext hl.2 hm.2 (fun i => ?_)]
    constructor
    · intro hi
      rcases List.mem_cons.1 ((h i).1 (List.mem_cons_of_mem _ hi)) with rfl | h1
      · exact absurd (hl.1 i hi) (Nat.lt_irrefl _)
      · exact h1
    · intro hi
      rcases List.mem_cons.1 ((h i).2 (List.mem_cons_of_mem _ hi)) with rfl | h1
      · exact absurd (hm.1 i hi) (Nat.lt_irrefl _)
      · exact h1

theorem low_bv (s : BitVec 64) (h : s ≠ 0#64) : ∃ k, k < 64 ∧ s.getLsbD k = true ∧ (∀ i, i < k → s.getLsbD i = false) ∧ (∀ i, (s &&& (s - 1#64)).getLsbD i = (s.getLsbD i && decide (i ≠ k))) ∧ s &&& -s = 1#64 <<< k := by
  have hx : 0 < s.toNat := by
    rcases Nat.eq_zero_or_pos s.toNat with h1 | h1
    · exact absurd (BitVec.eq_of_toNat_eq (by simpa using h1)) h
    · exact h1
  obtain ⟨k, h1, h2, h3, h4, h5⟩ := low s.toNat hx s.isLt
  have e1 : (s - 1#64).toNat = s.toNat - 1 := by
    rw [BitVec.toNat_sub]
    have := s.isLt
    simp
    omega
  refine ⟨k, h1, by rw [← BitVec.testBit_toNat]; exact h2, fun i hi => by rw [← BitVec.testBit_toNat]; exact h3 i hi, fun i => ?_, ?_⟩
  · rw [← BitVec.testBit_toNat, BitVec.toNat_and, e1, h4, BitVec.testBit_toNat]
  · apply BitVec.eq_of_toNat_eq
    have e2 : (-s).toNat = 2 ^ 64 - s.toNat := by
      rw [BitVec.toNat_neg, Nat.mod_eq_of_lt (by omega)]
    rw [BitVec.toNat_and, e2, h5]
    have : 2 ^ k < 2 ^ 64 := Nat.pow_lt_pow_right (by decide) h1
    simp [Nat.shiftLeft_eq]
    omega

/-- A set's least number, and the rest. -/
theorem list_cons (s : BitVec 64) (h : s ≠ 0#64) : list s = ctz s :: list (s &&& (s - 1#64)) ∧ ctz s < 64 ∧ s &&& -s = 1#64 <<< ctz s := by
  obtain ⟨k, h1, h2, h3, h4, h5⟩ := low_bv s h
  have key : list s = k :: list (s &&& (s - 1#64)) := by
    refine sorted_ext (list_sorted s) ?_ (fun i => ?_)
    · rw [List.pairwise_cons]
      refine ⟨fun i hi => ?_, list_sorted _⟩
      rw [mem_list, h4] at hi
      simp only [Bool.and_eq_true, decide_eq_true_eq] at hi
      rcases Nat.lt_or_ge i k with h6 | h6
      · rw [h3 i h6] at hi; cases hi.1
      · omega
    · rw [mem_list, List.mem_cons, mem_list, h4]
      simp only [Bool.and_eq_true, decide_eq_true_eq]
      constructor
      · intro hi
        by_cases hik : i = k
        · exact .inl hik
        · exact .inr ⟨hi, hik⟩
      · rintro (rfl | hi)
        · exact h2
        · exact hi.1
  have hc : ctz s = k := by simp [ctz, key]
  exact ⟨by rw [hc]; exact key, by rw [hc]; exact h1, by rw [hc]; exact h5⟩

theorem list_nil {s : BitVec 64} (h : list s = []) : s = 0#64 := by
  by_cases hs : s = 0#64
  · exact hs
  · have := (list_cons s hs).1
    rw [h] at this; cases this

theorem least_ctz (s : BitVec 64) (h : s ≠ 0#64) : least s = ctz s := by
  have := (list_cons s h).1
  unfold least
  rw [this]

theorem list_length_le (s : BitVec 64) : (list s).length ≤ 64 := by
  have := List.length_filter_le (fun i => s.getLsbD i) (List.range 64)
  simpa [list] using this

theorem ext {s t : BitVec 64} (h : ∀ i, i < 64 → s.getLsbD i = t.getLsbD i) : s = t := BitVec.eq_of_getLsbD_eq (fun i hi => h i hi)

def dB : BitVec 64 := 0x03f79d71b4ca8b09#64
def tab : List Nat := [0, 1, 56, 2, 57, 49, 28, 3, 61, 58, 42, 50, 38, 29, 17, 4, 62, 47, 59, 36, 45, 43, 51, 22, 53, 39, 33, 30, 24, 18, 12, 5, 63, 55, 48, 27, 60, 41, 37, 16, 46, 35, 44, 21, 52, 32, 23, 11, 54, 26, 40, 15, 34, 20, 31, 10, 25, 14, 19, 9, 13, 8, 7, 6]
theorem tab_ok : ∀ k : Fin 64, tab[(((1#64 <<< k.val) * dB) >>> 58).toNat]? = some k.val := by decide

end Bv
end

section
/- The table of math/bits, as numbers. -/
namespace Go.Sh
def tab8 : List Int := Bv.tab.map fun (k : Nat) => (k : Int)
end Go.Sh
end

section
/- The rules once more, over lists of plain data. -/
namespace Go.Av
abbrev w64 (n : Int) : Int := IntKind.i64.wrap n
abbrev kA (k : IntKind) (n : Int) : AV := .imm (.int k n)
abbrev arA {α : Type} (enc : α → AV) (l : List α) : AV := .agg (l.map enc)
abbrev strA (s : ByteArray) : AV := .imm (.string s)
abbrev slA {α : Type} (enc : α → AV) (l : List α) : AV := .sl (l.map enc)

section
variable {P : Program} {W0 : Base} {fr : Fr} {H : Heap} {o : Oper} {α : Type} {enc : α → AV} {l : List α} {i : Int} {x : α} {ki : IntKind}

theorem getM {k : Nat} (h : l[k]? = some x) : (l.map enc)[k]? = some (enc x) := by simp [h]

theorem t_index_sl {t e : TypeId} {s by' : Nat} {xo io : Operand} {k : Nat} (enc : α → AV) (l : List α) (hi : i = k) (hl : l[k]? = some x) (ho : o.op = .indexAddr t xo io) (hx : evalA fr xo = some (.sl (l.map enc))) (hio : evalA fr io = some (.imm (.int ki i)))
    (ht : elT P t = some (e, s, by')) (hs : (enc x).flat.length = s) : AOp P W0 o fr H (.pp (enc x).flat 0) H :=
  aop_index_sl ho hx (.inl rfl) hio ht hi (getM hl) hs
theorem t_index_clip {t e : TypeId} {s by' : Nat} {xo io : Operand} {k : Nat} (enc : α → AV) (l : List α) (hi : i = k) (hl : l[k]? = some x) (ho : o.op = .indexAddr t xo io) (hx : evalA fr xo = some (.clip (l.map enc))) (hio : evalA fr io = some (.imm (.int ki i)))
    (ht : elT P t = some (e, s, by')) (hs : (enc x).flat.length = s) : AOp P W0 o fr H (.pp (enc x).flat 0) H :=
  aop_index_sl ho hx (.inr rfl) hio ht hi (getM hl) hs
theorem t_index_view {t e : TypeId} {s by' id n : Nat} {xo io : Operand} {k : Nat} (enc : α → AV) (l : List α) (hi : i = k) (hl : l[k]? = some x) (hn : n = (l.map enc).length) (ho : o.op = .indexAddr t xo io) (hx : evalA fr xo = some (.view id 0 n)) (hid : H.get id = some (l.map enc)) (hio : evalA fr io = some (.imm (.int ki i)))
    (ht : elT P t = some (e, s, by')) (hs : (enc x).flat.length = s) : AOp P W0 o fr H (.ref id k 0) H := by
  subst hn
  have hk : k < (l.map enc).length := by have := (List.getElem?_eq_some_iff.1 hl).1; simpa using this
  have := aop_index_view (P := P) (W0 := W0) (o := o) (fr := fr) (H := H) ho hx hid hio ht hi hk (el := enc x) (by rw [Nat.zero_add]; exact getM hl) hs
  rwa [Nat.zero_add] at this
theorem t_load_el {t : TypeId} {xo : Operand} {id k j n : Nat} {g : Bool} {r : AV} (enc : α → AV) (l : List α) (hl : l[k]? = some x) (ho : o.op = .load t xo) (hx : evalA fr xo = some (.ref id k j)) (hid : H.get id = some (l.map enc))
    (ht : szT P t = some (n, g)) (hr : partA (enc x).flat j n g = some r) : AOp P W0 o fr H r H := aop_load_ref ho hx hid (getM hl) ht hr
theorem t_store_el {t : TypeId} {xo yo : Operand} {id k j n : Nat} {g : Bool} {ay : AV} (enc : α → AV) (l : List α) (x' : α) (hi : i = k) (hl : l[k]? = some x) (ho : o.op = .store t xo yo) (hx : evalA fr xo = some (.ref id k j)) (hy : evalA fr yo = some ay) (hsol : ay.solid = true)
    (hid : H.get id = some (l.map enc)) (ht : szT P t = some (n, g)) (hn : ay.flat.length = n) (hj : j + n ≤ (enc x).flat.length) (he' : (enc x').flat = (enc x).flat.take j ++ ay.flat ++ (enc x).flat.drop (j + n)) :
    AOp P W0 o fr H .any (H.set id ((Sh.set l i x').map enc)) := by
  have := aop_store (P := P) (W0 := W0) (o := o) (fr := fr) (H := H) ho hx hy hsol hid (getM hl) ht hn hj he'
  have e : (Sh.set l i x').map enc = (l.map enc).set k (enc x') := by subst hi; simp [Sh.set, List.map_set]
  rw [e]; exact this

theorem t_len_sl {t e : TypeId} {s by' : Nat} {xo : Operand} (enc : α → AV) (l : List α) (ho : o.op = .call { callee := .builtin .len, args := #[xo], argTypes := #[t] }) (hx : evalA fr xo = some (.sl (l.map enc))) (ht : elT P t = some (e, s, by')) : AOp P W0 o fr H (i64 (Sh.len l)) H :=
  (aop_len ho hx rfl ht).conv (by simp [Sh.len])
theorem t_len_clip {t e : TypeId} {s by' : Nat} {xo : Operand} (enc : α → AV) (l : List α) (ho : o.op = .call { callee := .builtin .len, args := #[xo], argTypes := #[t] }) (hx : evalA fr xo = some (.clip (l.map enc))) (ht : elT P t = some (e, s, by')) : AOp P W0 o fr H (i64 (Sh.len l)) H :=
  (aop_len ho hx rfl ht).conv (by simp [Sh.len])
theorem t_len_nil {t e : TypeId} {s by' : Nat} {xo : Operand} (ho : o.op = .call { callee := .builtin .len, args := #[xo], argTypes := #[t] }) (hx : evalA fr xo = some nilS) (ht : elT P t = some (e, s, by')) : AOp P W0 o fr H (i64 0) H :=
  (aop_len ho hx rfl ht).conv (by simp)
theorem t_len_view {t e : TypeId} {s by' id off n : Nat} {es : List AV} {xo : Operand} (enc : α → AV) (l : List α) (hn : n = (l.map enc).length) (ho : o.op = .call { callee := .builtin .len, args := #[xo], argTypes := #[t] }) (hx : evalA fr xo = some (.view id off n)) (hid : H.get id = some es) (ht : elT P t = some (e, s, by')) : AOp P W0 o fr H (i64 (Sh.len l)) H := by
  subst hn
  exact (aop_len_view ho hx hid ht).conv (by simp [Sh.len])

theorem flat_map {s : Nat} (h : ∀ x : α, (enc x).flat.length = s) (l : List α) : ∀ y ∈ l.map enc, y.flat.length = s := fun y hy => by
  obtain ⟨x, _, rfl⟩ := List.mem_map.1 hy; exact h x
theorem noId_map (h : ∀ x : α, NoId (enc x)) (l : List α) : ∀ y ∈ l.map enc, NoId y := fun y hy => by
  obtain ⟨x, _, rfl⟩ := List.mem_map.1 hy; exact h x
theorem noId_sl_map (h : ∀ x : α, NoId (enc x)) (l : List α) : NoId (.sl (l.map enc)) := by simpa using noId_map h l

/-- Appended to what is nobody's: a new object. -/
theorem t_app_nil {t ty e : TypeId} {s by' : Nat} {z : Value} {xo yo : Operand} {ay : AV} (enc : α → AV) (m L : List α) (hL : Sh.app by' [] m = some L) (hT : ElT P t e s by' z) (hfl : ∀ x : α, (enc x).flat.length = s) (ho : o.op = .call { callee := .builtin .append, args := #[xo, yo], argTypes := #[t, t] }) (hty : o.type = ty)
    (hx : evalA fr xo = some nilS) (hy : evalA fr yo = some ay) (hys : ay.elems H = some (m.map enc)) : AOp P W0 o fr H (.view H.next 0 (L.map enc).length) (H.push s (L.map enc)) := by
  obtain ⟨h1, rfl⟩ := Sh.app_some hL
  have := aop_append_nil (P := P) (W0 := W0) (o := o) (fr := fr) (H := H) hT ho hty hx (.inl rfl) hy hys (flat_map hfl _) (by simpa using h1)
  simpa using this
theorem t_app_clip {t ty e : TypeId} {s by' : Nat} {z : Value} {xo yo : Operand} {ay : AV} (enc : α → AV) (l m L : List α) (hL : Sh.app by' l m = some L) (hne : m ≠ []) (hT : ElT P t e s by' z) (hfl : ∀ x : α, (enc x).flat.length = s) (ho : o.op = .call { callee := .builtin .append, args := #[xo, yo], argTypes := #[t, t] }) (hty : o.type = ty)
    (hx : evalA fr xo = some (.clip (l.map enc))) (hy : evalA fr yo = some ay) (hys : ay.elems H = some (m.map enc)) : AOp P W0 o fr H (.view H.next 0 (L.map enc).length) (H.push s (L.map enc)) := by
  obtain ⟨h1, rfl⟩ := Sh.app_some hL
  have := aop_append_clip (P := P) (W0 := W0) (o := o) (fr := fr) (H := H) hT ho hty hx hy hys (by simpa using hne) (flat_map hfl l) (flat_map hfl m) (by simpa using h1)
  simpa using this
/-- Appended to what is the proof's own: an object under a new name. -/
theorem t_app_view {t ty e : TypeId} {s by' id n : Nat} {z : Value} {xo yo : Operand} {ay : AV} (enc : α → AV) (l m L : List α) (hL : Sh.app by' l m = some L) (hn : n = (l.map enc).length) (hT : ElT P t e s by' z) (hfl : ∀ x : α, (enc x).flat.length = s) (ho : o.op = .call { callee := .builtin .append, args := #[xo, yo], argTypes := #[t, t] }) (hty : o.type = ty)
    (hx : evalA fr xo = some (.view id 0 n)) (hid : H.get id = some (l.map enc)) (hs : H.sz id = some s) (hy : evalA fr yo = some ay) (hys : ay.elems H = some (m.map enc)) : AOp P W0 o fr H (.view H.next 0 (L.map enc).length) ((H.del id).push s (L.map enc)) := by
  subst hn
  obtain ⟨h1, rfl⟩ := Sh.app_some hL
  have := aop_append_view (P := P) (W0 := W0) (o := o) (fr := fr) (H := H) hT ho hty hx hid hs hy hys (flat_map hfl l) (flat_map hfl m) (by simpa using h1)
  simpa using this
theorem t_copy {t e ty' : TypeId} {s by' id n : Nat} {xo yo : Operand} {ay : AV} (enc : α → AV) (l m L : List α) (hL : Sh.cpy l m = some L) (hn : n = (l.map enc).length) (hfl : ∀ x : α, (enc x).flat.length = s) (ho : o.op = .call { callee := .builtin .copy, args := #[xo, yo], argTypes := #[t, ty'] }) (hx : evalA fr xo = some (.view id 0 n))
    (hid : H.get id = some (l.map enc)) (hs : H.sz id = some s) (hy : evalA fr yo = some ay) (hys : ay.elems H = some (m.map enc)) (ht : elT P t = some (e, s, by')) : AOp P W0 o fr H .any (H.set id (L.map enc)) := by
  subst hn
  obtain ⟨h1, rfl⟩ := Sh.cpy_some hL
  have := aop_copy (P := P) (W0 := W0) (o := o) (fr := fr) (H := H) ho hx hid hs hy hys ht (flat_map hfl L) (by simpa using h1)
  have e : ((l.map enc).take 0 ++ L.map enc ++ (l.map enc).drop (0 + (L.map enc).length)) = L.map enc := by
    have : (l.map enc).drop (0 + (L.map enc).length) = [] := List.drop_eq_nil_of_le (by simp [h1])
    rw [this]; simp
  rw [e] at this
  intro C a hI hH hop K Q hK
  exact this C a hI hH hop K Q (fun v C' h1 h2 h3 _ => hK v C' h1 h2 h3 (.any v))
theorem t_make {t e : TypeId} {s by' : Nat} {xo yo : Operand} {kl kc : IntKind} {nl nc : Int} {z : Value} (enc : α → AV) (zx : α) (L : List α) (hL : Sh.mk by' nl nc zx = some L) (ho : o.op = .makeSlice t xo yo) (hx : evalA fr xo = some (.imm (.int kl nl))) (hy : evalA fr yo = some (.imm (.int kc nc)))
    (ht : elT P t = some (e, s, by')) (hz : zrT P e = some z) (hk : z.okV = true) (hs : (AV.ofV z).flat.length = s) (hzx : enc zx = AV.ofV z) : AOp P W0 o fr H (.view H.next 0 (L.map enc).length) (H.push s (L.map enc)) := by
  obtain ⟨m, c, h1, h2, h3, h4, h5, rfl⟩ := Sh.mk_some hL
  have := aop_makeSlice (P := P) (W0 := W0) (o := o) (fr := fr) (H := H) ho hx hy h1 h2 h3 ht h4 h5 hz hk hs
  simpa [hzx] using this

/-- A part of what stays as it is. -/
theorem t_sub {t e : TypeId} {s by' : Nat} {xo : Operand} {lo hi : Option Operand} {ax : AV} {a b : Int} (enc : α → AV) (l L : List α) (hL : Sh.sub l a b = some L) (hfl : ∀ x : α, (enc x).flat.length = s) (ho : o.op = .slice t xo lo hi none) (hx : evalA fr xo = some ax) (hax : ax = .sl (l.map enc) ∨ ax = .clip (l.map enc))
    (hlo : (lo = none ∧ a = 0) ∨ ∃ y k, lo = some y ∧ evalA fr y = some (.imm (.int k a))) (hhi : (hi = none ∧ b = Sh.len l) ∨ ∃ y k, hi = some y ∧ evalA fr y = some (.imm (.int k b))) (ht : elT P t = some (e, s, by')) : AOp P W0 o fr H (.sl (L.map enc)) H := by
  obtain ⟨m, k, rfl, rfl, h1, h2, rfl⟩ := Sh.sub_some hL
  have g1 : ∀ d, (hlo' : (lo = none ∧ ((m : Int)) = 0) ∨ ∃ y k, lo = some y ∧ evalA fr y = some (.imm (.int k (m : Int)))) → d = 0 → optNat fr lo d = some m := fun d hlo' hd => by
    rcases hlo' with ⟨rfl, h⟩ | ⟨y, q, rfl, h⟩
    · have : m = 0 := by omega
      subst this; subst hd; rfl
    · simp [optNat, h]
  have g2 : optNat fr hi (l.map enc).length = some k := by
    rcases hhi with ⟨rfl, h⟩ | ⟨y, q, rfl, h⟩
    · simp only [Sh.len] at h
      have : k = l.length := by omega
      subst this; simp [optNat]
    · simp [optNat, h]
  have := aop_slice_sl (P := P) (W0 := W0) (o := o) (fr := fr) (H := H) ho hx hax ht (g1 0 hlo rfl) g2 h1 (by simpa using h2) (flat_map hfl l)
  rwa [← List.map_drop, ← List.map_take] at this

/-- Structs of numbers, held against each other. -/
def intsV (l : List Int) : AV := .agg (l.map i64)

theorem t_shl {t t' : TypeId} {x y : Operand} {a r : BitVec 64} {k' : IntKind} {n : Int} (h : Sh.shl a n = some r) (ho : o.op = .binOp .shl t x y t') (hx : evalA fr x = some (u64 a)) (hy : evalA fr y = some (.imm (.int k' n))) : AOp P W0 o fr H (u64 r) H := by
  obtain ⟨h0, rfl⟩ := Sh.shl_some h
  rcases Int.lt_or_le n 64 with h64 | h64
  · exact aop_shl64 ho hx hy h0 h64
  · have e : a <<< n.toNat = 0#64 := BitVec.shiftLeft_eq_zero (by omega)
    rw [e]
    exact aop_shift ho hx hy (fun w => by
      have hn : ¬ n < 0 := by omega
      have hm : min n.toNat 64 = 64 := by omega
      simp only [binOp, Op.shift, hn, if_false, IntKind.bits, hm, wrapu]
      show Result.ok _ w = Result.ok _ w
      congr 4
      apply BitVec.eq_of_toNat_eq
      rw [BitVec.toNat_ofInt]
      simp) rfl

theorem t_shr {t t' : TypeId} {x y : Operand} {a r : BitVec 64} {k' : IntKind} {n : Int} (h : Sh.shr a n = some r) (ho : o.op = .binOp .shr t x y t') (hx : evalA fr x = some (u64 a)) (hy : evalA fr y = some (.imm (.int k' n))) : AOp P W0 o fr H (u64 r) H := by
  obtain ⟨h0, rfl⟩ := Sh.shr_some h
  rcases Int.lt_or_le n 64 with h64 | h64
  · exact aop_shr64 ho hx hy h0 h64
  · have e : a >>> n.toNat = 0#64 := BitVec.ushiftRight_eq_zero (by omega)
    rw [e]
    exact aop_shift ho hx hy (fun w => by
      have hn : ¬ n < 0 := by omega
      have hm : min n.toNat 64 = 64 := by omega
      simp only [binOp, Op.shift, hn, if_false, IntKind.bits, hm]
      show Result.ok _ w = Result.ok _ w
      have h2 : (a.toNat : Int).fdiv (2 ^ 64) = 0 := by
        have := a.isLt
        rw [Int.fdiv_eq_ediv_of_nonneg _ (by decide)]
        omega
      rw [h2]; rfl) rfl
end

/-! ### The table of math/bits -/
def TabAt (W0 : World) (g : Nat) : Prop := ∀ (j : Nat) (v : Value), (Bv.tab.map fun (k : Nat) => Value.int .u8 (k : Int))[j]? = some v → W0.cell? ⟨g, j, none⟩ = some v ∧ v.oneCell' = true
theorem t_index_glob {P : Program} {W0 : Base} {fr : Fr} {H : Heap} {o : Oper} {t : TypeId} {gl k : Nat} {io : Operand} {ki : IntKind} {i x : Int} (hi : i = k) (hl : (Sh.tab8)[k]? = some x) (ho : o.op = .indexAddr t (.global gl) io) (hio : evalA fr io = some (.imm (.int ki i))) (ht : arT P t = some (64, 1)) (hT : TabAt W0.w gl) :
    AOp P W0 o fr H (.pp ((Bv.tab.map fun (k : Nat) => Value.int .u8 (k : Int)).map .imm) k) H :=
  aop_index_glob ho hio ht hi (by have := Sh.get_lt hl; simpa [Sh.tab8, Bv.tab] using this) rfl hT (by decide)
theorem tab_get {k : Nat} {x : Int} (h : Sh.tab8[k]? = some x) : partA ((Bv.tab.map fun (k : Nat) => Value.int .u8 (k : Int)).map .imm) k 1 false = some (kA .u8 x) := by
  show ((Bv.tab.map _).map _)[k]? = _
  simp only [Sh.tab8, List.getElem?_map, Option.map_eq_some_iff] at h
  obtain ⟨q, h1, rfl⟩ := h
  simp [h1]
theorem t_udiv {P : Program} {W0 : Base} {fr : Fr} {H : Heap} {o : Oper} {t t' : TypeId} {x y : Operand} {a b r : BitVec 64} (h : Sh.udiv a b = some r) (ho : o.op = .binOp .quo t x y t') (hx : evalA fr x = some (u64 a)) (hy : evalA fr y = some (u64 b)) : AOp P W0 o fr H (u64 r) H := by
  obtain ⟨h1, rfl⟩ := Sh.udiv_some h; exact aop_quo64 ho hx hy h1
theorem t_umod {P : Program} {W0 : Base} {fr : Fr} {H : Heap} {o : Oper} {t t' : TypeId} {x y : Operand} {a b r : BitVec 64} (h : Sh.umod a b = some r) (ho : o.op = .binOp .rem t x y t') (hx : evalA fr x = some (u64 a)) (hy : evalA fr y = some (u64 b)) : AOp P W0 o fr H (u64 r) H := by
  obtain ⟨h1, rfl⟩ := Sh.umod_some h; exact aop_rem64 ho hx hy h1

/-! ### Ways of seeing -/
section
variable {W0 : Base} {N : Nat} {H : Heap} {g : List (Nat × Nat)} {nw : List Nat}

def SeeAll (H : Heap) (g : List (Nat × Nat)) (nw : List Nat) : List AV → List AV → Prop
  | [], [] => True
  | x :: l, y :: m => See H g nw x y ∧ SeeAll H g nw l m
  | _, _ => False

theorem SeeAll.spec : ∀ {l m : List AV}, SeeAll H g nw l m → l.length = m.length ∧ ∀ (k : Nat) (x x' : AV), l[k]? = some x → m[k]? = some x' → See H g nw x x'
  | [], [], _ => ⟨rfl, fun k x x' h => by simp at h⟩
  | x :: l, y :: m, h => by
    obtain ⟨h1, h2⟩ := SeeAll.spec h.2
    refine ⟨by simp [h1], fun k u v hu hv => ?_⟩
    cases k with
    | zero => simp at hu hv; subst hu hv; exact h.1
    | succ k => simp at hu hv; exact h2 k u v hu hv
  | [], _ :: _, h => h.elim
  | _ :: _, [], h => h.elim

theorem See.ag {cs cs' : List AV} (h : SeeAll H g nw cs cs') : See H g nw (.agg cs) (.agg cs') := .agg cs cs' h.spec.1 h.spec.2
theorem See.tp {cs cs' : List AV} (h : SeeAll H g nw cs cs') : See H g nw (.tuple cs) (.tuple cs') := .tuple cs cs' h.spec.1 h.spec.2
theorem See.lendAll {id : Nat} {es : List AV} (h1 : H.get id = some es) (h2 : g.all (fun p => p.2 != id) = true) (h3 : ∀ e ∈ es, NoId e) : See H g nw (.view id 0 es.length) (.sl es) :=
  .lend h1 (fun p hp => by have := List.all_eq_true.1 h2 p hp; simpa using this) (by simp) h3
theorem See.lendL {id n : Nat} {es : List AV} (h1 : H.get id = some es) (h2 : g.all (fun p => p.2 != id) = true) (hn : n = es.length) (h3 : ∀ e ∈ es, NoId e) : See H g nw (.view id 0 n) (.sl es) := by
  subst hn; exact .lendAll h1 h2 h3
theorem SeeL.one {x x' : AV} (h : See H g nw x x') (hl : x.flat.length = x'.flat.length) : SeeL H g nw [x] [x'] :=
  ⟨rfl, fun k e e' h1 h2 => by
    cases k with
    | zero => simp at h1 h2; subst h1 h2; exact ⟨h, hl⟩
    | succ k => simp at h1⟩
theorem Held.cons {n old s next : Nat} {es es' : List AV} {r : List (Nat × (Nat × List AV))} (h1 : lk g n = some old) (h2 : lk H.objs old = some (s, es)) (h3 : SeeL H g nw es es') (h4 : n < next) (h5 : Held H g nw next r) : Held H g nw next ((n, (s, es')) :: r) :=
  ⟨.inl ⟨old, es, h1, h2, h3⟩, h4, h5⟩
theorem Held.fresh {n s next : Nat} {r : List (Nat × (Nat × List AV))} (h1 : n ∈ nw) (h4 : n < next) (h5 : Held H g nw next r) : Held H g nw next ((n, (s, [])) :: r) :=
  ⟨.inr ⟨h1, rfl⟩, h4, h5⟩
end

section
variable {P : Program} {W0 : Base} {N : Nat} {st : St} {Q : Exit → St → Prop}

/-- One behind the other, where the first ends in many ways: what the second does is shown once, of a family of states. -/
theorem awp_seqJ {x y : Code} {ι : Type} (S : ι → St) (ok : ι → Prop) (hJ : ∀ i, ok i → AWP P W0 N y (S i) Q) (h : ∀ K : St → Prop, (∀ i s, ok i → Weak W0 N s (S i) → K s) → AWP P W0 N x st (Then K Q)) : AWP P W0 N (.seq x y) st Q :=
  awp_seq (h _ fun i _ hi hw => AWP.weak hw (hJ i hi))

/-- A branch behind which nothing comes. -/
theorem awp_iter0 {c : Code} {σ α : Type} (b : σ → Option (σ ⊕ α)) (S : σ → St) {s0 : σ} {r : α} (h : Sh.loop b s0 = some r) (hw : Weak W0 N st (S s0))
    (round : ∀ s o, b s = some o → (∀ x, o = .inr x → x = r) → AWP P W0 N c (S s) (Then (fun s1 => ∃ s', o = .inl s' ∧ Weak W0 N s1 (S s')) Q)) : AWP P W0 N (.loop c) st Q := awp_iter b S h hw round

def OnGoto (l : Nat) (K : St → Prop) (Q : Exit → St → Prop) : Exit → St → Prop
  | .goto l', s => l' = l ∧ K s
  | e, s => Q e s

/-- A scope with a label to which the run jumps back, round by round. -/
theorem awp_scope {c rest : Code} {σ α : Type} (l : Nat) (b : σ → Option (σ ⊕ α)) (S : σ → St) (r : α) (hf : findLabel c l = some rest)
    (first : AWP P W0 N c st (OnGoto l (fun s => ∃ s0, Sh.loop b s0 = some r ∧ Weak W0 N s (S s0)) Q))
    (round : ∀ s o, b s = some o → (∀ x, o = .inr x → x = r) → AWP P W0 N rest (S s) (OnGoto l (fun s1 => ∃ s', o = .inl s' ∧ Weak W0 N s1 (S s')) Q)) (hro : W0.ro = none := by rfl) : AWP P W0 N (.scope c) st Q := fun C a hr => by
  classical
  have toWp : ∀ {c : Code} {Q : Exit → Act → World → Prop} {a : Act} {w : World}, c.wpIn (Fw W0.ro) 0 P Q a w → c.wp P Q a w := fun {c Q a w} h => by rw [hro, fw_none] at h; exact wpIn_wide.1 h
  rw [hro, fw_none]
  refine wpIn_wide.2 ?_
  let Fit : Act → World → Nat → Prop := fun a' w' n => ∃ s C', C'.w = w' ∧ Mem C C' ∧ Rel W0 N (lk (S s).fr) (S s).H C' a' ∧ Sh.iter b n s = some r
  let m : Act → World → Nat := fun a' w' => if h : ∃ k, Fit a' w' k then Classical.choose (exists_least _ h) else 0
  have fit : ∀ {s1 : St} {C1 : Ctx} {a1 : Act} {s0 : σ} {n : Nat}, Mem C C1 → Rel W0 N (lk s1.fr) s1.H C1 a1 → Weak W0 N s1 (S s0) → Sh.iter b n s0 = some r → Fit a1 C1.w n := fun {s1 C1 a1 s0 n} hm hrel hw hn => by
    obtain ⟨C3, p1, p2, p3⟩ := hw C1 a1 hrel
    exact ⟨s0, C3, p1, hm.trans p2, p3, hn⟩
  refine wp_scope_jumps l (fun a' w' => ∃ k, Fit a' w' k) m hf (wp_mono (toWp (first C a hr)) fun e a2 w2 hp => ?_) (fun a' w' hI => ?_)
  · obtain ⟨s1, C2, q1, q2, q3, q4⟩ := hp
    subst q1
    cases e with
    | goto l' =>
      obtain ⟨rfl, s0, h1, h2⟩ := q4
      exact ⟨rfl, _, fit q2 q3 h2 h1⟩
    | _ => exact ⟨s1, C2, rfl, q2, q3, q4⟩
  · obtain ⟨s, C', g1, g2, g3, g4⟩ := (Classical.choose_spec (exists_least _ hI)).1
    subst g1
    have hm : m a' C'.w = Classical.choose (exists_least _ hI) := dif_pos hI
    generalize Classical.choose (exists_least _ hI) = n at g4 hm
    cases n with
    | zero => cases g4
    | succ n =>
      simp only [Sh.iter] at g4
      cases hb : b s with
      | none => simp [hb] at g4
      | some o =>
        rw [hb] at g4
        refine wp_mono (toWp (AWP.at (round s o hb (fun x hx => by subst hx; simpa using g4)) g2 g3)) fun e a2 w2 hp => ?_
        obtain ⟨s1, C2, q1, q2, q3, q4⟩ := hp
        subst q1
        cases e with
        | goto l' =>
          obtain ⟨rfl, s', rfl, h2⟩ := q4
          have hf' := fit q2 q3 h2 g4
          refine ⟨rfl, ⟨_, hf'⟩, ?_⟩
          rw [hm]
          have : m a2 C2.w ≤ n := by
            show (if h : ∃ k, Fit a2 C2.w k then Classical.choose (exists_least _ h) else 0) ≤ n
            rw [dif_pos ⟨_, hf'⟩]
            exact (Classical.choose_spec (exists_least _ ⟨_, hf'⟩)).2 _ hf'
          omega
        | _ => exact ⟨s1, C2, rfl, q2, q3, q4⟩
end
end Go.Av
end

section
/- Regions in whatever order is drawn: what writes stands where it must; what only computes may stand elsewhere. -/
namespace Go.Av
open Go.RowKit (Below)

/-- Of each operation: whether it does the same whatever the heap is, and whether it turns the heap. -/
abbrev Flags := List (Bool × Bool)
def Flags.calm (fs : Flags) (i : Nat) : Bool := (fs.getD i (false, true)).1 && !(fs.getD i (false, true)).2
def Flags.loud (fs : Flags) (i : Nat) : Bool := (fs.getD i (false, true)).2

def calmB (md : Region.Mode) (ops : Array Oper) (fs : Flags) (listed : Array Bool) (i : Nat) : Bool :=
  (List.range ops.size).all fun j => j == i || listed.getD j true || match ops[j]? with
    | some oj => oj.after.any (fun e => Region.binds md e && e.on == i) || ((!fs.loud j || fs.calm i) && (!fs.loud i || fs.calm j))
    | none => true

def lexH (md : Region.Mode) (ops : Array Oper) (fs : Flags) : Nat → Nat → Array Bool → Bool
  | 0, _, listed => (Region.ready md ops listed).isEmpty
  | f + 1, k, listed => (match ops[k]? with
      | some _ => decide (Region.ready md ops listed = [k]) || ((Region.ready md ops listed).contains k && Region.free md ops listed k && calmB md ops fs listed k)
      | none => false) && lexH md ops fs f (k + 1) (listed.setIfInBounds k true)

def drawB (fs : Flags) (ops : Array Oper) : Bool := lexH .any ops fs ops.size 0 (Array.replicate ops.size false)

section
variable {P : Program} {W0 : Base} {N : Nat} {C : Ctx} {fr : Fr} {a : Act} {H : Heap} {ops : Array Oper} {md : Region.Mode} {fs : Flags}

def YieldsH (P : Program) (W0 : Base) (ops : Array Oper) (fs : Flags) (i : Nat) (o : Oper) (r : AV) (H1 : Heap) (fr : Fr) (H : Heap) : Prop :=
  (wantA ops fr o = some true ∧ AOp P W0 o fr H r H1 ∧ (fs.loud i = false → H1 = H) ∧ (fs.calm i = true → ∀ H', AOp P W0 o fr H' r H')) ∨ (wantA ops fr o = some false ∧ r = .tuple [] ∧ H1 = H)

theorem YieldsH.quiet {i : Nat} {o : Oper} {r : AV} {H1 : Heap} (h : YieldsH P W0 ops fs i o r H1 fr H) (hq : fs.loud i = false) : H1 = H := by
  rcases h with ⟨_, _, h, _⟩ | ⟨_, _, h⟩
  · exact h hq
  · exact h

theorem calm_quiet {i : Nat} (h : fs.calm i = true) : fs.loud i = false := by
  simp only [Flags.calm, Bool.and_eq_true, Bool.not_eq_true'] at h
  exact h.2

theorem YieldsH.dry {i : Nat} {o : Oper} {r : AV} {H1 : Heap} (h : YieldsH P W0 ops fs i o r H1 fr H) (hd : fs.calm i = true) (H' : Heap) : YieldsH P W0 ops fs i o r H' fr H' := by
  rcases h with ⟨h1, _, _, h2⟩ | ⟨h1, h2, _⟩
  · exact .inl ⟨h1, h2 hd H', fun _ => rfl, h2⟩
  · exact .inr ⟨h1, h2, rfl⟩

theorem aop_put {o : Oper} {r : AV} {H1 : Heap} {dst : Option Nat} {s : AV} (hd : ∀ d, dst = some d → d ∉ o.looksAt ops) : AOp P W0 o (fr.put dst s) H r H1 ↔ AOp P W0 o fr H r H1 := by
  have hR : ∀ C (a : Act) (x : Operand), x ∈ o.op.operands → (RepO C (fr.put dst s) a x ↔ RepO C fr a x) := fun C a x hx => by
    unfold RepO
    constructor
    · intro h t ht av hav
      subst ht
      exact h t rfl av (by rw [Fr.put_other (fun he => hd t he (mem_looksAt_tmp hx))]; exact hav)
    · intro h t ht av hav
      subst ht
      rw [Fr.put_other (fun he => hd t he (mem_looksAt_tmp hx))] at hav
      exact h t rfl av hav
  unfold AOp
  constructor
  · exact fun h2 C a hI hH hx => h2 C a hI hH (fun x hm => (hR C a x hm).2 (hx x hm))
  · exact fun h2 C a hI hH hx => h2 C a hI hH (fun x hm => (hR C a x hm).1 (hx x hm))

theorem wantA_put {o : Oper} {dst : Option Nat} {s : AV} (hd : ∀ d, dst = some d → d ∉ o.looksAt ops) : wantA ops (fr.put dst s) o = wantA ops fr o := by
  unfold wantA
  cases hg : o.guard with
  | none => rfl
  | some p =>
    obtain ⟨j, b⟩ := p
    simp only
    cases hj : (ops[j]?).bind (·.dst) with
    | none => rfl
    | some d =>
      simp only
      rw [Fr.put_other]
      intro he
      exact hd d he (by unfold Oper.looksAt; exact List.mem_append_right _ (by simp [hg, hj]))

theorem YieldsH.put {i : Nat} {o : Oper} {r : AV} {H1 : Heap} {dst : Option Nat} {s : AV} (hd : ∀ d, dst = some d → d ∉ o.looksAt ops) : YieldsH P W0 ops fs i o r H1 (fr.put dst s) H ↔ YieldsH P W0 ops fs i o r H1 fr H := by
  unfold YieldsH
  rw [wantA_put hd, aop_put hd]
  have : (∀ H', AOp P W0 o (fr.put dst s) H' r H') ↔ ∀ H', AOp P W0 o fr H' r H' := forall_congr' fun H' => aop_put hd
  rw [this]

def AStH (P : Program) (W0 : Base) (ops : Array Oper) (fs : Flags) (i : Nat) (K : Fr → Heap → Prop) (fr : Fr) (H : Heap) : Prop :=
  match ops[i]? with
  | none => K fr H
  | some o => ∃ r H1, YieldsH P W0 ops fs i o r H1 fr H ∧ K (fr.put o.dst r) H1

theorem AStH.of {i : Nat} {o : Oper} {r : AV} {H1 : Heap} {K : Fr → Heap → Prop} (hi : ops[i]? = some o) (hy : YieldsH P W0 ops fs i o r H1 fr H) (h : K (fr.put o.dst r) H1) : AStH P W0 ops fs i K fr H := by
  unfold AStH
  simp only [hi]
  exact ⟨r, H1, hy, h⟩

def AAnyH (P : Program) (W0 : Base) (md : Region.Mode) (ops : Array Oper) (fs : Flags) (L : Fr → Heap → Prop) : Nat → Array Bool → Fr → Heap → Prop
  | 0, listed, fr, H => Region.ready md ops listed = [] ∧ L fr H
  | f + 1, listed, fr, H => Region.ready md ops listed ≠ [] ∧ ∀ i ∈ Region.ready md ops listed, AStH P W0 ops fs i (AAnyH P W0 md ops fs L f (listed.setIfInBounds i true)) fr H

theorem wantA_mono {o : Oper} {fr0 : Fr} {b : Bool} (hk : ∀ t x, fr0 t = some x → fr t = some x) (h : wantA ops fr0 o = some b) : wantA ops fr o = some b := by
  unfold wantA at *
  split at h
  · assumption
  · split at h
    · split at h
      · rename_i hc; simp only [hk _ _ hc]; exact h
      · rename_i hc; simp only [hk _ _ hc]; exact h
      · cases h
    · cases h

theorem AOp.mono {o : Oper} {fr0 : Fr} {r : AV} {H1 : Heap} (hk : ∀ t x, fr0 t = some x → fr t = some x) (h : AOp P W0 o fr0 H r H1) : AOp P W0 o fr H r H1 :=
  fun C a hI hH hx => h C a hI hH (fun x hm t ht av hav => hx x hm t ht av (hk t av hav))

theorem YieldsH.mono {i : Nat} {o : Oper} {fr0 : Fr} {r : AV} {H1 : Heap} (hk : ∀ t x, fr0 t = some x → fr t = some x) (h : YieldsH P W0 ops fs i o r H1 fr0 H) : YieldsH P W0 ops fs i o r H1 fr H := by
  rcases h with ⟨h1, h2, h3, h4⟩ | ⟨h1, h2⟩
  · exact .inl ⟨wantA_mono hk h1, h2.mono hk, h3, fun hd H' => (h4 hd H').mono hk⟩
  · exact .inr ⟨wantA_mono hk h1, h2⟩

theorem put_mono {fr0 : Fr} {dst : Option Nat} {r : AV} (hk : ∀ t x, fr0 t = some x → fr t = some x) : ∀ t x, fr0.put dst r t = some x → fr.put dst r t = some x := by
  cases dst with
  | none => exact hk
  | some d =>
    intro t x h
    simp only [Fr.put] at *
    split at h
    · rename_i ht; rw [if_pos ht]; exact h
    · rename_i ht; rw [if_neg ht]; exact hk t x h

theorem AAnyH.mono {L : Fr → Heap → Prop} (hL : ∀ fr0 fr H, (∀ t x, fr0 t = some x → fr t = some x) → L fr0 H → L fr H) : ∀ (f : Nat) (listed : Array Bool) (fr0 fr : Fr) (H : Heap), (∀ t x, fr0 t = some x → fr t = some x) → AAnyH P W0 md ops fs L f listed fr0 H → AAnyH P W0 md ops fs L f listed fr H
  | 0, _, _, _, _, hk, h => ⟨h.1, hL _ _ _ hk h.2⟩
  | f + 1, listed, fr0, fr, H, hk, h => ⟨h.1, fun i hi => by
    have h1 := h.2 i hi
    unfold AStH at *
    split
    · rename_i ho; simp only [ho] at h1; exact AAnyH.mono hL f _ _ _ _ hk h1
    · rename_i o ho
      simp only [ho] at h1
      obtain ⟨r, H1, hy, hK⟩ := h1
      exact ⟨r, H1, hy.mono hk, AAnyH.mono hL f _ _ _ _ (put_mono hk) hK⟩⟩

theorem AAnyH_first {i : Nat} {oi : Oper} {v : AV} {L : Fr → Heap → Prop} (hi : ops[i]? = some oi) :
    ∀ (f : Nat) (listed : Array Bool) (fr : Fr) (H H1 : Heap),
      (∀ j oj, ops[j]? = some oj → j ≠ i → listed.getD j true = false → (∀ e ∈ oj.after, Region.binds md e = true → e.on ≠ i) → oi.apart ops oj = true ∧ (fs.loud j = true → fs.calm i = true) ∧ (fs.loud i = true → fs.calm j = true)) →
      i ∈ Region.ready md ops listed → YieldsH P W0 ops fs i oi v H1 fr H →
      AAnyH P W0 md ops fs L f (listed.setIfInBounds i true) (fr.put oi.dst v) H1 → AAnyH P W0 md ops fs L (f + 1) listed fr H := by
  intro f
  induction f with
  | zero =>
    intro listed fr H H1 _ hr hy HL
    refine ⟨fun h => (by rw [h] at hr; cases hr), fun j hjr => ?_⟩
    by_cases hji : j = i
    · subst hji; exact .of hi hy HL
    · have h1 := ready_mono hjr hji
      rw [HL.1] at h1; cases h1
  | succ f ih =>
    intro listed fr H H1 hfree hr hy HL
    have hun := (mem_ready.1 hr).1
    refine ⟨fun h => (by rw [h] at hr; cases hr), fun j hjr => ?_⟩
    by_cases hji : j = i
    · subst hji; exact .of hi hy HL
    · have h1 := HL.2 j (ready_mono hjr hji)
      obtain ⟨hjun, oj, hoj, hall⟩ := mem_ready.1 hjr
      have hnot : ∀ e ∈ oj.after, Region.binds md e = true → e.on ≠ i := fun e he hb heq => by
        have h2 := hall e he hb
        rw [heq, getD_both hun] at h2
        cases h2
      obtain ⟨hap, hdr, hdr2⟩ := hfree j oj hoj hji hjun hnot
      obtain ⟨a1, a2, a3⟩ := Oper.apart_spec hap
      unfold AStH at h1
      simp only [hoj] at h1
      obtain ⟨s, H2, hs, hK⟩ := h1
      rw [YieldsH.put a1] at hs
      have rest : ∀ k ok, ops[k]? = some ok → k ≠ i → (listed.setIfInBounds j true).getD k true = false → (∀ e ∈ ok.after, Region.binds md e = true → e.on ≠ i) → oi.apart ops ok = true ∧ (fs.loud k = true → fs.calm i = true) ∧ (fs.loud i = true → fs.calm k = true) := fun k ok hk hki hku hno => by
        refine hfree k ok hk hki ?_ hno
        by_cases hjk : j = k
        · subst hjk; exact hjun
        · rw [getD_set_ne true hjk] at hku; exact hku
      cases hli : fs.loud i with
      | true =>
        -- what turns the heap stays where it is; the other one does the same in any heap
        have hcj := hdr2 hli
        have hH2 := hs.quiet (calm_quiet hcj)
        subst hH2
        refine .of hoj (hs.dry hcj H) (ih (listed.setIfInBounds j true) (fr.put oj.dst s) H H2 rest (ready_mono hr (Ne.symm hji)) ((YieldsH.put a3).2 hy) ?_)
        rw [Array.setIfInBounds_comm _ _ hji, ← Fr.put_comm fr v s a2]
        exact hK
      | false =>
        have hH1 := hy.quiet hli
        subst hH1
        have hy' : YieldsH P W0 ops fs i oi v H2 fr H2 := by
          cases hl : fs.loud j with
          | true => exact hy.dry (hdr hl) H2
          | false => rw [hs.quiet hl]; exact hy
        refine .of hoj hs (ih (listed.setIfInBounds j true) (fr.put oj.dst s) H2 H2 rest (ready_mono hr (Ne.symm hji)) ((YieldsH.put a3).2 hy') ?_)
        rw [Array.setIfInBounds_comm _ _ hji, ← Fr.put_comm fr v s a2]
        exact hK

/-- The operations in the order of the text, from the k-th on. -/
inductive ARunH (P : Program) (W0 : Base) (ops : Array Oper) (fs : Flags) : Nat → List Oper → Fr → Heap → Fr → Heap → Prop
  | nil (k : Nat) (fr : Fr) (H : Heap) : ARunH P W0 ops fs k [] fr H fr H
  | op {k : Nat} {o : Oper} {rest : List Oper} {fr fr' : Fr} {H H1 H' : Heap} {r : AV} : YieldsH P W0 ops fs k o r H1 fr H → ARunH P W0 ops fs (k + 1) rest (fr.put o.dst r) H1 fr' H' → ARunH P W0 ops fs k (o :: rest) fr H fr' H'
  | drop {k : Nat} {l : List Oper} {fr fr0 fr' : Fr} {H H' : Heap} : (∀ t x, fr0 t = some x → fr t = some x) → ARunH P W0 ops fs k l fr0 H fr' H' → ARunH P W0 ops fs k l fr H fr' H'

theorem calm_spec {i : Nat} {listed : Array Bool} (h : calmB md ops fs listed i = true) (j : Nat) (oj : Oper)
    (hj : ops[j]? = some oj) (hne : j ≠ i) (hun : listed.getD j true = false) (hno : ∀ e ∈ oj.after, Region.binds md e = true → e.on ≠ i) : (fs.loud j = true → fs.calm i = true) ∧ (fs.loud i = true → fs.calm j = true) := by
  simp only [calmB, List.all_eq_true, List.mem_range] at h
  have h1 := h j (Array.getElem?_eq_some_iff.1 hj).1
  simp only [hj, Bool.or_eq_true, beq_iff_eq, hne, false_or, hun, Bool.false_eq_true] at h1
  rcases h1 with h1 | h1
  · obtain ⟨e, he, hb⟩ := Array.any_eq_true'.1 h1
    simp only [Bool.and_eq_true, beq_iff_eq] at hb
    exact absurd hb.2 (hno e he hb.1)
  · simp only [Bool.and_eq_true, Bool.or_eq_true, Bool.not_eq_true'] at h1
    refine ⟨fun h => ?_, fun h => ?_⟩
    · rcases h1.1 with h2 | h2
      · rw [h] at h2; cases h2
      · exact h2
    · rcases h1.2 with h2 | h2
      · rw [h] at h2; cases h2
      · exact h2

theorem AAnyH_lex {L : Fr → Heap → Prop} (hL : ∀ fr0 fr H, (∀ t x, fr0 t = some x → fr t = some x) → L fr0 H → L fr H) {k : Nat} {l : List Oper} {fr fr' : Fr} {H H' : Heap} (h : ARunH P W0 ops fs k l fr H fr' H') : ∀ (listed : Array Bool), (∀ j, j < l.length → l[j]? = ops[k + j]?) → lexH md ops fs l.length k listed = true → L fr' H' →
      AAnyH P W0 md ops fs L l.length listed fr H := by
  induction h with
  | nil k fr H => intro listed _ hc hQ; exact ⟨by simpa [lexH] using hc, hQ⟩
  | drop hk _ ih => intro listed hl hc hQ; exact AAnyH.mono hL _ _ _ _ _ hk (ih listed hl hc hQ)
  | @op k o l fr fr' H H1 H' r hy h' ih =>
    intro listed hl hc hQ
    have h0 : ops[k]? = some o := by simpa using (hl 0 (by simp)).symm
    simp only [List.length_cons, lexH, h0, Bool.and_eq_true] at hc
    obtain ⟨hc1, hc2⟩ := hc
    have rest := ih _ (fun j hjl => by have := hl (j + 1) (by simp; omega); simpa [Nat.add_assoc, Nat.add_comm 1 j] using this) hc2 hQ
    simp only [Bool.or_eq_true, decide_eq_true_eq, Bool.and_eq_true] at hc1
    rcases hc1 with hc1 | ⟨⟨g1, g2⟩, g3⟩
    · refine ⟨fun he => (by rw [hc1] at he; cases he), fun j hj => ?_⟩
      rw [hc1] at hj
      have : j = k := by simpa using hj
      subst this
      exact .of h0 hy rest
    · have hr : k ∈ Region.ready md ops listed := by simpa using g1
      exact AAnyH_first h0 l.length listed fr _ _ (fun j oj hj hne hun hno => ⟨Region.free_spec h0 g2 j oj hj hne hun hno, calm_spec g3 j oj hj hne hun hno⟩) hr hy rest

theorem wpAny_of_AAnyH {L : Fr → Heap → Prop} {Q : Exit → Act → World → Prop} (hN : ∀ o ∈ ops, dstOk N o = true) :
    ∀ (f : Nat) (listed : Array Bool) (fr : Fr) (H : Heap) (C : Ctx) (a : Act), Rel W0 N fr H C a →
      (∀ fr H C' a', Ext C C' → Rel W0 N fr H C' a' → L fr H → Q .normal a' C'.w) → AAnyH P W0 md ops fs L f listed fr H → wpAny P md ops Q f listed a C.w
  | 0, listed, fr, H, C, a, hr, hL, h => ⟨h.1, hL _ _ C a (.refl C) hr h.2⟩
  | f + 1, listed, fr, H, C, a, hr, hL, h => by
    refine ⟨fun h0 => absurd h0 h.1, fun i hi => ?_⟩
    have h1 := h.2 i hi
    obtain ⟨_, o, ho, _⟩ := mem_ready.1 hi
    unfold AStH at h1
    simp only [ho] at h1
    obtain ⟨r, H1, hy, hK⟩ := h1
    have hd : ∀ d, o.dst = some d → d < N := dstOk.lt (hN o (Array.mem_of_getElem? ho))
    unfold wpOp
    simp only [ho]
    rcases hy with ⟨hw, hop, _, _⟩ | ⟨hw, rfl, rfl⟩
    · rw [wantA_spec hr.rep hw]
      simp only [if_true]
      refine .inl (hop C a hr.inv hr.heap (fun x _ t _ av hav => hr.rep t av hav) _ _ (fun v C' he hi' hH hv => ?_))
      exact wpAny_of_AAnyH hN f _ _ _ C' _ (hr.put he hi' hH hv hd) (fun f2 H2 C2 a2 h2 => hL f2 H2 C2 a2 (he.trans h2)) hK
    · rw [wantA_spec hr.rep hw]
      simp only [Bool.false_eq_true, if_false]
      exact wpAny_of_AAnyH hN f _ _ _ C _ (hr.put (.refl C) hr.inv hr.heap rep_skip hd) hL hK

/-- The operations that are left, from a state, end in a state of which K holds. -/
def ARH (P : Program) (W0 : Base) (ops : Array Oper) (fs : Flags) (k : Nat) (l : List Oper) (fr : List (Nat × AV)) (H : Heap) (K : List (Nat × AV) → Heap → Prop) : Prop :=
  ∃ fr' H', ARunH P W0 ops fs k l (lk fr) H (lk fr') H' ∧ K fr' H'

variable {Q : Exit → St → Prop} {frl : List (Nat × AV)} {K : List (Nat × AV) → Heap → Prop} {o : Oper} {rest : List Oper} {k : Nat}

theorem ARH.nil (h : K frl H) : ARH P W0 ops fs k [] frl H K := ⟨frl, H, .nil _ _ _, h⟩
theorem ARH.drop {l : List Oper} {frx : List (Nat × AV)} (h : Keeps frl frx) (h2 : ARH P W0 ops fs k l frx H K) : ARH P W0 ops fs k l frl H K := by
  obtain ⟨fr', H', h1, h2⟩ := h2
  exact ⟨fr', H', .drop (Keeps.lk h) h1, h2⟩
theorem ARH.step {r : AV} {H1 : Heap} (h : YieldsH P W0 ops fs k o r H1 (lk frl) H) (h2 : ARH P W0 ops fs (k + 1) rest (putL frl o.dst r) H1 K) : ARH P W0 ops fs k (o :: rest) frl H K := by
  obtain ⟨fr', H', h1, h2⟩ := h2
  rw [lk_putL] at h1
  exact ⟨fr', H', .op h h1, h2⟩
theorem ARH.skip (hw : wantA ops (lk frl) o = some false) (h2 : ARH P W0 ops fs (k + 1) rest (putL frl o.dst (.tuple [])) H K) : ARH P W0 ops fs k (o :: rest) frl H K := .step (.inr ⟨hw, rfl, rfl⟩) h2
/-- What does the same in any heap. -/
theorem ARH.dry {r : AV} (hw : wantA ops (lk frl) o = some true) (h : ∀ H', AOp P W0 o (lk frl) H' r H') (h2 : ARH P W0 ops fs (k + 1) rest (putL frl o.dst r) H K) : ARH P W0 ops fs k (o :: rest) frl H K :=
  .step (.inl ⟨hw, h H, fun _ => rfl, fun _ => h⟩) h2
/-- What only reads. -/
theorem ARH.op {r : AV} (hw : wantA ops (lk frl) o = some true) (hd : fs.calm k = false) (h : AOp P W0 o (lk frl) H r H) (h2 : ARH P W0 ops fs (k + 1) rest (putL frl o.dst r) H K) : ARH P W0 ops fs k (o :: rest) frl H K :=
  .step (.inl ⟨hw, h, fun _ => rfl, fun he => by rw [hd] at he; cases he⟩) h2
/-- What writes. -/
theorem ARH.loud {r : AV} {H1 : Heap} (hw : wantA ops (lk frl) o = some true) (hl : fs.loud k = true) (h : AOp P W0 o (lk frl) H r H1) (h2 : ARH P W0 ops fs (k + 1) rest (putL frl o.dst r) H1 K) : ARH P W0 ops fs k (o :: rest) frl H K :=
  .step (.inl ⟨hw, h, (fun he => by rw [hl] at he; cases he), (fun he => by have := calm_quiet he; rw [hl] at this; cases this)⟩) h2

theorem awp_any (fs : Flags) {id : Nat} {l : List Oper} (hm : P.follows .mixedOrders = true) (hB : drawB fs l.toArray = true) (hN : l.all (dstOk N) = true) (h : ARH P W0 l.toArray fs 0 l frl H (fun f g => Q .normal ⟨f, g⟩)) (hro : W0.ro = none := by rfl) : AWP P W0 N (.region id l.toArray true) ⟨frl, H⟩ Q := fun C a hr => by
  obtain ⟨fr', H', h1, h2⟩ := h
  obtain ⟨hE, hR⟩ := rel_drew hr
  rw [hro, fw_none]
  refine wpIn_wide.2 (wp_region_any hm ?_)
  have hB' : lexH .any l.toArray fs l.length 0 (Array.replicate l.toArray.size false) = true := by simpa [drawB] using hB
  have key := AAnyH_lex (P := P) (W0 := W0) (md := .any) (ops := l.toArray) (L := fun f g => (∀ t x, lk fr' t = some x → f t = some x) ∧ g = H') (fun fr0 fr H hk hL => ⟨fun t x h => hk t x (hL.1 t x h), hL.2⟩) h1 (Array.replicate l.toArray.size false) (fun j _ => by simp) hB' ⟨fun t x h => h, rfl⟩
  have := wpAny_of_AAnyH (P := P) (Q := Post W0 N C Q) (fun o ho => List.all_eq_true.1 hN o (by simpa using ho)) _ _ _ _ _ _ hR (fun f g C' a' he hrel hL => by
    obtain ⟨hk, rfl⟩ := hL
    exact ⟨⟨fr', g⟩, C', rfl, (hE.trans he).mem, ⟨hrel.heap, hrel.inv, hrel.size, hrel.defers, fun t x hx => hrel.rep t x (hk t x hx)⟩, h2⟩) key
  simpa [Ctx.inW] using this
end
end Go.Av
end

section
/- Structs of numbers, held against each other. -/
namespace Go.Av
open Go

/-- All fields are ints, one behind the other. -/
def intsB (P : Program) (t : TypeId) (n : Nat) : Bool :=
  (match P.underlying t with
    | some (.struct fs) => decide (fs.size = n) && (fs.toList.zipIdx.all fun p => p.1.offset == p.2 && p.1.name != "_" && (match P.underlying p.1.type with | some (.int .i64) => true | _ => false))
    | _ => false) && !P.stoodInHeld t && !P.eqGuardType P.depth t

section
variable {P : Program} {W0 : Base} {fr : Fr} {H : Heap} {o : Oper}

theorem part_int {t : TypeId} {cs : Array Value} {off : Nat} {v : Value} (ht : P.underlying t = some (.int .i64)) (hv : cs[off]? = some v) (w : World) : (part t cs off).run P w = .ok v w := by
  have h : (isAgg t).run P w = .ok false w := by
    simp only [isAgg, Sem.run_bind, run_underlying ht, Result.andThen_ok]
    rfl
  unfold part
  rw [Sem.run_bind, h]
  simp [hv]

theorem run_eqFields (d : Nat) (w : World) (as bs : List Int) (hl : as.length = bs.length) : ∀ (fs : List Field) (k : Nat), (fs.zipIdx k).all (fun p => p.1.offset == p.2 && p.1.name != "_" && (match P.underlying p.1.type with | some (.int .i64) => true | _ => false)) = true → k + fs.length = as.length →
    (Op.eqFields (d + 1) (as.map fun n => Value.int .i64 n).toArray (bs.map fun n => Value.int .i64 n).toArray fs).run P w = .ok (decide (as.drop k = bs.drop k)) w
  | [], k, _, hk => by
    have h1 : as.drop k = [] := List.drop_eq_nil_of_le (by simp at hk; omega)
    have h2 : bs.drop k = [] := List.drop_eq_nil_of_le (by simp at hk; omega)
    simp [Op.eqFields, h1, h2]
  | f :: fs, k, h, hk => by
    simp only [List.zipIdx_cons, List.all_cons, Bool.and_eq_true, beq_iff_eq, bne_iff_ne] at h
    obtain ⟨⟨⟨h1, h2⟩, h3⟩, h4⟩ := h
    have hu : P.underlying f.type = some (.int .i64) := by
      split at h3
      · assumption
      · cases h3
    simp only [List.length_cons] at hk
    have hka : k < as.length := by omega
    have hkb : k < bs.length := by omega
    have ga : (as.map fun n => Value.int .i64 n).toArray[f.offset]? = some (.int .i64 as[k]) := by simp [h1, hka]
    have gb : (bs.map fun n => Value.int .i64 n).toArray[f.offset]? = some (.int .i64 bs[k]) := by simp [h1, hkb]
    have ih := run_eqFields d w as bs hl fs (k + 1) h4 (by omega)
    rw [List.drop_eq_getElem_cons hka, List.drop_eq_getElem_cons hkb]
    unfold Op.eqFields
    rw [if_pos h2, Sem.run_bind, part_int hu ga]
    simp only [Result.andThen_ok]
    rw [Sem.run_bind, part_int hu gb]
    simp only [Result.andThen_ok]
    rw [Sem.run_bind, run_equalIn_int w d f.type .i64 .i64 as[k] bs[k] hu]
    simp only [Result.andThen_ok]
    generalize as.drop (k + 1) = A at ih ⊢
    generalize bs.drop (k + 1) = B at ih ⊢
    generalize as[k] = x
    generalize bs[k] = y
    by_cases he : x = y
    · simp [he, ih]
    · simp [he]

theorem run_eq_ints {t : TypeId} {n : Nat} (ht : intsB P t n = true) (as bs : List Int) (ha : as.length = n) (hb : bs.length = n) (w : World) :
    (Op.equalIn 10000 t (.agg (as.map fun n => Value.int .i64 n).toArray) (.agg (bs.map fun n => Value.int .i64 n).toArray)).run P w = .ok (decide (as = bs)) w ∧ P.eqGuardType P.depth t = false := by
  simp only [intsB, Bool.and_eq_true, Bool.not_eq_true'] at ht
  obtain ⟨⟨h1, h2⟩, h3⟩ := ht
  refine ⟨?_, h3⟩
  split at h1
  · rename_i fs hu
    simp only [Bool.and_eq_true, decide_eq_true_eq] at h1
    obtain ⟨h4, h5⟩ := h1
    have hf : P.fieldsOf t = fs := by simp [Program.fieldsOf, hu]
    have h6 := run_equalIn_struct (P := P) w 9999 t (as.map fun n => Value.int .i64 n).toArray (bs.map fun n => Value.int .i64 n).toArray (by rw [hf]; exact hu) h2
    rw [h6, hf]
    have := run_eqFields (P := P) 9998 w as bs (by omega) fs.toList 0 h5 (by simp; omega)
    simpa using this
  · cases h1

theorem rep_ints {C : Ctx} {l : List Int} {v : Value} (h : Rep C (.agg (l.map i64)) v) : v = .agg (l.map fun n => Value.int .i64 n).toArray := by
  refine rep_toV (x := .agg (l.map i64)) ?_ h
  have : toVs (l.map i64) = some (l.map fun n => Value.int .i64 n) := by
    clear h
    induction l with
    | nil => rfl
    | cons a l ih => simp [toVs, ih]
  simp [AV.toV, this]

theorem t_eq_ints {t t' : TypeId} {n : Nat} {x y : Operand} (as bs : List Int) (ht : intsB P t n = true) (ha : as.length = n) (hb : bs.length = n) (ho : o.op = .binOp .eql t x y t') (hx : evalA fr x = some (.agg (as.map i64))) (hy : evalA fr y = some (.agg (bs.map i64))) : AOp P W0 o fr H (bl (decide (as = bs))) H :=
  .of_pure fun C a _ _ hr => by
    have e1 := rep_ints (rep_eval (hr x (by simp [ho, Op.operands])) hx)
    have e2 := rep_ints (rep_eval (hr y (by simp [ho, Op.operands])) hy)
    obtain ⟨h1, h2⟩ := run_eq_ints (P := P) ht as bs ha hb C.w
    refine ⟨.bool (decide (as = bs)), ?_, .imm _ rfl⟩
    simp only [execOp, ho, e1, e2, Sem.run_bind, run_eqGuard_agg _ _ _ _ _ _ _ h2, Result.andThen_ok, run_eql_struct, h1]
    rfl
theorem t_ne_ints {t t' : TypeId} {n : Nat} {x y : Operand} (as bs : List Int) (ht : intsB P t n = true) (ha : as.length = n) (hb : bs.length = n) (ho : o.op = .binOp .neq t x y t') (hx : evalA fr x = some (.agg (as.map i64))) (hy : evalA fr y = some (.agg (bs.map i64))) : AOp P W0 o fr H (bl (!decide (as = bs))) H :=
  .of_pure fun C a _ _ hr => by
    have e1 := rep_ints (rep_eval (hr x (by simp [ho, Op.operands])) hx)
    have e2 := rep_ints (rep_eval (hr y (by simp [ho, Op.operands])) hy)
    obtain ⟨h1, h2⟩ := run_eq_ints (P := P) ht as bs ha hb C.w
    refine ⟨.bool (!decide (as = bs)), ?_, .imm _ rfl⟩
    simp only [execOp, ho, e1, e2, Sem.run_bind, run_eqGuard_agg _ _ _ _ _ _ _ h2, Result.andThen_ok, run_neq_struct, h1]
    rfl
end
end Go.Av
end

section
/- Arrays of things of one cell: as values of one element of the proof's own; literals of the proof's own. -/
namespace Go.Av
open Go.RowKit (Below)
section
variable {P : Program} {W0 : Base} {C : Ctx} {fr : Fr} {a : Act} {H : Heap} {o : Oper}

/-- A literal that is the proof's own. -/
theorem aop_buildSliceV {t e : TypeId} {s by' len : Nat} {parts : Array (Nat × Operand)} {xo : List Operand} {xs : List AV} (ho : o.op = .buildSlice t len parts) (hp : parts.toList = xo.zipIdx.map fun p => (p.2, p.1)) (hlen : len = xo.length)
    (hxs : xo.mapM (evalA fr) = some xs) (hsol : ∀ x ∈ xs, x.solid = true) (hfl : ∀ x ∈ xs, x.flat.length = s) (ht : elT P t = some (e, s, by')) (hz : (zrT P e).isSome = true) (hsmall : len * s ≤ 16777216) :
    AOp P W0 o fr H (.view H.next 0 xs.length) (H.push s xs) :=
  .of_run fun C a hI hH hop => by
    obtain ⟨hu, i, hi, hs, _⟩ := elT_spec ht
    unfold zrT at hz
    rw [hi] at hz
    obtain ⟨z, hz⟩ := Option.isSome_iff_exists.1 hz
    simp only [Option.bind_some] at hz
    obtain ⟨m1, m2⟩ := mapM_eval xo xs hxs
    have hops : o.op.operands = (parts.toList.map (·.2)).toArray := by simp [ho, Op.operands]
    have hrep : ∀ (k : Nat) (x : AV), xs[k]? = some x → ∃ y, xo[k]? = some y ∧ Rep C x (a.eval y) := fun k x hk => by
      obtain ⟨y, g1, g2⟩ := m2 k x hk
      refine ⟨y, g1, rep_eval (hop y ?_) g2⟩
      rw [hops, hp]
      simp only [List.mem_toArray, List.map_map, List.mem_map]
      exact ⟨(y, k), by rw [List.mem_zipIdx_iff_getElem?]; exact g1, rfl⟩
    let vs := xo.map a.eval
    have hv1 : ∀ v ∈ vs, v.cells.size = s := fun v hv => by
      obtain ⟨k, hk⟩ := List.getElem?_of_mem hv
      simp only [vs, List.getElem?_map, Option.map_eq_some_iff] at hk
      obtain ⟨y, g1, rfl⟩ := hk
      have hlt : k < xs.length := by rw [m1]; exact (List.getElem?_eq_some_iff.1 g1).1
      obtain ⟨y', g2, g3⟩ := hrep k _ (List.getElem?_eq_getElem hlt)
      rw [g1] at g2; cases g2
      rw [(rep_cells g3 (hsol _ (List.getElem_mem hlt))).1]
      exact hfl _ (List.getElem_mem hlt)
    have hsz0 : ∀ n, ((Array.range (len * s)).map (fun q => (n : Array Value)[q % n.size]!)).size = len * s := fun n => by simp
    obtain ⟨cells', f1, f2, f3, f4⟩ := fill_seq s vs 0 ((Array.range (len * s)).map (fun q => ((if len * s = 0 then #[] else z.cells : Array Value))[q % (if len * s = 0 then #[] else z.cells : Array Value).size]!)) hv1
      (by rw [hsz0, hlen]; simp [vs])
    have hcells : cells'.size = len * s := by rw [f2, hsz0]
    have hget : ∀ (k j : Nat) (x y : AV), xs[k]? = some x → x.flat[j]? = some y → ∃ v, cells'[k * s + j]? = some v ∧ Rep C y v := fun k j x y hk hj => by
      obtain ⟨yo, g1, g2⟩ := hrep k x hk
      have hm := List.mem_of_getElem? hk
      obtain ⟨c1, c2, c3⟩ := rep_cells g2 (hsol x hm)
      obtain ⟨u, g3, g4⟩ := c3 j y hj
      have hjs : j < s := by rw [← hfl x hm]; exact (List.getElem?_eq_some_iff.1 hj).1
      have := f4 k (a.eval yo) (by simp only [vs, List.getElem?_map, g1]; rfl) j hjs
      rw [Nat.zero_add] at this
      exact ⟨u, by rw [this]; exact g3, g4⟩
    have hone : ∀ u ∈ cells', u.oneCell' = true := fun u hu => by
      obtain ⟨q, hq⟩ := Array.getElem?_of_mem hu
      have hqlt : q < len * s := by rw [← hcells]; exact (Array.getElem?_eq_some_iff.1 hq).1
      have hs0 : 0 < s := by
        rcases Nat.eq_zero_or_pos s with h | h
        · subst h; simp at hqlt
        · exact h
      have hk : q / s < len := Nat.div_lt_of_lt_mul (by rwa [Nat.mul_comm] at hqlt)
      have hkx : q / s < xs.length := by rw [m1, ← hlen]; exact hk
      obtain ⟨yo, g1, g2⟩ := hrep (q / s) _ (List.getElem?_eq_getElem hkx)
      obtain ⟨c1, c2, c3⟩ := rep_cells g2 (hsol _ (List.getElem_mem hkx))
      have := f4 (q / s) (a.eval yo) (by simp only [vs, List.getElem?_map, g1]; rfl) (q % s) (Nat.mod_lt _ hs0)
      rw [Nat.zero_add, show q / s * s + q % s = q by rw [Nat.mul_comm]; exact Nat.div_add_mod q s, hq] at this
      exact c2 _ u this.symm
    have hl2 : xs.length = len := by rw [m1, hlen]
    have hn := new_object hI cells' e xs s len (by rw [hcells]; exact Nat.le_refl _) (by omega) hone (fun k x hk => hfl x (List.mem_of_getElem? hk)) (fun k j x y v hk hj hv => by
      obtain ⟨v', g1, g2⟩ := hget k j x y hk hj
      rw [g1] at hv; cases hv; exact g2)
    subst hH
    refine ⟨.slice (some ⟨C.w.heap.size, 0, none⟩) len len, _, ?_, hn.1, hn.2, rfl, ?_⟩
    rotate_left
    · refine .view _ 0 xs.length _ (Nat.lt_succ_self _) (fun es he => ?_) rfl
      have hp : ((C.inW (C.w.alloc (.cells cells' e (0, 0)))).push ⟨C.w.heap.size, s, xs.length, len, false⟩ xs).pl C.H.next = ⟨C.w.heap.size, s, xs.length, len, false⟩ := Ctx.pl_push_new (C := C.inW _) _ _
      rw [hp]
      unfold SliceAt
      rw [if_neg (by simp)]
      refine ⟨⟨C.w.heap.size, 0, none⟩, len, by rw [hl2], by simp, by simp, by omega, .inr (by simp)⟩
    have hmap : (parts.toList.map fun (p : Nat × Operand) => (p.1, a.eval p.2)) = (vs.zipIdx 0).map fun p => (p.2, p.1) := by
      rw [hp]
      simp only [vs, List.zipIdx_map, List.map_map]
      rfl
    have hlit : ¬ (16777216 < len * s) := by omega
    have hrun : (Instr.buildSlice t len (parts.map fun (p : Nat × Operand) => (p.1, a.eval p.2))).run P C.w = .ok (.slice (some ⟨C.w.heap.size, 0, none⟩) len len) (C.w.alloc (.cells cells' e)) := by
      by_cases h0 : len * s = 0
      · simp only [h0, if_true] at f1
        have f1' : Instr.fill (fun i => some (i * s, s)) #[] ((vs.zipIdx 0).map fun p => (p.2, p.1)) = some cells' := by
          have e0 : (Array.map (fun q => (#[] : Array Value)[q % (#[] : Array Value).size]!) (Array.range 0)) = #[] := Array.eq_empty_of_size_eq_zero (by simp)
          rw [e0] at f1; exact f1
        have e1 : ∀ g : Nat → Value, Array.map g (Array.range 0) = #[] := fun g => Array.eq_empty_of_size_eq_zero (by simp)
        simp [Instr.buildSlice, run_underlying hu, sizeOf, typeInfo, hi, hs, h0, hmap, e1, f1', newRow]
      · simp only [h0, if_false] at f1
        simp [Instr.buildSlice, run_underlying hu, sizeOf, typeInfo, hi, hs, hz, h0, hlit, hmap, f1, newRow, zeroValue]
    simp only [execOp, ho]
    rw [Sem.run_bind, hrun]
    rfl


end
end Go.Av
namespace Go.Sh
/-- A list of a known length. -/
def whole {α : Type} (n : Nat) (l : List α) : Option (List α) := if l.length = n then some l else none
theorem whole_some {α : Type} {n : Nat} {l m : List α} (h : whole n l = some m) : l.length = n ∧ l = m := by
  unfold whole at h
  split at h
  · rename_i h0; cases h; exact ⟨h0, rfl⟩
  · cases h
def aidx {α : Type} (n : Nat) (l : List α) (i : Int) : Option α := if l.length = n then idx l i else none
theorem aidx_some {α : Type} {n : Nat} {l : List α} {i : Int} {x : α} (h : aidx n l i = some x) : l.length = n ∧ ∃ k : Nat, i = k ∧ l[k]? = some x := by
  unfold aidx at h
  split at h
  · rename_i h0; exact ⟨h0, idx_some h⟩
  · cases h
end Go.Sh
namespace Go.Av
section
variable {P : Program} {W0 : Base} {fr : Fr} {H : Heap} {o : Oper} {α : Type} {enc : α → AV} {l : List α} {i : Int} {x : α} {ki : IntKind}

theorem t_index_arr {t : TypeId} {N id k : Nat} {xo io : Operand} (enc : α → AV) (l : List α) (hi : i = k) (hl : l[k]? = some x) (hN : l.length = N) (ho : o.op = .indexAddr t xo io) (hx : evalA fr xo = some (.ref id 0 0)) (hid : H.get id = some [arA enc l]) (hio : evalA fr io = some (.imm (.int ki i)))
    (ht : arT P t = some (N, 1)) : AOp P W0 o fr H (.ref id 0 k) H :=
  (aop_index_in ho hx hid hio ht hi (by have := (List.getElem?_eq_some_iff.1 hl).1; omega)).conv (by simp)
theorem t_load_arr {t : TypeId} {xo : Operand} {id k : Nat} (enc : α → AV) (l : List α) (hl : l[k]? = some x) (ho : o.op = .load t xo) (hx : evalA fr xo = some (.ref id 0 k)) (hid : H.get id = some [arA enc l])
    (ht : szT P t = some (1, false)) : AOp P W0 o fr H (enc x) H :=
  aop_load_ref ho hx hid (i := 0) (e := arA enc l) rfl ht (by simp [partA, AV.flat, hl])
theorem t_load_whole {t : TypeId} {xo : Operand} {id N : Nat} (enc : α → AV) (l : List α) (hN : l.length = N) (ho : o.op = .load t xo) (hx : evalA fr xo = some (.ref id 0 0)) (hid : H.get id = some [arA enc l])
    (ht : szT P t = some (N, true)) : AOp P W0 o fr H (arA enc l) H :=
  aop_load_ref ho hx hid (i := 0) (e := arA enc l) rfl ht (by subst hN; simp only [partA, arA, AV.flat, if_true, Nat.zero_add, List.length_map, Nat.le_refl, List.drop_zero]; rw [List.take_of_length_le (by simp)])
theorem t_store_arr {t : TypeId} {xo yo : Operand} {id k : Nat} (enc : α → AV) (l : List α) (x' : α) (hi : i = k) (hl : l[k]? = some x) (hfl : (enc x').flat = [enc x']) (hsol : (enc x').solid = true) (ho : o.op = .store t xo yo) (hx : evalA fr xo = some (.ref id 0 k)) (hy : evalA fr yo = some (enc x'))
    (hid : H.get id = some [arA enc l]) (ht : szT P t = some (1, false)) : AOp P W0 o fr H .any (H.set id [arA enc (Sh.set l i x')]) := by
  have hk := (List.getElem?_eq_some_iff.1 hl).1
  have := aop_store (P := P) (W0 := W0) (o := o) (fr := fr) (H := H) (e := arA enc l) (e' := arA enc (Sh.set l i x')) (i := 0) ho hx hy hsol hid rfl ht (by rw [hfl]; rfl) (by simp [AV.flat]; omega) (by
    subst hi
    rw [hfl]
    simp only [AV.flat, Sh.set, Int.toNat_natCast, List.map_set]
    rw [List.set_eq_take_append_cons_drop, if_pos (by simpa using hk)]
    simp)
  exact this
theorem t_store_whole {t : TypeId} {xo yo : Operand} {id N : Nat} (enc : α → AV) (l l' : List α) (hN : l.length = N) (hN' : l'.length = N) (ho : o.op = .store t xo yo) (hx : evalA fr xo = some (.ref id 0 0)) (hy : evalA fr yo = some (arA enc l'))
    (hid : H.get id = some [arA enc l]) (ht : szT P t = some (N, true)) : AOp P W0 o fr H .any (H.set id [arA enc l']) := by
  have := aop_store (P := P) (W0 := W0) (o := o) (fr := fr) (H := H) (e := arA enc l) (e' := arA enc l') (i := 0) (j := 0) ho hx hy rfl hid rfl ht (by simp [AV.flat, hN']) (by simp [AV.flat, hN]) (by
    simp only [AV.flat]
    rw [List.drop_eq_nil_of_le (by simp [hN])]
    simp)
  exact this
theorem t_buildV {t e : TypeId} {s by' len : Nat} {parts : Array (Nat × Operand)} {xo : List Operand} (enc : α → AV) (l : List α) (ho : o.op = .buildSlice t len parts) (hp : parts.toList = xo.zipIdx.map fun p => (p.2, p.1)) (hlen : len = xo.length)
    (hxs : xo.mapM (evalA fr) = some (l.map enc)) (hsol : ∀ x ∈ l.map enc, x.solid = true) (hfl : ∀ x ∈ l.map enc, x.flat.length = s) (ht : elT P t = some (e, s, by')) (hz : (zrT P e).isSome = true) (hsmall : len * s ≤ 16777216) :
    AOp P W0 o fr H (.view H.next 0 (l.map enc).length) (H.push s (l.map enc)) := aop_buildSliceV ho hp hlen hxs hsol hfl ht hz hsmall
/-- A result that lies in a variable. -/
theorem res_arr {q T N id : Nat} {fr : List (Nat × AV)} {H : Heap} (enc : α → AV) (l : List α) (hN : l.length = N) (hx : lk fr q = some (.ref id 0 0)) (hid : H.get id = some [arA enc l]) (ht : szT P T = some (N, true)) : resA P [.cell q T] ⟨fr, H⟩ = some (arA enc l) := by
  subst hN
  have h1 : resOne P ⟨fr, H⟩ (.cell q T) = some (arA enc l) := by
    simp only [resOne, hx, ht, hid]
    simp only [List.getElem?_cons_zero, partA, arA, AV.flat, if_true, Nat.zero_add, List.length_map, Nat.le_refl, List.drop_zero]
    rw [List.take_of_length_le (by simp)]
  simp only [resA, List.mapM_cons, h1, List.mapM_nil]
  rfl
end
end Go.Av
end

section
/- Literals with empty slices in them, or slices of a known end. -/
namespace Go.Av
inductive Wid : AV → AV → Prop
  | same (x : AV) : Wid x x
  | clip (es : List AV) : Wid (.clip es) (.sl es)
  | nil : Wid (.imm (.slice none 0 0)) (.sl [])
def widF : List AV → List AV → Prop
  | [], [] => True
  | x :: xs, y :: ys => Wid x y ∧ widF xs ys
  | _, _ => False
def widEs : List AV → List AV → Prop
  | [], [] => True
  | e :: es, y :: ys => widF e.flat y.flat ∧ widEs es ys
  | _, _ => False
section
variable {P : Program} {W0 : Base} {C : Ctx} {fr : Fr} {H H' : Heap} {o : Oper}

theorem Wid.rep {a b : AV} {v : Value} (h : Wid a b) (r : Rep C a v) : Rep C b v := by
  cases h with
  | same => exact r
  | clip es =>
    match r with
    | .clipNil a => exact .slNil a 0
    | .clip _ b off sz c h1 h2 h3 h4 h5 => exact .sl es b off sz es.length c h1 h2 (Nat.le_refl _) h3 h4 h5
  | nil =>
    have := rep_toV (v := .slice none 0 0) rfl r
    subst this
    exact .slNil _ _
theorem widF.spec : ∀ {xs ys : List AV}, widF xs ys → xs.length = ys.length ∧ ∀ (j : Nat) (y : AV), ys[j]? = some y → ∃ x, xs[j]? = some x ∧ Wid x y
  | [], [], _ => ⟨rfl, fun j y h => by simp at h⟩
  | x :: xs, y :: ys, h => by
    obtain ⟨a, b⟩ := widF.spec h.2
    refine ⟨by simp [a], fun j z hz => ?_⟩
    cases j with
    | zero => simp at hz; subst hz; exact ⟨x, rfl, h.1⟩
    | succ j => simpa using b j z (by simpa using hz)
  | [], _ :: _, h => h.elim
  | _ :: _, [], h => h.elim
theorem widEs.spec : ∀ {es ys : List AV}, widEs es ys → es.length = ys.length ∧ ∀ (i : Nat) (y : AV), ys[i]? = some y → ∃ e, es[i]? = some e ∧ widF e.flat y.flat
  | [], [], _ => ⟨rfl, fun j y h => by simp at h⟩
  | x :: xs, y :: ys, h => by
    obtain ⟨a, b⟩ := widEs.spec h.2
    refine ⟨by simp [a], fun j z hz => ?_⟩
    cases j with
    | zero => simp at hz; subst hz; exact ⟨x, rfl, h.1⟩
    | succ j => simpa using b j z (by simpa using hz)
  | [], _ :: _, h => h.elim
  | _ :: _, [], h => h.elim
theorem clip_wid {es ys : List AV} {v : Value} (h : widEs es ys) (r : Rep C (.clip es) v) : Rep C (.clip ys) v := by
  obtain ⟨hl, hs⟩ := h.spec
  match r with
  | .clipNil a =>
    have : ys = [] := List.eq_nil_of_length_eq_zero (by simpa using hl.symm)
    subst this
    exact .clipNil a
  | .clip _ b off sz c h1 h2 h3 h4 h5 =>
    rw [hl]
    refine .clip ys b off sz c h1 h2 (fun i y hy => ?_) (fun i j y z hy hz => ?_) (fun i j y z hy hz => ?_)
    · obtain ⟨e, he, hw⟩ := hs i y hy
      rw [← hw.spec.1]; exact h3 i e he
    · obtain ⟨e, he, hw⟩ := hs i y hy
      obtain ⟨x, hx, _⟩ := hw.spec.2 j z hz
      exact h4 i j e x he hx
    · obtain ⟨e, he, hw⟩ := hs i y hy
      obtain ⟨x, hx, hxy⟩ := hw.spec.2 j z hz
      exact hxy.rep (h5 i j e x he hx)
theorem AOp.clipw {es ys : List AV} (h : AOp P W0 o fr H (.clip es) H') (hw : widEs es ys) : AOp P W0 o fr H (.clip ys) H' := by
  intro C a hI hH hop K Q hK
  exact h C a hI hH hop K Q (fun v C' h1 h2 h3 h4 => hK v C' h1 h2 h3 (clip_wid hw h4))
end
end Go.Av
end

section
/- Calls of what writes into what is the caller's own: a part of the heap is handed over, and comes back. -/
namespace Go.Av

/-- What a function does with objects of its caller's: the first so many of them keep their numbers. -/
structure Fun3 (P : Program) (B : Base) (f : FuncId) (xs : List AV) (Hin : Heap) (r : AV) (Hout : Heap) : Prop where
  call : Callable P f
  runs : ∀ (C : Ctx) (vals : Array Value), Inv B C → C.H = Hin → C.dfs = [] → vals.size = xs.length → (∀ (k : Nat) (x : AV), xs[k]? = some x → Rep C x (vals.getD k undef)) →
    Calls P f vals C.w (fun e w' => ∃ v C', e = .returned v ∧ C'.w = w' ∧ Mem C C' ∧ Inv B C' ∧ C'.H = Hout ∧ C'.dfs = [] ∧ Rep C' r v)

section
variable {P : Program} {W0 : Base} {C : Ctx} {fr : Fr} {a : Act} {H : Heap} {o : Oper} {N : Nat}

theorem fun3_of_awp {B : Base} {f : FuncId} {fn : Func} {c : Code} {xs : List AV} {r : AV} {Hin Hr : Heap} (hro : B.ro = none) (hf : P.funcs[f]? = some fn) (hb : fn.body = some c) (hname : (fn.name == "runtime.NumGoroutine") = false) (hN : fn.ntmps = N) (hxN : xs.length ≤ N)
    (h : AWP P B N c ⟨argsFr 0 xs, Hin⟩ (fun e s => (e = .normal ∨ e = .ret) ∧ ∃ q, resA P fn.results.toList s = some q ∧ Weak B 1 ⟨[(0, q)], s.H⟩ ⟨[(0, r)], Hr⟩)) : Fun3 P B f xs Hin r Hr where
  call := callable_of hf hname hb
  runs C vals hI hH hd hsz hrep := calls_of_awp hf hb hN hxN hro h C vals hI hH hd hsz hrep

/-! ### A part of the heap, seen alone -/

/-- A part of the objects; the others' blocks are somebody else's. -/
def Ctx.hide (C : Ctx) (Hs : Heap) : Ctx :=
  { w := C.w, H := Hs, pl := C.pl, prot := fun b => C.prot b ∨ (C.own b ∧ ¬ Ctx.own { C with H := Hs, dfs := [] } b), dfs := [], pin := 0 }

structure Part (Hs H : Heap) : Prop where
  next : Hs.next = H.next
  objs : ∀ k v, lk Hs.objs k = some v → lk H.objs k = some v
  lps : ∀ l r, lk Hs.lps l = some r → lk H.lps l = some r

theorem hide_own {Hs : Heap} (hp : Part Hs C.H) {b : Nat} (h : (C.hide Hs).own b) : C.own b := by
  rcases h with ⟨id, es, h1, h2, h3⟩ | ⟨r, h⟩ | h
  · refine .inl ⟨id, es, ?_, h2, h3⟩
    obtain ⟨p, h4, h5⟩ := Option.map_eq_some_iff.1 h1
    exact Option.map_eq_some_iff.2 ⟨p, hp.objs id p h4, h5⟩
  · exact .inr (.inl ⟨r, hp.lps b r h⟩)
  · simp [Ctx.hide] at h

theorem hide_bad {Hs : Heap} (hp : Part Hs C.H) {b : Nat} (h : (C.hide Hs).bad b) : C.bad b := by
  rcases h with h | h | h
  · exact .inl (hide_own hp h)
  · exact .inr h
  · exact .inl h.1

theorem part_get {Hs H : Heap} (hp : Part Hs H) {id : Nat} {es : List AV} (h : Hs.get id = some es) : H.get id = some es := by
  obtain ⟨p, h4, h5⟩ := Option.map_eq_some_iff.1 h
  exact Option.map_eq_some_iff.2 ⟨p, hp.objs id p h4, h5⟩

theorem Rep.hide {Hs : Heap} (hp : Part Hs C.H) {x : AV} {v : Value} (h : Rep C x v) : Rep (C.hide Hs) x v :=
  h.sub rfl (by show C.H.next ≤ Hs.next; rw [hp.next]; exact Nat.le_refl _) (fun id es _ h => ⟨es, part_get hp h⟩) (fun _ _ => rfl) (fun b h => hide_bad hp h)

theorem Inv.hide (hI : Inv W0 C) {Hs : Heap} (hp : Part Hs C.H) : Inv (.of W0.w) (C.hide Hs) where
  fresh id es h := by show id < Hs.next; rw [hp.next]; exact hI.fresh id es (part_get hp h)
  nil id es h := hI.nil id es (part_get hp h)
  obj id es h hn := by
    have hO := hI.obj id es (part_get hp h) hn
    exact ⟨hO.n, hO.cap, hO.blk, hO.one, hO.flat, fun i j e x v h1 h2 h3 => (hO.cell i j e x v h1 h2 h3).hide hp⟩
  sep i1 i2 e1 e2 h1 h2 := hI.sep i1 i2 e1 e2 (part_get hp h1) (part_get hp h2)
  prot id es h hn hb := by
    rcases hb with hb | hb
    · exact hI.prot id es (part_get hp h) hn hb
    · exact hb.2 (.inl ⟨id, es, h, hn, rfl⟩)
  szok id s h := by
    obtain ⟨p, h4, h5⟩ := Option.map_eq_some_iff.1 h
    exact hI.szok id s (Option.map_eq_some_iff.2 ⟨p, hp.objs id p h4, h5⟩)
  protlt b h := by
    rcases h with h | h
    · exact hI.protlt b h
    · exact hI.own_lt h.1
  protge b h := by
    rcases h with h | h
    · exact hI.protge b h
    · exact hI.own_ge h.1
  size := hI.size
  glob b h := ⟨(hI.glob b h).1, fun ho => (hI.glob b h).2 (hide_own hp ho)⟩
  lps l r h := hI.lps l r (hp.lps l r h)
  dfs d h := by simp [Ctx.hide] at h
  dnd := .nil
  rod := fun _ _ => rfl
  spprot b h hb := by
    rcases h with ⟨r, h⟩ | h
    · rcases hb with hb | hb
      · exact hI.spprot b (.inl ⟨r, hp.lps b r h⟩) hb
      · exact hb.2 (.inr (.inl ⟨r, h⟩))
    · simp [Ctx.hide] at h
  pinB := rfl
  pinlt := Nat.zero_le _
  gh := trivial

/-! ### What comes back -/

/-- The callee's values under the caller's names. -/
inductive Ren (ok : AV → Prop) (m : List (Nat × Nat)) : AV → AV → Prop
  | same (x : AV) : ok x → Ren ok m x x
  | any (x : AV) : Ren ok m x .any
  | view {id k off len : Nat} : lk m id = some k → Ren ok m (.view id off len) (.view k off len)
  | ref {id k i j : Nat} : lk m id = some k → Ren ok m (.ref id i j) (.ref k i j)
  | agg (cs cs' : List AV) : cs.length = cs'.length → (∀ (k : Nat) (x x' : AV), cs[k]? = some x → cs'[k]? = some x' → Ren ok m x x') → Ren ok m (.agg cs) (.agg cs')
  | tuple (cs cs' : List AV) : cs.length = cs'.length → (∀ (k : Nat) (x x' : AV), cs[k]? = some x → cs'[k]? = some x' → Ren ok m x x') → Ren ok m (.tuple cs) (.tuple cs')
  | clo (fn : Fn) (cs cs' : List AV) : cs.length = cs'.length → (∀ (k : Nat) (x x' : AV), cs[k]? = some x → cs'[k]? = some x' → Ren ok m x x') → Ren ok m (.clo fn cs) (.clo fn cs')
  | ifc (t : TypeId) (x x' : AV) : Ren ok m x x' → Ren ok m (.ifc t x) (.ifc t x')

structure RenL (ok : AV → Prop) (m : List (Nat × Nat)) (es es' : List AV) : Prop where
  len : es.length = es'.length
  see : ∀ (k : Nat) (e e' : AV), es[k]? = some e → es'[k]? = some e' → e.flat.length = e'.flat.length ∧ ∀ (j : Nat) (x x' : AV), e.flat[j]? = some x → e'.flat[j]? = some x' → Ren ok m x x'

theorem RenL.same {ok : AV → Prop} {m : List (Nat × Nat)} {es : List AV} (h : ∀ e ∈ es, ∀ x ∈ e.flat, ok x) : RenL ok m es es :=
  ⟨rfl, fun k e e' h1 h2 => by
    rw [h1] at h2; cases h2
    exact ⟨rfl, fun j x x' h3 h4 => by rw [h3] at h4; cases h4; exact .same x (h e (List.mem_of_getElem? h1) x (List.mem_of_getElem? h3))⟩⟩

def RenAll (ok : AV → Prop) (m : List (Nat × Nat)) : List AV → List AV → Prop
  | [], [] => True
  | x :: l, y :: r => Ren ok m x y ∧ RenAll ok m l r
  | _, _ => False

theorem RenAll.spec {ok : AV → Prop} {m : List (Nat × Nat)} : ∀ {l r : List AV}, RenAll ok m l r → l.length = r.length ∧ ∀ (k : Nat) (x x' : AV), l[k]? = some x → r[k]? = some x' → Ren ok m x x'
  | [], [], _ => ⟨rfl, fun k x x' h => by simp at h⟩
  | x :: l, y :: r, h => by
    obtain ⟨h1, h2⟩ := RenAll.spec h.2
    refine ⟨by simp [h1], fun k u v hu hv => ?_⟩
    cases k with
    | zero => simp at hu hv; subst hu hv; exact h.1
    | succ k => simp at hu hv; exact h2 k u v hu hv
  | [], _ :: _, h => h.elim
  | _ :: _, [], h => h.elim
theorem Ren.ag {ok : AV → Prop} {m : List (Nat × Nat)} {cs cs' : List AV} (h : RenAll ok m cs cs') : Ren ok m (.agg cs) (.agg cs') := .agg cs cs' h.spec.1 h.spec.2
theorem Ren.tp {ok : AV → Prop} {m : List (Nat × Nat)} {cs cs' : List AV} (h : RenAll ok m cs cs') : Ren ok m (.tuple cs) (.tuple cs') := .tuple cs cs' h.spec.1 h.spec.2
theorem Ren.cl {ok : AV → Prop} {m : List (Nat × Nat)} {fn : Fn} {cs cs' : List AV} (h : RenAll ok m cs cs') : Ren ok m (.clo fn cs) (.clo fn cs') := .clo fn cs cs' h.spec.1 h.spec.2
/-- One object, of one element. -/
theorem RenL.one {ok : AV → Prop} {m : List (Nat × Nat)} {e e' : AV} (h : RenAll ok m e.flat e'.flat) : RenL ok m [e] [e'] :=
  ⟨rfl, fun k a b h1 h2 => by
    cases k with
    | zero => simp at h1 h2; subst h1 h2; exact ⟨h.spec.1, h.spec.2⟩
    | succ k => simp at h1⟩

/-- Which objects there are behind the call: those of the caller's that were not handed over, and the callee's under the caller's names. -/
def Back (ok : AV → Prop) (H : Heap) (g m : List (Nat × Nat)) (Hout : Heap) : List (Nat × (Nat × List AV)) → Prop
  | [] => True
  | (k, (s, es')) :: r => ((lk H.objs k = some (s, es') ∧ g.all (fun p => p.2 != k) = true) ∨ ∃ i es, lk m i = some k ∧ lk Hout.objs i = some (s, es) ∧ RenL ok m es es') ∧ Back ok H g m Hout r

theorem Back.spec {ok : AV → Prop} {H : Heap} {g m : List (Nat × Nat)} {Hout : Heap} : ∀ {l : List (Nat × (Nat × List AV))}, Back ok H g m Hout l → ∀ {k s : Nat} {es' : List AV}, lk l k = some (s, es') →
    (lk H.objs k = some (s, es') ∧ ∀ p ∈ g, p.2 ≠ k) ∨ ∃ i es, lk m i = some k ∧ lk Hout.objs i = some (s, es) ∧ RenL ok m es es'
  | [], _, _, _, _, h => by cases h
  | (q, (s, es)) :: l, hl, k, s', es', h => by
    simp only [lk] at h
    split at h
    · rename_i hm; subst hm; cases h
      refine hl.1.imp (fun h => ⟨h.1, fun p hp => ?_⟩) id
      have := List.all_eq_true.1 h.2 p hp
      simpa using this
    · exact Back.spec hl.2 h
theorem Back.kept {ok : AV → Prop} {H : Heap} {g m : List (Nat × Nat)} {Hout : Heap} {k s : Nat} {es : List AV} {r : List (Nat × (Nat × List AV))} (h1 : lk H.objs k = some (s, es)) (h2 : g.all (fun p => p.2 != k) = true) (h3 : Back ok H g m Hout r) : Back ok H g m Hout ((k, (s, es)) :: r) :=
  ⟨.inl ⟨h1, h2⟩, h3⟩
theorem Back.new {ok : AV → Prop} {H : Heap} {g m : List (Nat × Nat)} {Hout : Heap} {k s : Nat} {es' : List AV} {r : List (Nat × (Nat × List AV))} (i : Nat) {es : List AV} (h1 : lk m i = some k) (h2 : lk Hout.objs i = some (s, es)) (h3 : RenL ok m es es') (h4 : Back ok H g m Hout r) : Back ok H g m Hout ((k, (s, es')) :: r) :=
  ⟨.inr ⟨i, es, h1, h2, h3⟩, h4⟩

/-- The callee's numbers: those that are kept are as they were; the others follow behind the caller's. -/
def mapOk (p n : Nat) (g m : List (Nat × Nat)) : Bool := m.all fun q => (decide (q.1 < p) && (lk g q.1 == some q.2)) || q.2 == n + q.1

def Ctx.back (C C2 : Ctx) (H' : Heap) : Ctx := { w := C2.w, H := H', pl := fun k => if k < C.H.next then C.pl k else C2.pl (k - C.H.next), prot := C.prot, dfs := C.dfs, pin := C.pin }

theorem sub_out {ok : AV → Prop} {Hs Hin H' : Heap} {g m : List (Nat × Nat)} {nw : List Nat} {p : Nat} {B1 : Base} {C2 : Ctx} (hI : Inv W0 C) (hp : Part Hs C.H) (hB : B1.w = W0.w)
    (hH : Held Hs g nw Hin.next Hin.objs) (hnw : ∀ n ∈ nw, lk g n = none) (hginj : g.all (fun p => g.all (fun q => p.2 != q.2 || p.1 == q.1)) = true) (hgin : ∀ q ∈ g, (lk Hs.objs q.2).isSome = true) (hlp : Hin.lps = Hs.lps)
    (hM : Mem { (C.hide Hs).re g Hin with pin := p } C2) (hpin : p ≤ Hin.next) (hI2 : Inv B1 C2) (hd2 : C2.dfs = [])
    (hm : mapOk p C.H.next g m = true) (hnext : H'.next = C.H.next + C2.H.next) (hback : Back ok C.H g m C2.H H'.objs)
    (hlps : ∀ l r, lk H'.lps l = some r → lk C2.H.lps l = some r ∨ (lk C.H.lps l = some r ∧ lk Hs.lps l = none))
    (mode : (∀ x, ok x → Dry x) ∨ ((∀ x, ok x → NoId x) ∧ ∀ k v, lk C.H.objs k = some v → (∀ q ∈ g, q.2 ≠ k) → lk Hs.objs k = none)) :
    Ext C (C.back C2 H') ∧ Inv W0 (C.back C2 H') ∧ ∀ x x' v, Ren ok m x x' → Rep C2 x v → Rep (C.back C2 H') x' v := by
  have hs : C.w.heap.size ≤ C2.w.heap.size := hM.below.size
  have hpr : C2.prot = (C.hide Hs).prot := hM.prot
  have getS : ∀ {K : Heap} {n : Nat} {es' : List AV}, K.get n = some es' → ∃ s, lk K.objs n = some (s, es') := fun {K n es'} h => by
    obtain ⟨⟨s, e⟩, h1, h2⟩ := Option.map_eq_some_iff.1 h
    simp only at h2; subst h2; exact ⟨s, h1⟩
  have getO : ∀ {K : Heap} {n s : Nat} {es' : List AV}, lk K.objs n = some (s, es') → K.get n = some es' := fun {K n s es'} h => by simp [Heap.get, h]
  have gmem : ∀ {n k : Nat}, lk g n = some k → k < C.H.next ∧ ∃ v, lk Hs.objs k = some v := fun {n k} h => by
    obtain ⟨v, hv⟩ := Option.isSome_iff_exists.1 (hgin _ (lk_mem h))
    exact ⟨hI.fresh k v.2 (getO (s := v.1) (hp.objs k v hv)), v, hv⟩
  have ginj : ∀ {n n' k : Nat}, lk g n = some k → lk g n' = some k → n = n' := fun {n n' k} h1 h2 => by
    have := List.all_eq_true.1 (List.all_eq_true.1 hginj _ (lk_mem h1)) _ (lk_mem h2)
    simpa using this
  have rePl : ∀ {n k : Nat}, lk g n = some k → ((C.hide Hs).re g Hin).pl n = C.pl k := fun {n k} h => by simp [Ctx.re, Ctx.hide, h]
  have mS : ∀ {i k : Nat}, lk m i = some k → (i < p ∧ lk g i = some k) ∨ k = C.H.next + i := fun {i k} h => by
    have := List.all_eq_true.1 hm _ (lk_mem h)
    simpa using this
  -- what was handed over
  have passed : ∀ {b : Nat}, ((C.hide Hs).re g Hin).cells b → ∃ n k es, lk g n = some k ∧ C.H.get k = some es ∧ (C.pl k).nil = false ∧ (C.pl k).blk = b := fun {b} h => by
    obtain ⟨n, es', h1, h2, h3⟩ := h
    obtain ⟨s, h4⟩ := getS (K := Hin) h1
    rcases (hH.spec h4).1 with ⟨old, es, q1, q2, _⟩ | ⟨q, _⟩
    · rw [rePl q1] at h2 h3
      exact ⟨n, old, es, q1, getO (hp.objs old _ q2), h2, h3⟩
    · have : ((C.hide Hs).re g Hin).pl n = ⟨0, 0, 0, 0, true⟩ := by simp [Ctx.re, hnw n q]
      rw [this] at h2; cases h2
  have own1 : ∀ {b : Nat}, ((C.hide Hs).re g Hin).own b → C.own b := fun {b} h => by
    rcases h with h | ⟨r, h⟩ | h
    · obtain ⟨n, k, es, _, h2, h3, h4⟩ := passed h
      exact .inl ⟨k, es, h2, h3, h4⟩
    · exact .inr (.inl ⟨r, hp.lps b r (by rw [← hlp]; exact h)⟩)
    · simp [Ctx.re, Ctx.hide] at h
  have keep : ∀ b, b < C.w.heap.size → ¬ ((C.hide Hs).re g Hin).own b → C2.w.heap[b]? = C.w.heap[b]? := fun b hb hn => hM.keep b hb hn
  have own2 : ∀ {b : Nat}, b < C.w.heap.size → C2.own b → ((C.hide Hs).re g Hin).own b := fun {b} hb h => hM.own b hb h
  -- cells, records, and what is put off, are told apart by what lies there
  have cellHeap : ∀ {k : Nat} {es : List AV}, C.H.get k = some es → (C.pl k).nil = false → ∃ arr el, C.w.heap[(C.pl k).blk]? = some (.cells arr el (0, 0)) := fun {k es} h1 h2 => by
    obtain ⟨arr, el, h3, _⟩ := (hI.obj k es h1 h2).blk
    exact ⟨arr, el, h3⟩
  have keptFree : ∀ {k : Nat} {es : List AV}, C.H.get k = some es → (C.pl k).nil = false → (∀ q ∈ g, q.2 ≠ k) → ¬ ((C.hide Hs).re g Hin).own (C.pl k).blk := fun {k es} h1 h2 h3 h => by
    obtain ⟨arr, el, hc⟩ := cellHeap h1 h2
    rcases h with h | ⟨r, h⟩ | h
    · obtain ⟨n, k', es', q1, q2, q3, q4⟩ := passed h
      have := hI.sep k' k es' es q2 h1 q3 h2 q4
      exact h3 _ (lk_mem q1) this
    · exact hI.sp_ne (.inl ⟨r, hp.lps _ r (by rw [← hlp]; exact h)⟩) hc
    · simp [Ctx.re, Ctx.hide] at h
  -- an object behind the call
  have plO : ∀ {k : Nat}, k < C.H.next → (C.back C2 H').pl k = C.pl k := fun {k} h => by simp [Ctx.back, h]
  have plN : ∀ {i k s : Nat} {es : List AV}, lk m i = some k → lk C2.H.objs i = some (s, es) → (C.back C2 H').pl k = C2.pl i ∧ (k < C.H.next → ∃ n, i = n ∧ lk g n = some k) := fun {i k s es} h h2 => by
    rcases mS h with ⟨h3, h4⟩ | h3
    · refine ⟨?_, fun _ => ⟨i, rfl, h4⟩⟩
      rw [plO (gmem h4).1]
      have h5 := (hM.pins hpin).2 i es h3 (getO h2)
      rw [h5.2]; exact (rePl h4).symm
    · subst h3
      refine ⟨?_, fun h => by omega⟩
      have h1 : ¬ C.H.next + i < C.H.next := by omega
      have h2 : C.H.next + i - C.H.next = i := by omega
      show (if C.H.next + i < C.H.next then _ else _) = _
      rw [if_neg h1, h2]
  have objJ : ∀ {k : Nat} {es' : List AV}, (C.back C2 H').H.get k = some es' → ∃ s, lk H'.objs k = some (s, es') ∧ ((lk C.H.objs k = some (s, es') ∧ (∀ q ∈ g, q.2 ≠ k) ∧ k < C.H.next) ∨ ∃ i es, lk m i = some k ∧ lk C2.H.objs i = some (s, es) ∧ RenL ok m es es') := fun {k es'} h => by
    obtain ⟨s, h1⟩ := getS (K := H') h
    refine ⟨s, h1, (hback.spec h1).imp (fun h => ⟨h.1, h.2, hI.fresh k es' (getO h.1)⟩) id⟩
  have ownJ : ∀ b, (C.back C2 H').own b → C.own b ∨ C2.own b := by
    rintro b (⟨k, es', h1, h2, h3⟩ | ⟨r, h⟩ | h)
    · obtain ⟨s, _, ⟨q1, q2, q3⟩ | ⟨i, es, q1, q2, _⟩⟩ := objJ h1
      · rw [plO q3] at h2 h3; exact .inl (.inl ⟨k, es', getO q1, h2, h3⟩)
      · rw [(plN q1 q2).1] at h2 h3; exact .inr (.inl ⟨i, es, getO q2, h2, h3⟩)
    · rcases hlps b r h with h | h
      · exact .inr (.inr (.inl ⟨r, h⟩))
      · exact .inl (.inr (.inl ⟨r, h.1⟩))
    · exact .inl (.inr (.inr h))
  have ext : Ext C (C.back C2 H') := {
    below := ⟨hM.below.os, hM.below.tape, hM.below.output, hs, fun k hk => absurd hk (Nat.not_lt_zero k)⟩
    keep := fun b hb hn => keep b hb (fun h => hn (own1 h))
    own := fun b hb h => by
      rcases ownJ b h with h | h
      · exact h
      · exact own1 (own2 hb h)
    next := by show C.H.next ≤ H'.next; rw [hnext]; exact Nat.le_add_right _ _
    id := fun k es' hk h => by
      obtain ⟨s, _, ⟨q1, q2, q3⟩ | ⟨i, es, q1, q2, _⟩⟩ := objJ h
      · exact ⟨⟨es', getO q1⟩, plO q3⟩
      · obtain ⟨n, _, h3⟩ := (plN q1 q2).2 hk
        obtain ⟨_, v, hv⟩ := gmem h3
        exact ⟨⟨v.2, getO (s := v.1) (hp.objs k v hv)⟩, plO hk⟩
    prot := rfl
    dfs := rfl
    pin := rfl }
  -- what nobody owned behind the call is nobody's now
  have protOf : ∀ {b : Nat}, C.own b → ¬ Ctx.own { C with H := Hs, dfs := [] } b → C2.bad b := fun {b} h1 h2 => .inr (by rw [hpr]; exact .inr ⟨h1, h2⟩)
  have badJ : (∀ k v, lk C.H.objs k = some v → (∀ q ∈ g, q.2 ≠ k) → lk Hs.objs k = none) → ∀ b, (C.back C2 H').bad b → C2.bad b := by
    rintro hmd b ((⟨k, es', h1, h2, h3⟩ | ⟨r, h⟩ | h) | h)
    · obtain ⟨s, _, ⟨q1, q2, q3⟩ | ⟨i, es, q1, q2, _⟩⟩ := objJ h1
      · rw [plO q3] at h2 h3
        obtain ⟨arr, el, hc⟩ := cellHeap (getO q1) h2
        rw [h3] at hc
        refine protOf (.inl ⟨k, es', getO q1, h2, h3⟩) ?_
        rintro (⟨k', e', r1, r2, r3⟩ | ⟨r, h⟩ | h)
        · have := hI.sep k' k e' es' (part_get hp r1) (getO q1) r2 h2 (r3.trans h3.symm)
          subst this
          have hnone := hmd k' _ q1 q2
          simp [Heap.get, hnone] at r1
        · exact hI.sp_ne (.inl ⟨r, hp.lps b r h⟩) hc
        · simp at h
      · rw [(plN q1 q2).1] at h2 h3; exact .inl (.inl ⟨i, es, getO q2, h2, h3⟩)
    · rcases hlps b r h with h | ⟨h, h'⟩
      · exact .inl (.inr (.inl ⟨r, h⟩))
      · refine protOf (.inr (.inl ⟨r, h⟩)) ?_
        rintro (⟨k', e', r1, r2, r3⟩ | ⟨r', h2⟩ | h2)
        · obtain ⟨arr, el, hc⟩ := cellHeap (part_get hp r1) r2
          have r3' : (C.pl k').blk = b := r3
          rw [r3'] at hc
          exact hI.sp_ne (.inl ⟨r, h⟩) hc
        · have h2' : lk Hs.lps b = some r' := h2
          rw [h'] at h2'; cases h2'
        · simp at h2
    · refine protOf (.inr (.inr h)) ?_
      rintro (⟨k', e', r1, r2, r3⟩ | ⟨r', h2⟩ | h2)
      · obtain ⟨arr, el, hc⟩ := cellHeap (part_get hp r1) r2
        have r3' : (C.pl k').blk = b := r3
        rw [r3'] at hc
        exact hI.sp_ne (.inr h) hc
      · have q1 := hI.lps b r' (hp.lps b r' h2)
        have q2 := hI.dfs b h
        rw [q1] at q2; cases q2
      · simp at h2
    · exact .inr (by rw [hpr]; exact .inl h)
  have atom : ∀ x v, ok x → Rep C2 x v → Rep (C.back C2 H') x v := fun x v hx hr => by
    rcases mode with h | ⟨h1, h2⟩
    · exact (h x hx).rep hr
    · exact hr.move (h1 x hx) (Nat.le_refl _) (fun b _ q2 => ⟨rfl, fun h => q2 (badJ h2 b h)⟩)
  have repJ : ∀ x x' v, Ren ok m x x' → Rep C2 x v → Rep (C.back C2 H') x' v := by
    intro x x' v hs
    induction hs generalizing v with
    | same x hx => exact atom x v hx
    | any x => intro _; exact .any v
    | @view id k off len hk =>
      intro h
      match h with
      | .view _ _ _ _ h1 h2 h3 =>
      refine .view _ _ _ _ ?_ (fun es' he => ?_) h3
      · show k < H'.next
        rw [hnext]
        rcases mS hk with ⟨_, h5⟩ | rfl
        · have := (gmem h5).1; omega
        · omega
      · obtain ⟨s, _, ⟨q1, q2, q3⟩ | ⟨i, es, q1, q2, _⟩⟩ := objJ he
        · exfalso
          rcases mS hk with ⟨_, h5⟩ | h5
          · exact q2 _ (lk_mem h5) rfl
          · omega
        · have hi : i = id := by
            rcases mS hk with ⟨_, h5⟩ | h5 <;> rcases mS q1 with ⟨_, h6⟩ | h6
            · exact (ginj h5 h6).symm
            · have := (gmem h5).1; omega
            · have := (gmem h6).1; omega
            · omega
          subst hi
          rw [(plN q1 q2).1]; exact h2 es (getO q2)
    | @ref id k i j hk =>
      intro h
      match h with
      | .ref _ _ _ _ h1 h2 h3 =>
      refine .ref _ _ _ _ ?_ (fun es' he => ?_) h3
      · show k < H'.next
        rw [hnext]
        rcases mS hk with ⟨_, h5⟩ | rfl
        · have := (gmem h5).1; omega
        · omega
      · obtain ⟨s, _, ⟨q1, q2, q3⟩ | ⟨i', es, q1, q2, _⟩⟩ := objJ he
        · exfalso
          rcases mS hk with ⟨_, h5⟩ | h5
          · exact q2 _ (lk_mem h5) rfl
          · omega
        · have hi : i' = id := by
            rcases mS hk with ⟨_, h5⟩ | h5 <;> rcases mS q1 with ⟨_, h6⟩ | h6
            · exact (ginj h5 h6).symm
            · have := (gmem h5).1; omega
            · have := (gmem h6).1; omega
            · omega
          subst hi
          rw [(plN q1 q2).1]; exact h2 es (getO q2)
    | agg cs cs' hl _ ih =>
      intro h
      match h with
      | .agg _ vs h1 h2 h3 =>
      refine .agg cs' vs (h1.trans hl) h2 (fun k x' hx' => ?_)
      have hk : k < cs.length := by rw [hl]; exact (List.getElem?_eq_some_iff.1 hx').1
      exact ih k cs[k] x' (List.getElem?_eq_getElem hk) hx' _ (h3 k _ (List.getElem?_eq_getElem hk))
    | tuple cs cs' hl _ ih =>
      intro h
      match h with
      | .tuple _ vs h1 h3 =>
      refine .tuple cs' vs (h1.trans hl) (fun k x' hx' => ?_)
      have hk : k < cs.length := by rw [hl]; exact (List.getElem?_eq_some_iff.1 hx').1
      exact ih k cs[k] x' (List.getElem?_eq_getElem hk) hx' _ (h3 k _ (List.getElem?_eq_getElem hk))
    | clo fn cs cs' hl _ ih =>
      intro h
      match h with
      | .clo _ _ vs h1 h3 =>
      refine .clo fn cs' vs (h1.trans hl) (fun k x' hx' => ?_)
      have hk : k < cs.length := by rw [hl]; exact (List.getElem?_eq_some_iff.1 hx').1
      exact ih k cs[k] x' (List.getElem?_eq_getElem hk) hx' _ (h3 k _ (List.getElem?_eq_getElem hk))
    | ifc t x x' _ ih =>
      intro h
      match h with
      | .ifc _ _ v h1 => exact .ifc t x' v (ih v h1)
  refine ⟨ext, ?_, repJ⟩
  have newBlk : ∀ {i s : Nat} {es : List AV} {k0 : Nat} {es0 : List AV}, lk C2.H.objs i = some (s, es) → (C2.pl i).nil = false → C.H.get k0 = some es0 → (C.pl k0).nil = false → (∀ q ∈ g, q.2 ≠ k0) → (C2.pl i).blk ≠ (C.pl k0).blk := fun {i s es k0 es0} h1 h2 h3 h4 h5 he => by
    have hlt := hI.lt h3 h4
    refine keptFree h3 h4 h5 (own2 hlt ?_)
    exact .inl ⟨i, es, getO h1, h2, he⟩
  exact {
    fresh := fun k es' h => by
      show k < H'.next
      rw [hnext]
      obtain ⟨s, _, ⟨q1, q2, q3⟩ | ⟨i, es, q1, q2, _⟩⟩ := objJ h
      · omega
      · rcases mS q1 with ⟨_, h5⟩ | rfl
        · have := (gmem h5).1; omega
        · have := hI2.fresh i es (getO q2); omega
    nil := fun k es' h hn => by
      obtain ⟨s, _, ⟨q1, q2, q3⟩ | ⟨i, es, q1, q2, q3⟩⟩ := objJ h
      · rw [plO q3] at hn; exact hI.nil k es' (getO q1) hn
      · rw [(plN q1 q2).1] at hn
        have := hI2.nil i es (getO q2) hn
        subst this
        exact List.eq_nil_of_length_eq_zero q3.len.symm
    obj := fun k es' h hn => by
      obtain ⟨s, _, ⟨q1, q2, q3⟩ | ⟨i, es, q1, q2, q3⟩⟩ := objJ h
      · rw [plO q3] at hn ⊢
        exact (hI.obj k es' (getO q1) hn).ext ext (keep _ (hI.lt (getO q1) hn) (keptFree (getO q1) hn q2))
      · rw [(plN q1 q2).1] at hn ⊢
        have hO := hI2.obj i es (getO q2) hn
        have bk : ∀ {q : Nat} {e' : AV}, es'[q]? = some e' → ∃ e, es[q]? = some e ∧ e.flat.length = e'.flat.length ∧ ∀ (j : Nat) (x x' : AV), e.flat[j]? = some x → e'.flat[j]? = some x' → Ren ok m x x' := fun {q e'} hq => by
          have hk : q < es.length := by rw [q3.len]; exact (List.getElem?_eq_some_iff.1 hq).1
          exact ⟨es[q], List.getElem?_eq_getElem hk, q3.see q _ e' (List.getElem?_eq_getElem hk) hq⟩
        refine ⟨hO.n.trans q3.len, hO.cap, hO.blk, hO.one, fun q e' he' => ?_, fun q j e' x' v he' hx' hv => ?_⟩
        · obtain ⟨e, h1, h2, _⟩ := bk he'
          rw [← h2]; exact hO.flat q e h1
        · obtain ⟨e, h1, h2, h3⟩ := bk he'
          have hj : j < e.flat.length := by rw [h2]; exact (List.getElem?_eq_some_iff.1 hx').1
          exact repJ _ _ _ (h3 j _ x' (List.getElem?_eq_getElem hj) hx') (hO.cell q j e _ v h1 (List.getElem?_eq_getElem hj) hv)
    sep := fun k1 k2 e1 e2 h1 h2 n1 n2 hb => by
      obtain ⟨s1, _, ⟨a1, a2, a3⟩ | ⟨i1, es1, a1, a2, _⟩⟩ := objJ h1 <;> obtain ⟨s2, _, ⟨b1, b2, b3⟩ | ⟨i2, es2, b1, b2, _⟩⟩ := objJ h2
      · rw [plO a3] at n1 hb; rw [plO b3] at n2 hb
        exact hI.sep k1 k2 e1 e2 (getO a1) (getO b1) n1 n2 hb
      · rw [plO a3] at n1 hb; rw [(plN b1 b2).1] at n2 hb
        exact absurd hb.symm (newBlk b2 n2 (getO a1) n1 a2)
      · rw [(plN a1 a2).1] at n1 hb; rw [plO b3] at n2 hb
        exact absurd hb (newBlk a2 n1 (getO b1) n2 b2)
      · rw [(plN a1 a2).1] at n1 hb; rw [(plN b1 b2).1] at n2 hb
        have := hI2.sep i1 i2 es1 es2 (getO a2) (getO b2) n1 n2 hb
        subst this
        rw [a1] at b1; exact Option.some.inj b1
    prot := fun k es' h hn hb => by
      obtain ⟨s, _, ⟨q1, q2, q3⟩ | ⟨i, es, q1, q2, q3⟩⟩ := objJ h
      · rw [plO q3] at hn hb; exact hI.prot k es' (getO q1) hn hb
      · rw [(plN q1 q2).1] at hn hb
        exact hI2.prot i es (getO q2) hn (by rw [hpr]; exact .inl hb)
    szok := fun k s h hn => by
      obtain ⟨⟨s', es'⟩, h1, h2⟩ := Option.map_eq_some_iff.1 h
      simp only at h2; subst h2
      rcases hback.spec h1 with ⟨q1, q2⟩ | ⟨i, es, q1, q2, _⟩
      · have q3 := hI.fresh k es' (getO q1)
        rw [plO q3] at hn ⊢; exact hI.szok k _ (by simp [Heap.sz, q1]) hn
      · rw [(plN q1 q2).1] at hn ⊢; exact hI2.szok i _ (by simp [Heap.sz, q2]) hn
    protlt := fun b hb => Nat.lt_of_lt_of_le (hI.protlt b hb) hs
    protge := hI.protge
    size := by have := hI2.size; rw [hB] at this; exact this
    glob := fun b hb => ⟨by have := (hI2.glob b (by rw [hB]; exact hb)).1; rw [hB] at this; exact this, fun ho => by
      rcases ownJ b ho with h | h
      · exact (hI.glob b hb).2 h
      · exact (hI2.glob b (by rw [hB]; exact hb)).2 h⟩
    lps := fun l r h => by
      rcases hlps l r h with h | ⟨h, h'⟩
      · exact hI2.lps l r h
      · have h1 := hI.lps l r h
        rw [← h1]
        refine keep l (Array.getElem?_eq_some_iff.1 h1).1 ?_
        rintro (h2 | ⟨r', h2⟩ | h2)
        · obtain ⟨n, k, es, _, q2, q3, q4⟩ := passed h2
          obtain ⟨arr, el, hc⟩ := cellHeap q2 q3
          rw [q4, h1] at hc; cases hc
        · have h2' : lk Hin.lps l = some r' := h2
          rw [hlp, h'] at h2'; cases h2'
        · simp [Ctx.re, Ctx.hide] at h2
    dfs := fun d h => by
      have h1 := hI.dfs d h
      rw [← h1]
      refine keep d (Array.getElem?_eq_some_iff.1 h1).1 ?_
      rintro (h2 | ⟨r', h2⟩ | h2)
      · obtain ⟨n, k, es, _, q2, q3, q4⟩ := passed h2
        obtain ⟨arr, el, hc⟩ := cellHeap q2 q3
        rw [q4, h1] at hc; cases hc
      · have q1 := hI.lps d r' (hp.lps d r' (by rw [← hlp]; exact h2))
        rw [h1] at q1; cases q1
      · simp [Ctx.re, Ctx.hide] at h2
    dnd := hI.dnd
    rod := hI.rod
    spprot := fun b h hb => by
      rcases h with ⟨r, h⟩ | h
      · rcases hlps b r h with h | ⟨h, _⟩
        · exact hI2.spprot b (.inl ⟨r, h⟩) (by rw [hpr]; exact .inl hb)
        · exact hI.spprot b (.inl ⟨r, h⟩) hb
      · exact hI.spprot b (.inr h) hb
    pinB := hI.pinB
    pinlt := Nat.le_trans hI.pinlt ext.next
    gh := W0.st C _ ext.mem hI.pinlt hI.gh }

/-- A context of the callee's, in which the first p objects keep their numbers. -/
theorem Inv.repin {B1 : Base} {p : Nat} (hI : Inv (.of W0.w) C) (hB : B1.w = W0.w) (hp : B1.p = p) (hle : p ≤ C.H.next) (hd : C.dfs = []) (hG : B1.G { C with pin := p }) : Inv B1 { C with pin := p } where
  fresh := hI.fresh
  nil := hI.nil
  obj id es h hn := by
    have hO := hI.obj id es h hn
    exact ⟨hO.n, hO.cap, hO.blk, hO.one, hO.flat, fun i j e x v h1 h2 h3 => (hO.cell i j e x v h1 h2 h3).sub rfl (Nat.le_refl _) (fun id es _ h => ⟨es, h⟩) (fun _ _ => rfl) (fun b h => h)⟩
  sep := hI.sep
  prot := hI.prot
  szok := hI.szok
  protlt := hI.protlt
  protge b h := by rw [hB]; exact hI.protge b h
  size := by rw [hB]; exact hI.size
  glob b h := by rw [hB] at h ⊢; exact hI.glob b h
  lps := hI.lps
  dfs := hI.dfs
  dnd := hI.dnd
  rod _ _ := hd
  spprot := hI.spprot
  pinB := hp.symm
  pinlt := hle
  gh := hG

def PartL (H : Heap) : List (Nat × (Nat × List AV)) → Prop
  | [] => True
  | (k, v) :: r => lk H.objs k = some v ∧ PartL H r
theorem PartL.spec {H : Heap} : ∀ {l : List (Nat × (Nat × List AV))}, PartL H l → ∀ k v, lk l k = some v → lk H.objs k = some v
  | [], _, _, _, h => by cases h
  | (q, u) :: l, hl, k, v, h => by
    simp only [lk] at h
    split at h
    · rename_i hq; subst hq; cases h; exact hl.1
    · exact PartL.spec hl.2 k v h

/-- How a part of the heap is handed over, and comes back. -/
structure Pass (ok : AV → Prop) (fr fr' : List (Nat × AV)) (H Hs Hin Hout H' : Heap) (g m : List (Nat × Nat)) (nw : List Nat) (p : Nat) (r r' : AV) : Prop where
  next : Hs.next = H.next
  part : PartL H Hs.objs
  inj : g.all (fun p => g.all (fun q => p.2 != q.2 || p.1 == q.1)) = true
  lt : g.all (fun p => decide (p.1 < Hin.next)) = true
  nwf : nw.all (fun n => (lk g n).isNone && decide (n < Hin.next)) = true
  gin : g.all (fun q => (lk Hs.objs q.2).isSome) = true
  held : Held Hs g nw Hin.next Hin.objs
  seen : Seen Hs g nw fr fr'
  inlps : Hin.lps = Hs.lps
  ple : decide (p ≤ Hin.next) = true
  map : mapOk p H.next g m = true
  next' : H'.next = H.next + Hout.next
  back : Back ok H g m Hout H'.objs
  lps : (Hs.lps = [] ∧ H'.lps = H.lps) ∨ (Hs.lps = H.lps ∧ H'.lps = Hout.lps)
  mode : (∀ x, ok x → Dry x) ∨ ((∀ x, ok x → NoId x) ∧ H.objs.all (fun e => g.any (fun q => q.2 == e.1) || (lk Hs.objs e.1).isNone) = true)
  ren : Ren ok m r r'

/-- The callee's context. -/
def Ctx.sub (C : Ctx) (Hs Hin : Heap) (g : List (Nat × Nat)) (p : Nat) : Ctx := { (C.hide Hs).re g Hin with pin := p }

theorem Pass.isPart {ok : AV → Prop} {fr fr' : List (Nat × AV)} {H Hs Hin Hout H' : Heap} {g m : List (Nat × Nat)} {nw : List Nat} {p : Nat} {r r' : AV} (h : Pass ok fr fr' H Hs Hin Hout H' g m nw p r r') : Part Hs H :=
  ⟨h.next, h.part.spec, fun l r hl => by
    rcases h.lps with ⟨h1, _⟩ | ⟨h1, _⟩
    · rw [h1] at hl; cases hl
    · rw [h1] at hl; exact hl⟩

/-- Into the callee. -/
theorem Pass.into {ok : AV → Prop} {fr fr' : List (Nat × AV)} {H Hs Hin Hout H' : Heap} {g m : List (Nat × Nat)} {nw : List Nat} {p : Nat} {r r' : AV} {n : Nat} {vals : Array Value} (h : Pass ok fr fr' H Hs Hin Hout H' g m nw p r r')
    (hI : Inv W0 C) (hH : C.H = H) (hsz : vals.size = n) (hrep : ∀ t x, lk fr t = some x → Rep C x (vals.getD t undef)) :
    Rel (.of W0.w) n (lk fr') Hin ((C.hide Hs).re g Hin) { tmps := vals, defers := [] } := by
  have hp := h.isPart
  rw [← hH] at hp
  have hr0 : Rel (.of W0.w) n (lk fr) Hs (C.hide Hs) { tmps := vals, defers := [] } := ⟨rfl, hI.hide hp, hsz, rfl, fun t x hx => (hrep t x hx).hide hp⟩
  exact (re_rel (st := ⟨fr, Hs⟩) g nw h.inj h.lt h.nwf h.held h.seen (by simp [pinOk]) h.inlps hr0).2

theorem rep_pin {x : AV} {v : Value} {p : Nat} (h : Rep C x v) : Rep { C with pin := p } x v :=
  h.sub rfl (Nat.le_refl _) (fun id es _ h => ⟨es, h⟩) (fun _ _ => rfl) (fun b h => h)

/-- And back. -/
theorem Pass.outof {ok : AV → Prop} {fr fr' : List (Nat × AV)} {H Hs Hin Hout H' : Heap} {g m : List (Nat × Nat)} {nw : List Nat} {p : Nat} {r r' : AV} {B1 : Base} {C2 : Ctx} (h : Pass ok fr fr' H Hs Hin Hout H' g m nw p r r')
    (hI : Inv W0 C) (hH : C.H = H) (hB : B1.w = W0.w) (hM : Mem (C.sub Hs Hin g p) C2) (hI2 : Inv B1 C2) (hH2 : C2.H = Hout) (hd2 : C2.dfs = []) :
    Ext C (C.back C2 H') ∧ Inv W0 (C.back C2 H') ∧ ∀ v, Rep C2 r v → Rep (C.back C2 H') r' v := by
  have hp := h.isPart
  subst hH hH2
  obtain ⟨h1, h2, h3⟩ := sub_out (ok := ok) (H' := H') (m := m) (nw := nw) hI hp hB h.held (fun n hn => by
      have := List.all_eq_true.1 h.nwf n hn
      simp at this; exact this.1) h.inj (fun q hq => List.all_eq_true.1 h.gin q hq) h.inlps hM (of_decide_eq_true h.ple) hI2 hd2 h.map h.next' h.back (fun l r hl => by
      rcases h.lps with ⟨q1, q2⟩ | ⟨q1, q2⟩
      · rw [q2] at hl; exact .inr ⟨hl, by rw [q1]; rfl⟩
      · rw [q2] at hl; exact .inl hl) (h.mode.imp id fun ⟨q1, q2⟩ => ⟨q1, fun k v hk hq => by
      have := List.all_eq_true.1 q2 _ (lk_mem hk)
      simp only [Bool.or_eq_true, List.any_eq_true, beq_iff_eq, Option.isNone_iff_eq_none] at this
      rcases this with ⟨q, hq1, hq2⟩ | h
      · exact absurd hq2 (hq q hq1)
      · exact h⟩)
  exact ⟨h1, h2, fun v hv => h3 r r' v h.ren hv⟩

/-- A call, its arguments seen as the function wants them. -/
theorem call3 {ok : AV → Prop} {f : FuncId} {ys xs : List AV} {r r' : AV} {Hs Hin Hout H' : Heap} {g m : List (Nat × Nat)} {nw : List Nat} {p : Nat} {B1 : Base} {vals : Array Value} (hf : Fun3 P B1 f xs Hin r Hout) (hB : B1.w = W0.w) (hBp : B1.p = p)
    (h : Pass ok (argsFr 0 ys) (argsFr 0 xs) H Hs Hin Hout H' g m nw p r r') (hl : xs.length = ys.length) (hI : Inv W0 C) (hH : C.H = H) (hsz : vals.size = ys.length) (hrep : ∀ t x, lk (argsFr 0 ys) t = some x → Rep C x (vals.getD t undef))
    (hG : B1.G (C.sub Hs Hin g p)) :
    Calls P f vals C.w (fun e w' => ∃ v C', e = .returned v ∧ C'.w = w' ∧ Ext C C' ∧ Inv W0 C' ∧ C'.H = H' ∧ Rep C' r' v) := by
  have h1 := h.into hI hH hsz hrep
  have h2 : Inv B1 (C.sub Hs Hin g p) := h1.inv.repin (W0 := W0) hB hBp (of_decide_eq_true h.ple) rfl hG
  refine (hf.runs (C.sub Hs Hin g p) vals h2 rfl rfl (by rw [hl]; exact hsz) (fun k x hx => rep_pin (rel_args h1 k x hx))).mono ?_
  rintro e w' ⟨v, C2, rfl, rfl, hM, hI2, hH2, hd2, hr⟩
  obtain ⟨q1, q2, q3⟩ := h.outof hI hH hB hM hI2 hH2 hd2
  exact ⟨v, C.back C2 H', rfl, rfl, q1, q2, rfl, q3 v hr⟩

/-- A call of a function by its name. -/
theorem aop_call3 {ok : AV → Prop} {f : FuncId} {args : Array Operand} {tys : Array TypeId} {ys xs : List AV} {r r' : AV} {Hs Hin Hout H' : Heap} {g m : List (Nat × Nat)} {nw : List Nat} {p : Nat} (ho : o.op = .call { callee := .value (.func f), args := args, argTypes := tys }) (hys : args.toList.mapM (evalA fr) = some ys)
    (hf : Fun3 P (.pinned W0.w p) f xs Hin r Hout) (h : Pass ok (argsFr 0 ys) (argsFr 0 xs) H Hs Hin Hout H' g m nw p r r') (hl : xs.length = ys.length) : AOp P W0 o fr H r' H' := by
  intro C a hI hH hop K Q hK
  unfold Oper.wp
  rw [resolve_func ho hf.call, Oper.upon_enter]
  have hr0 := args_rep (call_ops ho hop) hys
  refine (call3 (W0 := W0) hf rfl rfl h hl hI hH hr0.1 hr0.2 trivial).mono ?_
  rintro e w' ⟨v, C', rfl, rfl, h1, h2, h3, h4⟩
  exact hK v C' h1 h2 h3 h4

end
end Go.Av
end
