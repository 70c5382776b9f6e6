/- Objects under other names: what a proof may do with its heap between two statements. -/
import Derived.Test.YtcfogckbncfpnaaDoorAvRules
namespace Go.Av

/-- x' tells no more than x, where 'g' names the old object of each new one, and the objects in 'nw' are new and empty. -/
inductive See (H : Heap) (g : List (Nat × Nat)) (nw : List Nat) : AV → AV → Prop
  | same (x : AV) : NoId x → See H g nw x x
  | any (x : AV) : See H g nw x .any
  | view {old new off len : Nat} : lk g new = some old → See H g nw (.view old off len) (.view new off len)
  | ref {old new i j : Nat} : lk g new = some old → See H g nw (.ref old i j) (.ref new i j)
  | nil {n : Nat} : n ∈ nw → See H g nw (.imm (.slice none 0 0)) (.view n 0 0)
  | lend {id off len : Nat} {es ys : List AV} : H.get id = some es → (∀ p ∈ g, p.2 ≠ id) → (es.drop off).take len = ys → (∀ e ∈ ys, NoId e) → See H g nw (.view id off len) (.sl ys)
  | agg (cs cs' : List AV) : cs.length = cs'.length → (∀ (k : Nat) (x x' : AV), cs[k]? = some x → cs'[k]? = some x' → See H g nw x x') → See H g nw (.agg cs) (.agg cs')

structure SeeL (H : Heap) (g : List (Nat × Nat)) (nw : List Nat) (es es' : List AV) : Prop where
  len : es.length = es'.length
  see : ∀ (k : Nat) (e e' : AV), es[k]? = some e → es'[k]? = some e' → See H g nw e e' ∧ e.flat.length = e'.flat.length

def Held (H : Heap) (g : List (Nat × Nat)) (nw : List Nat) (next : Nat) : List (Nat × (Nat × List AV)) → Prop
  | [] => True
  | (n, (s, es')) :: r => ((∃ old es, lk g n = some old ∧ lk H.objs old = some (s, es) ∧ SeeL H g nw es es') ∨ (n ∈ nw ∧ es' = [])) ∧ n < next ∧ Held H g nw next r

def Seen (H : Heap) (g : List (Nat × Nat)) (nw : List Nat) (fr : List (Nat × AV)) : List (Nat × AV) → Prop
  | [] => True
  | (t, x') :: r => (∃ x, lk fr t = some x ∧ See H g nw x x') ∧ Seen H g nw fr r

theorem lk_mem {α : Type} : ∀ {l : List (Nat × α)} {t : Nat} {x : α}, lk l t = some x → (t, x) ∈ l
  | [], _, _, h => by cases h
  | (s, u) :: l, t, x, h => by
    simp only [lk] at h
    split at h
    · rename_i hs; subst hs; cases h; exact List.mem_cons_self ..
    · exact List.mem_cons_of_mem _ (lk_mem h)

section
variable {P : Program} {W0 : World} {C : Ctx} {N : Nat} {H : Heap} {g : List (Nat × Nat)} {nw : List Nat}

theorem SeeL.same {es : List AV} (h : ∀ e ∈ es, NoId e) : SeeL H g nw es es :=
  ⟨rfl, fun k e e' h1 h2 => by rw [h1] at h2; cases h2; exact ⟨.same e (h e (List.mem_of_getElem? h1)), rfl⟩⟩

theorem Held.spec {next : Nat} : ∀ {l : List (Nat × (Nat × List AV))}, Held H g nw next l → ∀ {n s : Nat} {es' : List AV}, lk l n = some (s, es') →
    ((∃ old es, lk g n = some old ∧ lk H.objs old = some (s, es) ∧ SeeL H g nw es es') ∨ (n ∈ nw ∧ es' = [])) ∧ n < next
  | [], _, _, _, _, h => by cases h
  | (m, (s, es)) :: l, hl, n, s', es', h => by
    simp only [lk] at h
    split at h
    · rename_i hm; subst hm; cases h; exact ⟨hl.1, hl.2.1⟩
    · exact Held.spec hl.2.2 h

theorem Seen.spec {fr : List (Nat × AV)} : ∀ {l : List (Nat × AV)}, Seen H g nw fr l → ∀ {t : Nat} {x' : AV}, lk l t = some x' → ∃ x, lk fr t = some x ∧ See H g nw x x'
  | [], _, _, _, h => by cases h
  | (m, u) :: l, hl, t, x', h => by
    simp only [lk] at h
    split at h
    · rename_i hm; subst hm; cases h; exact hl.1
    · exact Seen.spec hl.2 h

theorem See.flat {e e' x x' : AV} (h : See H g nw e e') {j : Nat} (hl : e.flat.length = e'.flat.length) (h1 : e.flat[j]? = some x) (h2 : e'.flat[j]? = some x') : See H g nw x x' := by
  cases h with
  | same _ hn =>
    rw [h1] at h2; cases h2
    refine .same _ ?_
    cases e <;> simp only [AV.flat] at h1
    case agg cs => simp only [noId_agg] at hn; exact hn x (List.mem_of_getElem? h1)
    all_goals
      have := List.mem_of_getElem? h1
      simp only [List.mem_singleton] at this
      rw [this]; exact hn
  | any =>
    have := List.mem_of_getElem? h2
    simp only [AV.flat, List.mem_singleton] at this
    rw [this]; exact .any _
  | agg cs cs' hl' hs => exact hs j x x' h1 h2
  | view hg =>
    have a := List.mem_of_getElem? h1; have b := List.mem_of_getElem? h2
    simp only [AV.flat, List.mem_singleton] at a b
    rw [a, b]; exact .view hg
  | ref hg =>
    have a := List.mem_of_getElem? h1; have b := List.mem_of_getElem? h2
    simp only [AV.flat, List.mem_singleton] at a b
    rw [a, b]; exact .ref hg
  | nil hn =>
    have a := List.mem_of_getElem? h1; have b := List.mem_of_getElem? h2
    simp only [AV.flat, List.mem_singleton] at a b
    rw [a, b]; exact .nil hn
  | lend q1 q2 q3 q4 =>
    have a := List.mem_of_getElem? h1; have b := List.mem_of_getElem? h2
    simp only [AV.flat, List.mem_singleton] at a b
    rw [a, b]; exact .lend q1 q2 q3 q4

/-- An own slice, given up, may be read by whoever. -/
theorem rep_given {C' : Ctx} (hI : Inv W0 C) {id off len : Nat} {v : Value} {es : List AV} (h : Rep C (.view id off len) v) (hg : C.H.get id = some es) (hn : ∀ e ∈ (es.drop off).take len, NoId e) (hw : C'.w = C.w)
    (hbad : ∀ b, C'.bad b → C.bad b) (hfree : (C.pl id).nil = false → ¬ C'.bad (C.pl id).blk) : Rep C' (.sl ((es.drop off).take len)) v := by
  obtain ⟨ad, cap, rfl, h2, h3⟩ := rep_elems hI h (es := (es.drop off).take len) (by simp [AV.elems, hg])
  rcases h3 with h3 | ⟨b, o, sz, rfl, h4, h5, h6⟩
  · rw [h3]; exact .slNil _ _
  · by_cases hes : (es.drop off).take len = []
    · rw [hes]; exact .slNil _ _
    · have hne : (C.pl id).nil = false := by
        cases hq : (C.pl id).nil with
        | false => rfl
        | true => exact absurd (by rw [hI.nil id es hg hq]; simp) hes
      have hb : b = (C.pl id).blk := by
        have this : SliceAt (C.pl id) off len _ := match h with
          | .view _ _ _ _ _ hs _ => hs es hg
        unfold SliceAt at this
        rw [if_neg (by simp [hne])] at this
        obtain ⟨A, cap', h7, h8, h9, h10, h11⟩ := this
        simp only [Value.slice.injEq] at h7
        obtain ⟨h7, h12, h13⟩ := h7
        rcases h11 with h11 | h11
        · subst h11
          have : ((es.drop off).take len).length = 0 := by omega
          exact absurd (List.eq_nil_of_length_eq_zero this) hes
        · subst h11; cases h7; rfl
      have hch : ∀ i j, ∃ u : Value, ∀ e x, ((es.drop off).take len)[i]? = some e → e.flat[j]? = some x → Holds C.w b (o + i * sz + j) u ∧ Rep C x u := fun i j => by
        cases he : ((es.drop off).take len)[i]? with
        | none => exact ⟨undef, fun e x h => by cases h⟩
        | some e =>
          cases hx : e.flat[j]? with
          | none => exact ⟨undef, fun e' x h hx' => by cases h; rw [hx] at hx'; cases hx'⟩
          | some x =>
            obtain ⟨u, h7, h8⟩ := h6 i j e x he hx
            exact ⟨u, fun e' x' h hx' => by cases h; rw [hx] at hx'; cases hx'; exact ⟨h7, h8⟩⟩
      refine .sl _ b o sz cap (fun i j => Classical.choose (hch i j)) (by rw [hw]; exact h4) (by rw [hb]; exact hfree hne) h2 h5 (fun i j e x he hx => by rw [hw]; exact (Classical.choose_spec (hch i j) e x he hx).1) (fun i j e x he hx => ?_)
      have hne' := hn e (List.mem_of_getElem? he)
      refine (Classical.choose_spec (hch i j) e x he hx).2.move ?_ (by rw [hw]; exact Nat.le_refl _) (fun b _ hb => ⟨by rw [hw], fun h => hb (hbad b h)⟩)
      cases e <;> simp only [AV.flat] at hx
      case agg cs => simp only [noId_agg] at hne'; exact hne' x (List.mem_of_getElem? hx)
      all_goals
        have := List.mem_of_getElem? hx
        simp only [List.mem_singleton] at this
        rw [this]; exact hne'

def Ctx.re (C : Ctx) (g : List (Nat × Nat)) (H' : Heap) : Ctx := { C with H := H', pl := fun n => match lk g n with | some old => C.pl old | none => ⟨0, 0, 0, 0, true⟩ }

/-- Objects under other names, new empty ones, and some given up. -/
theorem Weak.re {st : St} {fr' : List (Nat × AV)} {H' : Heap} (g : List (Nat × Nat)) (nw : List Nat) (hinj : g.all (fun p => g.all (fun q => p.2 != q.2 || p.1 == q.1)) = true) (hlt : g.all (fun p => decide (p.1 < H'.next)) = true)
    (hnw : nw.all (fun n => (lk g n).isNone && decide (n < H'.next)) = true) (hH : Held st.H g nw H'.next H'.objs) (hfr : Seen st.H g nw st.fr fr') : Weak W0 N st ⟨fr', H'⟩ := by
  intro C a hr
  have hI := hr.inv
  have hCH := hr.heap
  have getS : ∀ {n : Nat} {es' : List AV}, (C.re g H').H.get n = some es' → ∃ s, lk H'.objs n = some (s, es') := fun {n es'} h => by
    simp only [Ctx.re, Heap.get, Option.map_eq_some_iff] at h
    obtain ⟨⟨s, e⟩, h1, rfl⟩ := h
    exact ⟨s, h1⟩
  have nwS : ∀ {n : Nat}, n ∈ nw → lk g n = none ∧ n < H'.next := fun {n} h => by
    have := List.all_eq_true.1 hnw n h
    simpa using this
  have gS : ∀ {n old : Nat}, lk g n = some old → n < H'.next := fun {n old} h => by
    have := List.all_eq_true.1 hlt _ (lk_mem h)
    simpa using this
  have inj : ∀ {n m old : Nat}, lk g n = some old → lk g m = some old → n = m := fun {n m old} h1 h2 => by
    have := List.all_eq_true.1 (List.all_eq_true.1 hinj _ (lk_mem h1)) _ (lk_mem h2)
    simpa using this
  have plS : ∀ {n old : Nat}, lk g n = some old → (C.re g H').pl n = C.pl old := fun {n old} h => by simp [Ctx.re, h]
  have plN : ∀ {n : Nat}, n ∈ nw → (C.re g H').pl n = ⟨0, 0, 0, 0, true⟩ := fun {n} h => by simp [Ctx.re, (nwS h).1]
  -- an object of the new context
  have objS : ∀ {n : Nat} {es' : List AV}, (C.re g H').H.get n = some es' → ((∃ old es, lk g n = some old ∧ C.H.get old = some es ∧ (C.re g H').pl n = C.pl old ∧ SeeL st.H g nw es es') ∨ (n ∈ nw ∧ es' = [])) ∧ n < H'.next := fun {n es'} h => by
    obtain ⟨s, h1⟩ := getS h
    obtain ⟨h2, h3⟩ := hH.spec h1
    refine ⟨?_, h3⟩
    rcases h2 with ⟨old, es, q1, q2, q3⟩ | h2
    · exact .inl ⟨old, es, q1, by rw [hCH]; simp [Heap.get, q2], plS q1, q3⟩
    · exact .inr h2
  have ownS : ∀ {b : Nat}, (C.re g H').own b → ∃ n old es, lk g n = some old ∧ C.H.get old = some es ∧ (C.pl old).nil = false ∧ (C.pl old).blk = b := fun {b} h => by
    obtain ⟨n, es', h1, h2, h3⟩ := h
    rcases (objS h1).1 with ⟨old, es, q1, q2, q3, _⟩ | ⟨q, _⟩
    · rw [q3] at h2 h3; exact ⟨n, old, es, q1, q2, h2, h3⟩
    · rw [plN q] at h2; cases h2
  have own' : ∀ b, (C.re g H').own b → C.own b := fun b h => by
    obtain ⟨n, old, es, _, q2, q3, q4⟩ := ownS h
    exact ⟨old, es, q2, q3, q4⟩
  have bad' : ∀ b, (C.re g H').bad b → C.bad b := fun b h => h.imp (own' b) id
  have repS : ∀ {x x' : AV}, See st.H g nw x x' → ∀ {v : Value}, Rep C x v → Rep (C.re g H') x' v := by
    intro x x' hs
    induction hs with
    | same x hn => intro v h; exact h.move hn (Nat.le_refl _) (fun b _ hb => ⟨rfl, fun h => hb (bad' b h)⟩)
    | any x => intro v _; exact .any v
    | view hg =>
      intro v h
      match h with
      | .view _ _ _ _ h1 h2 h3 =>
      refine .view _ _ _ _ (gS hg) (fun es' he => ?_) h3
      rcases (objS he).1 with ⟨o2, es, q1, q2, q3, _⟩ | ⟨q, _⟩
      · rw [hg] at q1; cases q1
        rw [q3]; exact h2 es q2
      · rw [(nwS q).1] at hg; cases hg
    | ref hg =>
      intro v h
      match h with
      | .ref _ _ _ _ h1 h2 h3 =>
      refine .ref _ _ _ _ (gS hg) (fun es' he => ?_) h3
      rcases (objS he).1 with ⟨o2, es, q1, q2, q3, _⟩ | ⟨q, _⟩
      · rw [hg] at q1; cases q1
        rw [q3]; exact h2 es q2
      · rw [(nwS q).1] at hg; cases hg
    | nil hn =>
      intro v h
      have := rep_toV (v := .slice none 0 0) rfl h
      subst this
      refine .view _ _ _ _ (nwS hn).2 (fun es' _ => ?_) rfl
      rw [plN hn]
      exact ⟨rfl, rfl, none, rfl⟩
    | lend hid hno hys hn =>
      intro v h
      rename_i id off len es ys
      subst hys
      refine rep_given hI h (by rw [hCH]; exact hid) hn rfl bad' (fun hnil hb => ?_)
      rcases hb with hb | hb
      · obtain ⟨n, old, es2, q1, q2, q3, q4⟩ := ownS hb
        have := hI.sep old id es2 es q2 (by rw [hCH]; exact hid) q3 hnil q4
        exact hno _ (lk_mem q1) this
      · exact hI.prot id es (by rw [hCH]; exact hid) hnil hb
    | agg cs cs' hl _ ih =>
      intro v h
      match h with
      | .agg _ vs h1 h2 h3 =>
      refine .agg cs' vs (h1.trans hl) h2 (fun k x' hx' => ?_)
      have hk : k < cs.length := by rw [hl]; exact (List.getElem?_eq_some_iff.1 hx').1
      exact ih k cs[k] x' (List.getElem?_eq_getElem hk) hx' (h3 k _ (List.getElem?_eq_getElem hk))
  refine ⟨C.re g H', rfl, ⟨.refl _ _, fun _ _ _ => rfl, fun b _ h => own' b h, rfl⟩, rfl, ?_, hr.size, hr.defers, fun t x' hx' => ?_⟩
  · exact {
      fresh := fun n es' h => (objS h).2
      nil := fun n es' h hn => by
        rcases (objS h).1 with ⟨old, es, q1, q2, q3, q4⟩ | ⟨q, h⟩
        · rw [q3] at hn
          have := hI.nil old es q2 hn
          subst this
          exact List.eq_nil_of_length_eq_zero q4.len.symm
        · exact h
      obj := fun n es' h hn => by
        rcases (objS h).1 with ⟨old, es, q1, q2, q3, q4⟩ | ⟨q, h⟩
        · rw [q3] at hn ⊢
          have hO := hI.obj old es q2 hn
          have back : ∀ {i : Nat} {e' : AV}, es'[i]? = some e' → ∃ e, es[i]? = some e ∧ See st.H g nw e e' ∧ e.flat.length = e'.flat.length := fun {i e'} hi => by
            have hk : i < es.length := by rw [q4.len]; exact (List.getElem?_eq_some_iff.1 hi).1
            exact ⟨es[i], List.getElem?_eq_getElem hk, q4.see i _ e' (List.getElem?_eq_getElem hk) hi⟩
          refine ⟨hO.n.trans q4.len, hO.cap, hO.blk, hO.one, fun i e' he' => ?_, fun i j e' x' v he' hx' hv => ?_⟩
          · obtain ⟨e, h1, _, h3⟩ := back he'
            rw [← h3]; exact hO.flat i e h1
          · obtain ⟨e, h1, h2, h3⟩ := back he'
            have hj : j < e.flat.length := by rw [h3]; exact (List.getElem?_eq_some_iff.1 hx').1
            exact repS (h2.flat h3 (List.getElem?_eq_getElem hj) hx') (hO.cell i j e _ v h1 (List.getElem?_eq_getElem hj) hv)
        · rw [plN q] at hn; cases hn
      sep := fun n m en em h1 h2 hn hm hb => by
        rcases (objS h1).1 with ⟨o1, e1, p1, p2, p3, _⟩ | ⟨q, _⟩
        · rcases (objS h2).1 with ⟨o2, e2, r1, r2, r3, _⟩ | ⟨q, _⟩
          · rw [p3] at hn hb; rw [r3] at hm hb
            have := hI.sep o1 o2 e1 e2 p2 r2 hn hm hb
            subst this
            exact inj p1 r1
          · rw [plN q] at hm; cases hm
        · rw [plN q] at hn; cases hn
      prot := fun n es' h hn => by
        rcases (objS h).1 with ⟨old, es, q1, q2, q3, _⟩ | ⟨q, _⟩
        · rw [q3] at hn ⊢; exact hI.prot old es q2 hn
        · rw [plN q] at hn; cases hn
      szok := fun n s h hn => by
        simp only [Ctx.re, Heap.sz, Option.map_eq_some_iff] at h
        obtain ⟨⟨s', es'⟩, h1, rfl⟩ := h
        rcases (hH.spec h1).1 with ⟨old, es, q1, q2, _⟩ | ⟨q, _⟩
        · rw [plS q1] at hn ⊢
          exact hI.szok old s' (by rw [hCH]; simp [Heap.sz, q2]) hn
        · rw [plN q] at hn; cases hn
      protlt := hI.protlt
      protge := hI.protge
      size := hI.size
      glob := fun b h => ⟨(hI.glob b h).1, fun ho => (hI.glob b h).2 (own' b ho)⟩ }
  · obtain ⟨x, h1, h2⟩ := hfr.spec hx'
    exact repS h2 (hr.rep t x h1)

end
end Go.Av
