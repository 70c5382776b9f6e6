/- A slice of structs that is the proof's own, the slices in its cells too: all but one of these seen as numbers while a piece of code runs. -/
import Derived.Test.YtdeepljikmgjjaaSh
namespace Go.Av
open Go
theorem Rep.tr {C D : Ctx} {p : Nat} (hs : C.w.heap.size ≤ D.w.heap.size) (hk : ∀ b, b < C.w.heap.size → ¬ C.bad b → D.w.heap[b]? = C.w.heap[b]? ∧ ¬ D.bad b)
    (hid : ∀ k, k < p → k < D.H.next ∧ ∀ es', D.H.get k = some es' → (∃ es, C.H.get k = some es) ∧ D.pl k = C.pl k) {x : AV} {v : Value} (hr : Rep C x v) (hb : Under p x) : Rep D x v := by
  have hh : ∀ {b o : Nat} {v : Value}, b < C.w.heap.size → ¬ C.bad b → Holds C.w b o v → Holds D.w b o v := fun {b o v} hb hn h => by
    refine ⟨?_, h.2⟩
    rw [World.cell?_of_block (w := C.w) (a := ⟨b, o, none⟩) (hk b hb hn).1]
    exact h.1
  induction hr with
  | any v => exact .any v
  | imm v hv => exact .imm v hv
  | slNil a cap => exact .slNil a cap
  | sl es b off sz cap c hlt hn hc hf hcell _ ih =>
    cases hb with
    | sl _ hb => exact .sl es b off sz cap c (Nat.lt_of_lt_of_le hlt hs) (hk b hlt hn).2 hc hf (fun i j e x he hx => hh hlt hn (hcell i j e x he hx)) (fun i j e x he hx => ih i j e x he hx (hb e (List.mem_of_getElem? he) x (List.mem_of_getElem? hx)))
  | clipNil a => exact .clipNil a
  | clip es b off sz c hlt hn hf hcell _ ih =>
    cases hb with
    | clip _ hb => exact .clip es b off sz c (Nat.lt_of_lt_of_le hlt hs) (hk b hlt hn).2 hf (fun i j e x he hx => hh hlt hn (hcell i j e x he hx)) (fun i j e x he hx => ih i j e x he hx (hb e (List.mem_of_getElem? he) x (List.mem_of_getElem? hx)))
  | view id off len v hid' hs' h1 =>
    cases hb with
    | view _ _ _ hp =>
    refine .view id off len v (hid id hp).1 (fun es he => ?_) h1
    obtain ⟨⟨es0, h0⟩, hpl⟩ := (hid id hp).2 es he
    rw [hpl]; exact hs' es0 h0
  | ref id i j v hid' hs' h1 =>
    cases hb with
    | ref _ _ _ hp =>
    refine .ref id i j v (hid id hp).1 (fun es he => ?_) h1
    obtain ⟨⟨es0, h0⟩, hpl⟩ := (hid id hp).2 es he
    rw [hpl]; exact hs' es0 h0
  | mref id v hid' hs' h1 =>
    cases hb with
    | mref _ hp =>
    refine .mref id v (hid id hp).1 (fun es he => ?_) h1
    obtain ⟨⟨es0, h0⟩, hpl⟩ := (hid id hp).2 es he
    rw [hpl]; exact hs' es0 h0
  | pp fl j b off c hlt hn hcell _ ih =>
    cases hb with
    | pp _ _ hb => exact .pp fl j b off c (Nat.lt_of_lt_of_le hlt hs) (hk b hlt hn).2 (fun k x hx => hh hlt hn (hcell k x hx)) (fun k x hx => ih k x hx (hb x (List.mem_of_getElem? hx)))
  | agg cs vs hs h1 _ ih => cases hb with | agg _ hb => exact .agg cs vs hs h1 (fun k x hx => ih k x hx (hb x (List.mem_of_getElem? hx)))
  | tuple cs vs hs _ ih => cases hb with | tuple _ hb => exact .tuple cs vs hs (fun k x hx => ih k x hx (hb x (List.mem_of_getElem? hx)))
  | ifc t x v _ ih => cases hb with | ifc _ _ hb => exact .ifc t x v (ih hb)
  | clo fn caps vs hs _ ih => cases hb with | clo _ _ hb => exact .clo fn caps vs hs (fun k x hx => ih k x hx (hb x (List.mem_of_getElem? hx)))

abbrev Fa := G.fact_Fact
def mcell (x : Fa) (c : AV) : AV := .agg [i64 x.C.Key, i64 x.C.A, i64 x.C.B, i64 x.Kind, i64 x.I, i64 x.J, c]
def cellsF (g : Nat → Fa → AV) : Nat → List Fa → List AV
  | _, [] => []
  | j, x :: l => mcell x (g j x) :: cellsF g (j + 1) l
theorem cellsF_get (g : Nat → Fa → AV) : ∀ (fs : List Fa) (q j : Nat), (cellsF g q fs)[j]? = fs[j]?.map fun x => mcell x (g (q + j) x)
  | [], q, j => by simp [cellsF]
  | x :: l, q, 0 => by simp [cellsF]
  | x :: l, q, j + 1 => by simp only [cellsF, List.getElem?_cons_succ, cellsF_get g l]; rw [Nat.add_assoc, Nat.add_comm 1 j]
theorem cellsF_len (g : Nat → Fa → AV) : ∀ (fs : List Fa) (q : Nat), (cellsF g q fs).length = fs.length
  | [], _ => rfl
  | _ :: l, q => by simp [cellsF, cellsF_len g l]
theorem cellsF_set {g g' : Nat → Fa → AV} {fs : List Fa} {k : Nat} {y : Fa} {c : AV} (hc : g' k y = c) (hg : ∀ j x, j ≠ k → fs[j]? = some x → g j x = g' j x) : (cellsF g 0 fs).set k (mcell y c) = cellsF g' 0 (fs.set k y) := by
  apply List.ext_getElem?
  intro j
  rw [List.getElem?_set, cellsF_get, cellsF_get, cellsF_len, List.getElem?_set]
  by_cases h : k = j
  · subst h
    by_cases hk : k < fs.length
    · simp [hk, hc]
    · simp [hk]
  · rw [if_neg h, if_neg h]
    cases hx : fs[j]? with
    | none => rfl
    | some x => simp only [Option.map_some, Nat.zero_add]; rw [hg j x (Ne.symm h) hx]
theorem cellsF_same {g g' : Nat → Fa → AV} {fs : List Fa} (hg : ∀ j x, fs[j]? = some x → g j x = g' j x) : cellsF g 0 fs = cellsF g' 0 fs := by
  apply List.ext_getElem?
  intro j
  rw [cellsF_get, cellsF_get]
  cases hx : fs[j]? with
  | none => rfl
  | some x => simp only [Option.map_some, Nat.zero_add]; rw [hg j x hx]
def outC (M n j : Nat) (x : Fa) : AV := if j < n then .view (M + j) 0 x.Cycle.length else .sl (x.Cycle.map i64)
def innC (vs : Nat → Value) (M n : Nat) (f : Option Nat) (j : Nat) (x : Fa) : AV := if f = some j then .view M 0 x.Cycle.length else if j < n then .imm (vs j) else .sl (x.Cycle.map i64)
def rowsF (fs : List Fa) (n : Nat) : List (List Int) := (fs.take n).map (·.Cycle)
theorem rowsF_get (fs : List Fa) (n j : Nat) : (rowsF fs n)[j]? = if j < n then fs[j]?.map (·.Cycle) else none := by
  simp only [rowsF, List.getElem?_map, List.getElem?_take]
  split <;> rfl
def OH (F : List (Nat × (Nat × List AV))) (K M : Nat) (fs : List Fa) (n : Nat) : Heap := ⟨M + n, (F ++ [(K, (7, cellsF (outC M n) 0 fs))]) ++ fam i64 1 M (rowsF fs n), []⟩
def IH (F : List (Nat × (Nat × List AV))) (K M : Nat) (vs : Nat → Value) (fs : List Fa) (n : Nat) : Option Nat → Heap
  | none => ⟨M, F ++ [(K, (7, cellsF (innC vs M n none) 0 fs))], []⟩
  | some i => ⟨M + 1, F ++ [(K, (7, cellsF (innC vs M n (some i)) 0 fs)), (M, (1, (fs[i]?.getD default).Cycle.map i64))], []⟩
structure Frt (F : List (Nat × (Nat × List AV))) (K M p : Nat) : Prop where
  km : K < M
  lt : ∀ q ∈ F, q.1 < M
  nk : ∀ q ∈ F, q.1 ≠ K
  und : ∀ q ∈ F, ∀ e ∈ q.2.2, ∀ x ∈ e.flat, Under M x
  pm : p ≤ M
section
variable {F : List (Nat × (Nat × List AV))} {K M p n : Nat} {fs : List Fa}
theorem Frt.none (h : Frt F K M p) : lk F K = none := by
  cases hc : lk F K with
  | none => rfl
  | some v => exact absurd rfl (h.nk _ (lk_mem hc))
theorem Frt.hi (h : Frt F K M p) {k : Nat} (hk : M ≤ k) : lk F k = Option.none := by
  cases hc : lk F k with
  | none => rfl
  | some v => have := h.lt _ (lk_mem hc); simp only at this; omega
theorem OH_get (h : Frt F K M p) (k : Nat) : lk (OH F K M fs n).objs k = if k = K then some (7, cellsF (outC M n) 0 fs) else if k < M then lk F k else if k < M + n then fs[k - M]?.map fun x => (1, x.Cycle.map i64) else .none := by
  show lk ((F ++ [(K, (7, cellsF (outC M n) 0 fs))]) ++ fam i64 1 M (rowsF fs n)) k = _
  rw [lk_append, lk_append, lk_fam, rowsF_get]
  by_cases hk : k = K
  · subst hk
    rw [if_pos rfl, h.none]; simp [lk]
  · rw [if_neg hk]
    have e : lk [(K, (7, cellsF (outC M n) 0 fs))] k = none := by simp only [lk]; rw [if_neg (Ne.symm hk)]
    rw [e]
    by_cases hm : k < M
    · rw [if_pos hm, if_neg (by omega)]; cases lk F k <;> rfl
    · rw [if_neg hm, h.hi (by omega), if_pos (by omega)]
      by_cases hq : k < M + n
      · rw [if_pos hq, if_pos (by omega)]
        cases fs[k - M]? <;> rfl
      · rw [if_neg hq, if_neg (by omega)]; rfl
theorem IH_get (h : Frt F K M p) (vs : Nat → Value) (f : Option Nat) (k : Nat) : lk (IH F K M vs fs n f).objs k = if k = K then some (7, cellsF (innC vs M n f) 0 fs) else if k < M then lk F k else match f with | .none => .none | some i => if k = M then some (1, (fs[i]?.getD default).Cycle.map i64) else .none := by
  cases f with
  | none =>
    show lk (F ++ [(K, (7, cellsF (innC vs M n none) 0 fs))]) k = _
    rw [lk_append]
    by_cases hk : k = K
    · subst hk; rw [if_pos rfl, h.none]; simp [lk]
    · rw [if_neg hk]
      have e : lk [(K, (7, cellsF (innC vs M n none) 0 fs))] k = Option.none := by simp only [lk]; rw [if_neg (Ne.symm hk)]
      rw [e]
      by_cases hm : k < M
      · rw [if_pos hm]; cases lk F k <;> rfl
      · rw [if_neg hm, h.hi (by omega)]
  | some i =>
    show lk (F ++ [(K, (7, cellsF (innC vs M n (some i)) 0 fs)), (M, (1, (fs[i]?.getD default).Cycle.map i64))]) k = _
    rw [lk_append]
    by_cases hk : k = K
    · subst hk; rw [if_pos rfl, h.none]; simp [lk]
    · rw [if_neg hk]
      by_cases hm : k < M
      · rw [if_pos hm]
        have e : lk [(K, (7, cellsF (innC vs M n (some i)) 0 fs)), (M, (1, (fs[i]?.getD default).Cycle.map i64))] k = Option.none := by
          simp only [lk]; rw [if_neg (Ne.symm hk), if_neg (by omega)]
        rw [e]; cases lk F k <;> rfl
      · rw [if_neg hm, h.hi (by omega)]
        simp only [lk]
        rw [if_neg (Ne.symm hk)]
        by_cases hq : k = M
        · subst hq; simp
        · rw [if_neg (Ne.symm hq), if_neg hq]
end

theorem get_iff {H : Heap} {k : Nat} {es : List AV} : H.get k = some es ↔ ∃ s, lk H.objs k = some (s, es) := by
  unfold Heap.get
  constructor
  · intro h
    obtain ⟨⟨s, e⟩, h1, h2⟩ := Option.map_eq_some_iff.1 h
    simp only at h2; subst h2; exact ⟨s, h1⟩
  · rintro ⟨s, h⟩; rw [h]; rfl
theorem sz_iff {H : Heap} {k s : Nat} : H.sz k = some s ↔ ∃ es, lk H.objs k = some (s, es) := by
  unfold Heap.sz
  constructor
  · intro h
    obtain ⟨⟨s', e⟩, h1, h2⟩ := Option.map_eq_some_iff.1 h
    simp only at h2; subst h2; exact ⟨e, h1⟩
  · rintro ⟨es, h⟩; rw [h]; rfl
def hidB (C : Ctx) (M n : Nat) (f : Option Nat) (b : Nat) : Prop := ∃ j, j < n ∧ f ≠ some j ∧ (C.pl (M + j)).nil = false ∧ (C.pl (M + j)).blk = b
def Ctx.foc (C : Ctx) (H : Heap) (M n : Nat) (f : Option Nat) : Ctx :=
  { w := C.w, H := H, pl := fun k => if k < M then C.pl k else match f with | some i => C.pl (M + i) | none => ⟨0, 0, 0, 0, true⟩, prot := fun b => C.prot b ∨ hidB C M n f b, dfs := C.dfs, pin := C.pin }
def Ctx.vals (C : Ctx) (K j : Nat) : Value := (C.w.cell? ⟨(C.pl K).blk, j * (C.pl K).sz + 6, none⟩).getD undef
theorem flat_mcell {x : Fa} {c : AV} : (mcell x c).flat = [i64 x.C.Key, i64 x.C.A, i64 x.C.B, i64 x.Kind, i64 x.I, i64 x.J, c] := rfl
theorem mcell_lt {x : Fa} {c c' y : AV} {j : Nat} (hj : j ≠ 6) (h : (mcell x c).flat[j]? = some y) : (mcell x c').flat[j]? = some y ∧ NoId y := by
  rw [flat_mcell] at h ⊢
  match j, hj with
  | 0, _ | 1, _ | 2, _ | 3, _ | 4, _ | 5, _ => exact ⟨h, by simp at h; subst h; simp⟩
  | j + 7, _ => simp at h
theorem mcell_six {x : Fa} {c y : AV} (h : (mcell x c).flat[6]? = some y) : y = c := by simpa [flat_mcell] using h.symm

section
variable {W : World} {p N : Nat} {F : List (Nat × (Nat × List AV))} {K M n : Nat} {fs : List Fa} {f : Option Nat} {C : Ctx}
theorem OH_lk (hF : Frt F K M p) (hH : C.H = OH F K M fs n) {k s : Nat} {es : List AV} (h : lk C.H.objs k = some (s, es)) :
    (k = K ∧ s = 7 ∧ es = cellsF (outC M n) 0 fs) ∨ (k ≠ K ∧ k < M ∧ lk F k = some (s, es)) ∨ ∃ j x, k = M + j ∧ j < n ∧ fs[j]? = some x ∧ s = 1 ∧ es = x.Cycle.map i64 := by
  rw [hH, OH_get hF] at h
  split at h
  · rename_i hk; cases h; exact .inl ⟨hk, rfl, rfl⟩
  · rename_i hk
    split at h
    · exact .inr (.inl ⟨hk, by assumption, h⟩)
    · split at h
      · obtain ⟨x, hx, he⟩ := Option.map_eq_some_iff.1 h
        cases he
        exact .inr (.inr ⟨k - M, x, by omega, by omega, hx, rfl, rfl⟩)
      · cases h
theorem OH_row (hF : Frt F K M p) (hH : C.H = OH F K M fs n) {j : Nat} {x : Fa} (hj : j < n) (hx : fs[j]? = some x) : lk C.H.objs (M + j) = some (1, x.Cycle.map i64) := by
  have := hF.km
  rw [hH, OH_get hF, if_neg (by omega), if_neg (by omega), if_pos (by omega), Nat.add_sub_cancel_left, hx]; rfl
theorem OH_K (hF : Frt F K M p) (hH : C.H = OH F K M fs n) : lk C.H.objs K = some (7, cellsF (outC M n) 0 fs) := by rw [hH, OH_get hF, if_pos rfl]
theorem OH_F (hF : Frt F K M p) (hH : C.H = OH F K M fs n) {k : Nat} {v : Nat × List AV} (h : lk F k = some v) : lk C.H.objs k = some v := by
  have h1 := hF.lt _ (lk_mem h); have h2 := hF.nk _ (lk_mem h)
  simp only at h1 h2
  rw [hH, OH_get hF, if_neg h2, if_pos h1, h]
theorem IH_lk {vs : Nat → Value} (hF : Frt F K M p) (hH : C.H = IH F K M vs fs n f) {k s : Nat} {es : List AV} (h : lk C.H.objs k = some (s, es)) :
    (k = K ∧ s = 7 ∧ es = cellsF (innC vs M n f) 0 fs) ∨ (k ≠ K ∧ k < M ∧ lk F k = some (s, es)) ∨ ∃ i, f = some i ∧ k = M ∧ s = 1 ∧ es = (fs[i]?.getD default).Cycle.map i64 := by
  rw [hH, IH_get hF] at h
  split at h
  · rename_i hk; cases h; exact .inl ⟨hk, rfl, rfl⟩
  · rename_i hk
    split at h
    · exact .inr (.inl ⟨hk, by assumption, h⟩)
    · cases f with
      | none => cases h
      | some i =>
        simp only at h
        split at h
        · cases h; exact .inr (.inr ⟨i, rfl, by assumption, rfl, rfl⟩)
        · cases h
theorem IH_K {vs : Nat → Value} (hF : Frt F K M p) (hH : C.H = IH F K M vs fs n f) : lk C.H.objs K = some (7, cellsF (innC vs M n f) 0 fs) := by rw [hH, IH_get hF, if_pos rfl]
theorem IH_F {vs : Nat → Value} (hF : Frt F K M p) (hH : C.H = IH F K M vs fs n f) {k : Nat} {v : Nat × List AV} (h : lk F k = some v) : lk C.H.objs k = some v := by
  have h1 := hF.lt _ (lk_mem h); have h2 := hF.nk _ (lk_mem h)
  simp only at h1 h2
  rw [hH, IH_get hF, if_neg h2, if_pos h1, h]
theorem IH_row {vs : Nat → Value} {i : Nat} (hF : Frt F K M p) (hH : C.H = IH F K M vs fs n (some i)) : lk C.H.objs M = some (1, (fs[i]?.getD default).Cycle.map i64) := by
  have := hF.km
  rw [hH, IH_get hF, if_neg (by omega), if_neg (by omega)]; simp
theorem IH_next {vs : Nat → Value} : M ≤ (IH F K M vs fs n f).next := by cases f <;> simp [IH]
theorem IH_lps {vs : Nat → Value} : (IH F K M vs fs n f).lps = [] := by cases f <;> rfl

theorem focus_in (hF : Frt F K M p) (hn : n ≤ fs.length) (hf : ∀ i, f = some i → i < n) {fr : List (Nat × AV)} (hfr : UnderL M fr) {a : Act} (hr : Rel (.pinned W p) N (lk fr) (OH F K M fs n) C a) :
    Rel (.pinned W p) N (lk fr) (IH F K M (C.vals K) fs n f) (C.foc (IH F K M (C.vals K) fs n f) M n f) a ∧ (∀ b, (C.foc (IH F K M (C.vals K) fs n f) M n f).own b → C.own b) ∧
    (∀ j x, j < n → fs[j]? = some x → SliceAt (C.pl (M + j)) 0 x.Cycle.length (C.vals K j) ∧ (C.vals K j).oneCell' = true) := by
  have hI := hr.inv
  have hH := hr.heap
  have km := hF.km
  have hfx : ∀ i, f = some i → ∃ x, fs[i]? = some x := fun i hi => ⟨fs[i]'(by have := hf i hi; omega), List.getElem?_eq_getElem _⟩
  -- the cells' values
  have hv : ∀ j x, j < n → fs[j]? = some x → SliceAt (C.pl (M + j)) 0 x.Cycle.length (C.vals K j) ∧ (C.vals K j).oneCell' = true := fun j x hj hx => by
    have hK : C.H.get K = some (cellsF (outC M n) 0 fs) := get_iff.2 ⟨7, OH_K hF hH⟩
    cases hnil : (C.pl K).nil with
    | true =>
      have := hI.nil K _ hK hnil
      have h2 : fs.length = 0 := by rw [← cellsF_len (outC M n) fs 0, this]; rfl
      have := (List.getElem?_eq_some_iff.1 hx).1
      omega
    | false =>
      obtain ⟨u, h1, h2⟩ := holds_obj hI hK hnil (i := j) (j := 6) (e := mcell x (outC M n j x)) (x := outC M n j x) (by rw [cellsF_get, hx]; simp) rfl
      have hu : C.vals K j = u := by unfold Ctx.vals; rw [h1.1]; rfl
      rw [hu]
      unfold outC at h2
      rw [if_pos hj] at h2
      cases h2 with
      | view _ _ _ _ _ q1 q2 => exact ⟨q1 _ (get_iff.2 ⟨1, OH_row hF hH hj hx⟩), q2⟩
  -- where an object is seen from
  have hsrc : ∀ k s es, lk (C.foc (IH F K M (C.vals K) fs n f) M n f).H.objs k = some (s, es) → ∃ q es0, lk C.H.objs q = some (s, es0) ∧ (C.foc (IH F K M (C.vals K) fs n f) M n f).pl k = C.pl q ∧ es.length = es0.length ∧ (k ≠ K → es = es0) ∧ (k = K → q = K) ∧ (k < M → q = k) ∧ (¬ k < M → k = M ∧ ∃ i, f = some i ∧ q = M + i) := fun k s es h => by
    rcases IH_lk hF rfl h with ⟨rfl, rfl, rfl⟩ | ⟨h1, h2, h3⟩ | ⟨i, h1, h2, h3, h4⟩
    · exact ⟨k, _, OH_K hF hH, by simp [Ctx.foc, km], by rw [cellsF_len, cellsF_len], fun h => absurd rfl h, fun _ => rfl, fun _ => rfl, fun h => absurd km h⟩
    · exact ⟨k, es, OH_F hF hH h3, by simp [Ctx.foc, h2], rfl, fun _ => rfl, fun h => absurd h h1, fun _ => rfl, fun h => absurd h2 h⟩
    · subst h2 h3 h4
      obtain ⟨x, hx⟩ := hfx i h1
      refine ⟨k + i, _, OH_row hF hH (hf i h1) hx, by simp [Ctx.foc, h1], by rw [hx]; rfl, fun _ => by rw [hx]; rfl, fun h => by omega, fun h => by omega, fun _ => ⟨rfl, i, h1, rfl⟩⟩
  have sp' : ∀ b, (C.foc (IH F K M (C.vals K) fs n f) M n f).sp b → C.sp b := fun b h => by
    rcases h with ⟨r, h⟩ | h
    · simp [Ctx.foc, IH_lps, lk] at h
    · exact .inr h
  have own' : ∀ b, (C.foc (IH F K M (C.vals K) fs n f) M n f).own b → C.own b := fun b h => by
    rcases h with ⟨k, es, h1, h2, h3⟩ | h
    · obtain ⟨s, h1⟩ := get_iff.1 h1
      obtain ⟨q, es0, g1, g2, _⟩ := hsrc k s es h1
      rw [g2] at h2 h3
      exact .inl ⟨q, es0, get_iff.2 ⟨s, g1⟩, h2, h3⟩
    · exact .inr (sp' b h)
  have hid' : ∀ b, hidB C M n f b → C.own b := fun b ⟨j, h1, _, h3, h4⟩ => by
    have hx : fs[j]? = some (fs[j]'(by omega)) := List.getElem?_eq_getElem _
    exact .inl ⟨M + j, _, get_iff.2 ⟨1, OH_row hF hH h1 hx⟩, h3, h4⟩
  have bad' : ∀ b, (C.foc (IH F K M (C.vals K) fs n f) M n f).bad b → C.bad b := fun b h => by
    rcases h with h | h | h
    · exact .inl (own' b h)
    · exact .inr h
    · exact .inl (hid' b h)
  have tr : ∀ {x : AV} {v : Value}, Rep C x v → Under M x → Rep (C.foc (IH F K M (C.vals K) fs n f) M n f) x v := fun hx hu =>
    Rep.tr (C := C) (D := C.foc (IH F K M (C.vals K) fs n f) M n f) (p := M) (Nat.le_refl _) (fun b _ hb => ⟨rfl, fun h => hb (bad' b h)⟩) (fun k hk => ⟨Nat.lt_of_lt_of_le hk IH_next, fun es' he => by
      obtain ⟨s, he⟩ := get_iff.1 he
      obtain ⟨q, es0, g1, g2, _, _, _, g3, _⟩ := hsrc k s es' he
      have := g3 hk; subst this
      exact ⟨⟨es0, get_iff.2 ⟨s, g1⟩⟩, g2⟩⟩) hx hu
  refine ⟨⟨rfl, ?_, hr.size, hr.defers, fun t x hx => tr (hr.rep t x hx) (UnderL.spec hfr t x hx)⟩, own', hv⟩
  exact {
    fresh := fun k es h => by
      obtain ⟨s, h⟩ := get_iff.1 h
      obtain ⟨q, es0, _, _, _, _, _, _, g⟩ := hsrc k s es h
      by_cases hk : k < M
      · exact Nat.lt_of_lt_of_le hk IH_next
      · obtain ⟨rfl, i, rfl, _⟩ := g hk
        exact Nat.lt_succ_self _
    nil := fun k es h hn => by
      obtain ⟨s, h⟩ := get_iff.1 h
      obtain ⟨q, es0, g1, g2, g3, _⟩ := hsrc k s es h
      rw [g2] at hn
      have := hI.nil q es0 (get_iff.2 ⟨s, g1⟩) hn
      subst this
      exact List.eq_nil_of_length_eq_zero g3
    obj := fun k es h hn => by
      obtain ⟨s, h⟩ := get_iff.1 h
      obtain ⟨q, es0, g1, g2, g3, g4, g5, g6, g7⟩ := hsrc k s es h
      rw [g2] at hn ⊢
      have hO := hI.obj q es0 (get_iff.2 ⟨s, g1⟩) hn
      by_cases hk : k = K
      · have := g5 hk; subst this; subst hk
        rcases IH_lk hF rfl h with ⟨_, rfl, rfl⟩ | ⟨h1, _⟩ | ⟨i, _, h2, _⟩
        rotate_left
        · exact absurd rfl h1
        · omega
        have he0 := OH_K hF hH
        rw [g1] at he0
        cases he0
        refine ⟨hO.n.trans g3.symm, hO.cap, hO.blk_to (fun l hl => ?_), hO.one, fun i e he => ?_, fun i j e x v he hx hv' => ?_⟩
        · cases hfs : fs with
          | nil => rw [hfs] at hl; simp [cellsF] at hl
          | cons y r => rw [hfs] at hl; simp [cellsF, mcell] at hl
        · rw [cellsF_get] at he
          obtain ⟨y, hy, rfl⟩ := Option.map_eq_some_iff.1 he
          exact hO.flat i (mcell y (outC M n (0 + i) y)) (by rw [cellsF_get, hy]; rfl)
        · rw [cellsF_get] at he
          obtain ⟨y, hy, rfl⟩ := Option.map_eq_some_iff.1 he
          have hy0 : (cellsF (outC M n) 0 fs)[i]? = some (mcell y (outC M n i y)) := by rw [cellsF_get, hy]; simp
          rw [Nat.zero_add] at hx
          by_cases hj : j = 6
          · subst hj
            have := mcell_six hx; subst this
            have hv0 := hO.cell i 6 _ (outC M n i y) v hy0 rfl hv'
            have hone := hO.one _ v hv'
            unfold innC
            unfold outC at hv0
            split
            · rename_i hfi
              rw [if_pos (hf i hfi)] at hv0
              cases hv0 with
              | view _ _ _ _ _ q1 q2 =>
                refine .view _ _ _ _ ?_ (fun es' _ => ?_) q2
                · show M < (IH F k M (C.vals k) fs n f).next
                  rw [hfi]; exact Nat.lt_succ_self _
                · have := q1 _ (get_iff.2 ⟨1, OH_row hF hH (hf i hfi) hy⟩)
                  simpa [Ctx.foc, hfi] using this
            · split
              · have : C.vals k i = v := by
                  have hv2 : C.w.cell? ⟨(C.pl k).blk, i * (C.pl k).sz + 6, none⟩ = some v := hv'
                  unfold Ctx.vals; rw [hv2]; rfl
                rw [this]; exact .imm _ hone
              · rename_i h8
                rw [if_neg h8] at hv0
                exact tr hv0 (.noid (by simp))
          · obtain ⟨h1, h2⟩ := mcell_lt (c' := outC M n i y) hj hx
            exact tr (hO.cell i j _ x v hy0 h1 hv') (.noid h2)
      · have := g4 hk; subst this
        refine ⟨hO.n, hO.cap, hO.blk, hO.one, hO.flat, fun i j e x v he hx hv' => tr (hO.cell i j e x v he hx hv') ?_⟩
        rcases IH_lk hF rfl h with ⟨h1, _⟩ | ⟨_, _, h3⟩ | ⟨i', _, _, _, h4⟩
        · exact absurd h1 hk
        · exact hF.und _ (lk_mem h3) e (List.mem_of_getElem? he) x (List.mem_of_getElem? hx)
        · subst h4
          obtain ⟨y, _, rfl⟩ := List.mem_map.1 (List.mem_of_getElem? he)
          have : x = i64 y := by simpa [AV.flat] using (List.mem_of_getElem? hx)
          rw [this]; exact .imm _
    sep := fun k1 k2 e1 e2 h1 h2 n1 n2 hb => by
      obtain ⟨s1, h1⟩ := get_iff.1 h1
      obtain ⟨s2, h2⟩ := get_iff.1 h2
      obtain ⟨q1, es1, a1, a2, _, _, _, a6, a7⟩ := hsrc k1 s1 e1 h1
      obtain ⟨q2, es2, b1, b2, _, _, _, b6, b7⟩ := hsrc k2 s2 e2 h2
      rw [a2] at n1 hb; rw [b2] at n2 hb
      have := hI.sep q1 q2 es1 es2 (get_iff.2 ⟨s1, a1⟩) (get_iff.2 ⟨s2, b1⟩) n1 n2 hb
      by_cases hk1 : k1 < M <;> by_cases hk2 : k2 < M
      · have := a6 hk1; have := b6 hk2; omega
      · have := a6 hk1; obtain ⟨_, i, _, _⟩ := b7 hk2; omega
      · have := b6 hk2; obtain ⟨_, i, _, _⟩ := a7 hk1; omega
      · rw [(a7 hk1).1, (b7 hk2).1]
    prot := fun k es h hn hb => by
      obtain ⟨s, h⟩ := get_iff.1 h
      obtain ⟨q, es0, g1, g2, _, _, _, g6, g7⟩ := hsrc k s es h
      rw [g2] at hn hb
      rcases hb with hb | ⟨j, h1, h2, h3, h4⟩
      · exact hI.prot q es0 (get_iff.2 ⟨s, g1⟩) hn hb
      · have hx : fs[j]? = some (fs[j]'(by omega)) := List.getElem?_eq_getElem _
        have := hI.sep (M + j) q _ es0 (get_iff.2 ⟨1, OH_row hF hH h1 hx⟩) (get_iff.2 ⟨s, g1⟩) h3 hn h4
        by_cases hk : k < M
        · have := g6 hk; omega
        · obtain ⟨_, i, hi, hq⟩ := g7 hk
          have : i = j := by omega
          exact h2 (by rw [hi, this])
    szok := fun k s h hn => by
      obtain ⟨es, h⟩ := sz_iff.1 h
      obtain ⟨q, es0, g1, g2, _⟩ := hsrc k s es h
      rw [g2] at hn ⊢
      exact hI.szok q s (sz_iff.2 ⟨es0, g1⟩) hn
    protlt := fun b h => by
      rcases h with h | h
      · exact hI.protlt b h
      · exact hI.own_lt (hid' b h)
    protge := fun b h => by
      rcases h with h | h
      · exact hI.protge b h
      · exact hI.own_ge (hid' b h)
    size := hI.size
    glob := fun b h => ⟨(hI.glob b h).1, fun ho => (hI.glob b h).2 (own' b ho)⟩
    lps := fun l r h => by simp [Ctx.foc, IH_lps, lk] at h
    dfs := hI.dfs
    dnd := hI.dnd
    rod := fun l h => by cases h
    spprot := fun b h hb => by
      rcases hb with hb | ⟨j, h1, _, h3, h4⟩
      · exact hI.spprot b (sp' b h) hb
      · have hx : fs[j]? = some (fs[j]'(by omega)) := List.getElem?_eq_getElem _
        obtain ⟨ob, hc, hcd⟩ := (hI.obj _ _ (get_iff.2 ⟨1, OH_row hF hH h1 hx⟩) h3).dat
        rw [h4] at hc
        exact hI.sp_neD (sp' b h) hc hcd
    pinB := hI.pinB
    pinlt := by
      show C.pin ≤ (IH F K M (C.vals K) fs n f).next
      rw [hI.pinB]; exact Nat.le_trans hF.pm IH_next
    gh := trivial }

def Ctx.unfoc (C C2 : Ctx) (H : Heap) (M M' : Nat) (f' : Option Nat) : Ctx :=
  { w := C2.w, H := H, pl := fun k => if k < M' then C2.pl k else if f' = some (k - M') then C2.pl M' else C.pl (M + (k - M')), prot := C.prot, dfs := C2.dfs, pin := C.pin }
theorem focus_out (hF : Frt F K M p) (hn : n ≤ fs.length) (hI : Inv (.pinned W p) C) (hH : C.H = OH F K M fs n) (hown : ∀ b, (C.foc (IH F K M (C.vals K) fs n f) M n f).own b → C.own b)
    (hfoc : ∀ k s es, lk (IH F K M (C.vals K) fs n f).objs k = some (s, es) → ¬ k < M → ∃ i, f = some i ∧ k = M)
    (hIi : Inv (.pinned W p) (C.foc (IH F K M (C.vals K) fs n f) M n f))
    (hv : ∀ j x, j < n → fs[j]? = some x → SliceAt (C.pl (M + j)) 0 x.Cycle.length (C.vals K j) ∧ (C.vals K j).oneCell' = true)
    {C2 : Ctx} {a' : Act} {fr' : List (Nat × AV)} {F' : List (Nat × (Nat × List AV))} {K' M' n' : Nat} {fs' : List Fa} {f' : Option Nat} (hM : Mem (C.foc (IH F K M (C.vals K) fs n f) M n f) C2)
    (hr : Rel (.pinned W p) N (lk fr') (IH F' K' M' (C.vals K) fs' n' f') C2 a') (hF' : Frt F' K' M' p) (hfr : UnderL M' fr') (hcase : (f' = f ∧ n' = n) ∨ (f = none ∧ f' = some n ∧ n' = n + 1)) (hn' : n' ≤ fs'.length)
    (hcyc : ∀ j x, j < n → f ≠ some j → fs'[j]? = some x → ∃ y, fs[j]? = some y ∧ x.Cycle = y.Cycle) (hf' : ∀ i, f' = some i → i < n') :
    ∃ Co, Co.w = C2.w ∧ Mem C Co ∧ Rel (.pinned W p) N (lk fr') (OH F' K' M' fs' n') Co a' := by
  have hI2 := hr.inv
  have hH2 := hr.heap
  have km := hF.km
  have km' := hF'.km
  have hhid : ∀ j, (j < n' ∧ f' ≠ some j) ↔ (j < n ∧ f ≠ some j) := fun j => by
    rcases hcase with ⟨rfl, rfl⟩ | ⟨rfl, rfl, rfl⟩
    · exact Iff.rfl
    · constructor
      · rintro ⟨h1, h2⟩; exact ⟨by have : n ≠ j := fun h => h2 (by rw [h]); omega, by simp⟩
      · rintro ⟨h1, _⟩; exact ⟨by omega, fun h => by cases h; omega⟩
  have hlt0 : ∀ j x, j < n → fs[j]? = some x → (C.pl (M + j)).nil = false → (C.pl (M + j)).blk < C.w.heap.size := fun j x hj hx hnil => hI.lt (get_iff.2 ⟨1, OH_row hF hH hj hx⟩) hnil
  have hkeep : ∀ j x, j < n → f ≠ some j → fs[j]? = some x → (C.pl (M + j)).nil = false → C2.w.heap[(C.pl (M + j)).blk]? = C.w.heap[(C.pl (M + j)).blk]? := fun j x hj hfj hx hnil => by
    refine hM.keep _ (hlt0 j x hj hx hnil) (fun ho => ?_)
    obtain ⟨ob, hc, hcd⟩ := (hI.obj _ _ (get_iff.2 ⟨1, OH_row hF hH hj hx⟩) hnil).dat
    rcases ho with ⟨k, es, h1, h2, h3⟩ | ho
    · exact hIi.prot k es h1 h2 (.inr ⟨j, hj, hfj, hnil, h3.symm⟩)
    · exact hIi.sp_neD ho hc hcd
  have hprot2 : ∀ j x, j < n → f ≠ some j → fs[j]? = some x → (C.pl (M + j)).nil = false → C2.prot (C.pl (M + j)).blk := fun j x hj hfj hx hnil => by
    rw [hM.prot]; exact .inr ⟨j, hj, hfj, hnil, rfl⟩
  generalize hCo : C.unfoc C2 (OH F' K' M' fs' n') M M' f' = Co
  have cH : Co.H = OH F' K' M' fs' n' := by rw [← hCo]; rfl
  have cw : Co.w = C2.w := by rw [← hCo]; rfl
  have cp : Co.prot = C.prot := by rw [← hCo]; rfl
  have cd : Co.dfs = C2.dfs := by rw [← hCo]; rfl
  have ci : Co.pin = C.pin := by rw [← hCo]; rfl
  have cl : ∀ k, k < M' → Co.pl k = C2.pl k := fun k hk => by rw [← hCo]; simp [Ctx.unfoc, hk]
  have cf : ∀ j, f' = some j → Co.pl (M' + j) = C2.pl M' := fun j hj => by
    have h1 : ¬ M' + j < M' := by omega
    rw [← hCo]; simp only [Ctx.unfoc, if_neg h1, Nat.add_sub_cancel_left, if_pos hj]
  have co : ∀ j, f' ≠ some j → Co.pl (M' + j) = C.pl (M + j) := fun j hj => by
    have h1 : ¬ M' + j < M' := by omega
    rw [← hCo]; simp only [Ctx.unfoc, if_neg h1, Nat.add_sub_cancel_left, if_neg hj]
  have hsrc : ∀ k s es, lk Co.H.objs k = some (s, es) → (∃ q es0, lk C2.H.objs q = some (s, es0) ∧ Co.pl k = C2.pl q ∧ es.length = es0.length ∧ (k ≠ K' → es = es0) ∧ (k = K' → q = K') ∧ (k < M' → q = k) ∧ (¬ k < M' → ∃ i, f' = some i ∧ k = M' + i ∧ q = M')) ∨
      ∃ j y, k = M' + j ∧ j < n ∧ f ≠ some j ∧ f' ≠ some j ∧ fs[j]? = some y ∧ s = 1 ∧ es = y.Cycle.map i64 ∧ Co.pl k = C.pl (M + j) := fun k s es h => by
    rcases OH_lk hF' cH h with ⟨rfl, rfl, rfl⟩ | ⟨h1, h2, h3⟩ | ⟨j, x, rfl, h2, h3, rfl, rfl⟩
    · exact .inl ⟨k, _, IH_K hF' hH2, cl k km', by rw [cellsF_len, cellsF_len], fun h => absurd rfl h, fun _ => rfl, fun _ => rfl, fun h => absurd km' h⟩
    · exact .inl ⟨k, es, IH_F hF' hH2 h3, cl k h2, rfl, fun _ => rfl, fun h => absurd h h1, fun _ => rfl, fun h => absurd h2 h⟩
    · by_cases hj : f' = some j
      · refine .inl ⟨M', x.Cycle.map i64, ?_, cf j hj, rfl, fun _ => rfl, fun h => by omega, fun h => by omega, fun _ => ⟨j, hj, rfl, rfl⟩⟩
        subst hj
        rw [IH_row hF' hH2, h3]; rfl
      · obtain ⟨g1, g2⟩ := (hhid j).1 ⟨h2, hj⟩
        obtain ⟨y, g3, g4⟩ := hcyc j x g1 g2 h3
        exact .inr ⟨j, y, rfl, g1, g2, hj, g3, rfl, by rw [g4], co j hj⟩
  have sp' : ∀ b, Co.sp b → C2.sp b := fun b h => by
    rcases h with ⟨r, h⟩ | h
    · rw [cH] at h; simp [OH, lk] at h
    · rw [cd] at h; exact .inr h
  have own' : ∀ b, Co.own b → C2.own b ∨ ∃ j x, j < n ∧ f ≠ some j ∧ fs[j]? = some x ∧ (C.pl (M + j)).nil = false ∧ (C.pl (M + j)).blk = b := fun b h => by
    rcases h with ⟨k, es, h1, h2, h3⟩ | h
    · obtain ⟨s, h1⟩ := get_iff.1 h1
      rcases hsrc k s es h1 with ⟨q, es0, g1, g2, _⟩ | ⟨j, y, _, g1, g2, _, g3, _, _, g4⟩
      · rw [g2] at h2 h3
        exact .inl (.inl ⟨q, es0, get_iff.2 ⟨s, g1⟩, h2, h3⟩)
      · rw [g4] at h2 h3
        exact .inr ⟨j, y, g1, g2, g3, h2, h3⟩
    · exact .inl (.inr (sp' b h))
  have bad' : ∀ b, Co.bad b → C2.bad b := fun b h => by
    rcases h with h | h
    · rcases own' b h with h | ⟨j, x, h1, h2, h3, h4, rfl⟩
      · exact .inl h
      · exact .inr (hprot2 j x h1 h2 h3 h4)
    · rw [cp] at h
      exact .inr (by rw [hM.prot]; exact .inl h)
  have tr : ∀ {x : AV} {v : Value}, Rep C2 x v → Under M' x → Rep Co x v := fun hx hu =>
    Rep.tr (C := C2) (D := Co) (p := M') (by rw [cw]; exact Nat.le_refl _) (fun b _ hb => ⟨by rw [cw], fun h => hb (bad' b h)⟩) (fun k hk => ⟨by rw [cH]; exact Nat.lt_of_lt_of_le hk (Nat.le_add_right _ _), fun es' he => by
      obtain ⟨s, he⟩ := get_iff.1 he
      rcases hsrc k s es' he with ⟨q, es0, g1, g2, _, _, _, g3, _⟩ | ⟨j, _, g, _⟩
      · have := g3 hk; subst this
        exact ⟨⟨es0, get_iff.2 ⟨s, g1⟩⟩, g2⟩
      · omega⟩) hx hu
  have ownC : ∀ b, b < C.w.heap.size → Co.own b → C.own b := fun b hb h => by
    rcases own' b h with h | ⟨j, x, h1, h2, h3, h4, rfl⟩
    · exact hown b (hM.own b hb h)
    · exact .inl ⟨M + j, _, get_iff.2 ⟨1, OH_row hF hH h1 h3⟩, h4, rfl⟩
  refine ⟨Co, cw, ⟨by rw [cw]; exact hM.below, fun b hb ho => ?_, ownC, cp, ci, fun _ => ⟨?_, fun k es' hk he => ?_⟩⟩, cH, ?_, hr.size, by rw [cd]; exact hr.defers, fun t x hx => tr (hr.rep t x hx) (UnderL.spec hfr t x hx)⟩
  · rw [cw]
    exact hM.keep b hb (fun h => ho (hown b h))
  · rw [ci, cH, hI.pinB]; exact Nat.le_trans hF'.pm (Nat.le_add_right _ _)
  · rw [hI.pinB] at hk
    have hk' : k < M := Nat.lt_of_lt_of_le hk hF.pm
    have hk2 : k < M' := Nat.lt_of_lt_of_le hk hF'.pm
    obtain ⟨s, he⟩ := get_iff.1 he
    rcases hsrc k s es' he with ⟨q, es0, g1, g2, _, _, _, g3, _⟩ | ⟨j, _, g, _⟩
    · have := g3 hk2; subst this
      obtain ⟨h1, h2⟩ := (hM.pins (by show C.pin ≤ (IH F K M (C.vals K) fs n f).next; rw [hI.pinB]; exact Nat.le_trans hF.pm IH_next)).2 q es0 (by show q < C.pin; rw [hI.pinB]; exact hk) (get_iff.2 ⟨s, g1⟩)
      obtain ⟨es1, h1⟩ := h1
      obtain ⟨s1, h1⟩ := get_iff.1 h1
      refine ⟨?_, by rw [g2, h2]; simp [Ctx.foc, hk']⟩
      rcases IH_lk hF rfl h1 with ⟨rfl, _, _⟩ | ⟨_, _, h3⟩ | ⟨i, _, h2, _⟩
      · exact ⟨_, get_iff.2 ⟨7, OH_K hF hH⟩⟩
      · exact ⟨_, get_iff.2 ⟨_, OH_F hF hH h3⟩⟩
      · omega
    · omega
  exact {
    fresh := fun k es h => by
      obtain ⟨s, h⟩ := get_iff.1 h
      rw [cH]
      show k < M' + n'
      rcases OH_lk hF' cH h with ⟨rfl, _⟩ | ⟨_, h2, _⟩ | ⟨j, x, rfl, h2, _⟩ <;> omega
    nil := fun k es h hn => by
      obtain ⟨s, h⟩ := get_iff.1 h
      rcases hsrc k s es h with ⟨q, es0, g1, g2, g3, _⟩ | ⟨j, y, _, g1, g2, _, g3, _, rfl, g4⟩
      · rw [g2] at hn
        have := hI2.nil q es0 (get_iff.2 ⟨s, g1⟩) hn
        subst this
        exact List.eq_nil_of_length_eq_zero g3
      · rw [g4] at hn
        exact hI.nil _ _ (get_iff.2 ⟨1, OH_row hF hH g1 g3⟩) hn
    obj := fun k es h hn => by
      obtain ⟨s, h⟩ := get_iff.1 h
      rcases hsrc k s es h with ⟨q, es0, g1, g2, g3, g4, g5, g6, g7⟩ | ⟨j, y, _, g1, g2, _, g3, _, rfl, g4⟩
      · rw [g2] at hn ⊢
        have hO := hI2.obj q es0 (get_iff.2 ⟨s, g1⟩) hn
        have hc0 : ∀ b o, Co.w.cell? ⟨b, o, none⟩ = C2.w.cell? ⟨b, o, none⟩ := fun b o => by rw [cw]
        by_cases hk : k = K'
        · have := g5 hk; subst this; subst hk
          rcases OH_lk hF' cH h with ⟨_, rfl, rfl⟩ | ⟨h1, _⟩ | ⟨i, _, h2, _⟩
          rotate_left
          · exact absurd rfl h1
          · omega
          have he0 := IH_K hF' hH2
          rw [g1] at he0
          cases he0
          have hb2 := hO.blk_to (es' := cellsF (outC M' n') 0 fs') (fun l hl => by
            cases hfs : fs' with
            | nil => rw [hfs] at hl; simp [cellsF] at hl
            | cons y r => rw [hfs] at hl; simp [cellsF, mcell] at hl)
          refine ⟨hO.n.trans g3.symm, hO.cap, by rw [cw]; exact hb2, fun o v h => hO.one o v (by rw [← hc0]; exact h), fun i e he => ?_, fun i j e x v he hx hv' => ?_⟩
          · rw [cellsF_get] at he
            obtain ⟨y, hy, rfl⟩ := Option.map_eq_some_iff.1 he
            exact hO.flat i (mcell y (innC (C.vals K) M' n' f' (0 + i) y)) (by rw [cellsF_get, hy]; rfl)
          · rw [hc0] at hv'
            rw [cellsF_get] at he
            obtain ⟨y, hy, rfl⟩ := Option.map_eq_some_iff.1 he
            have hy0 : (cellsF (innC (C.vals K) M' n' f') 0 fs')[i]? = some (mcell y (innC (C.vals K) M' n' f' i y)) := by rw [cellsF_get, hy]; simp
            rw [Nat.zero_add] at hx
            by_cases hj : j = 6
            · subst hj
              have := mcell_six hx; subst this
              have hv0 := hO.cell i 6 _ _ v hy0 rfl hv'
              have hone := hO.one _ v hv'
              unfold innC at hv0
              unfold outC
              by_cases hin : i < n'
              · rw [if_pos hin]
                by_cases hfi : f' = some i
                · rw [if_pos hfi] at hv0
                  cases hv0 with
                  | view _ _ _ _ _ q1 q2 =>
                    refine .view _ _ _ _ (by rw [cH]; show M' + i < M' + n'; omega) (fun es' _ => ?_) q2
                    subst hfi
                    rw [cf i rfl]
                    exact q1 _ (get_iff.2 ⟨1, IH_row hF' hH2⟩)
                · rw [if_neg hfi, if_pos hin] at hv0
                  obtain ⟨a1, a2⟩ := (hhid i).1 ⟨hin, hfi⟩
                  obtain ⟨z, b1, b2⟩ := hcyc i y a1 a2 hy
                  obtain ⟨b3, b4⟩ := hv i z a1 b1
                  have : v = C.vals K i := by cases hv0; rfl
                  subst this
                  refine .view _ _ _ _ (by rw [cH]; show M' + i < M' + n'; omega) (fun es' _ => ?_) b4
                  rw [co i hfi, b2]; exact b3
              · rw [if_neg hin]
                have : f' ≠ some i := fun h => hin (hf' i h)
                rw [if_neg this, if_neg hin] at hv0
                exact tr hv0 (.noid (by simp))
            · obtain ⟨h1, h2⟩ := mcell_lt (c' := innC (C.vals K) M' n' f' i y) hj hx
              exact tr (hO.cell i j _ x v hy0 h1 hv') (.noid h2)
        · have := g4 hk; subst this
          refine ⟨hO.n, hO.cap, by rw [cw]; exact hO.blk, fun o v h => hO.one o v (by rw [← hc0]; exact h), hO.flat, fun i j e x v he hx hv' => tr (hO.cell i j e x v he hx (by rw [← hc0]; exact hv')) ?_⟩
          rcases OH_lk hF' cH h with ⟨h1, _⟩ | ⟨_, _, h3⟩ | ⟨_, y', _, _, _, _, h4⟩
          · exact absurd h1 hk
          · exact hF'.und _ (lk_mem h3) e (List.mem_of_getElem? he) x (List.mem_of_getElem? hx)
          · subst h4
            obtain ⟨y, _, rfl⟩ := List.mem_map.1 (List.mem_of_getElem? he)
            have : x = i64 y := by simpa [AV.flat] using (List.mem_of_getElem? hx)
            rw [this]; exact .imm _
      · rw [g4] at hn ⊢
        have hO := hI.obj _ _ (get_iff.2 ⟨1, OH_row hF hH g1 g3⟩) hn
        have hk := hkeep j y g1 g2 g3 hn
        have hc0 : ∀ o, Co.w.cell? ⟨(C.pl (M + j)).blk, o, none⟩ = C.w.cell? ⟨(C.pl (M + j)).blk, o, none⟩ := fun o => by
          rw [cw]; exact World.cell?_of_block (w := C.w) (a := ⟨(C.pl (M + j)).blk, o, none⟩) hk
        refine ⟨hO.n, hO.cap, by rw [cw, hk]; exact hO.blk, fun o v h => hO.one o v (by rw [← hc0]; exact h), hO.flat, fun i q e x v he hx hv' => ?_⟩
        have := hO.cell i q e x v he hx (by rw [← hc0]; exact hv')
        obtain ⟨y', _, rfl⟩ := List.mem_map.1 (List.mem_of_getElem? he)
        have hx' : x = i64 y' := by simpa [AV.flat] using (List.mem_of_getElem? hx)
        subst hx'
        cases this with
        | imm _ h => exact .imm _ h
    sep := fun k1 k2 e1 e2 h1 h2 n1 n2 hb => by
      obtain ⟨s1, h1⟩ := get_iff.1 h1
      obtain ⟨s2, h2⟩ := get_iff.1 h2
      rcases hsrc k1 s1 e1 h1 with ⟨q1, es1, a1, a2, _, _, _, a6, a7⟩ | ⟨j1, y1, a0, a1, a2, _, a3, _, _, a4⟩ <;> rcases hsrc k2 s2 e2 h2 with ⟨q2, es2, b1, b2, _, _, _, b6, b7⟩ | ⟨j2, y2, b0, b1, b2, _, b3, _, _, b4⟩
      · rw [a2] at n1 hb; rw [b2] at n2 hb
        have := hI2.sep q1 q2 es1 es2 (get_iff.2 ⟨s1, a1⟩) (get_iff.2 ⟨s2, b1⟩) n1 n2 hb
        by_cases hk1 : k1 < M' <;> by_cases hk2 : k2 < M'
        · have := a6 hk1; have := b6 hk2; omega
        · have := a6 hk1; obtain ⟨i, _, _, _⟩ := b7 hk2; omega
        · have := b6 hk2; obtain ⟨i, _, _, _⟩ := a7 hk1; omega
        · obtain ⟨i1, c1, c2, _⟩ := a7 hk1
          obtain ⟨i2, d1, d2, _⟩ := b7 hk2
          rw [c1] at d1; cases d1; omega
      · rw [a2] at n1 hb; rw [b4] at n2 hb
        have := hprot2 j2 y2 b1 b2 b3 n2
        rw [← hb] at this
        exact absurd this (hI2.prot q1 es1 (get_iff.2 ⟨s1, a1⟩) n1)
      · rw [a4] at n1 hb; rw [b2] at n2 hb
        have := hprot2 j1 y1 a1 a2 a3 n1
        rw [hb] at this
        exact absurd this (hI2.prot q2 es2 (get_iff.2 ⟨s2, b1⟩) n2)
      · rw [a4] at n1 hb; rw [b4] at n2 hb
        have := hI.sep _ _ _ _ (get_iff.2 ⟨1, OH_row hF hH a1 a3⟩) (get_iff.2 ⟨1, OH_row hF hH b1 b3⟩) n1 n2 hb
        omega
    prot := fun k es h hn hb => by
      obtain ⟨s, h⟩ := get_iff.1 h
      rw [cp] at hb
      rcases hsrc k s es h with ⟨q, es0, g1, g2, _⟩ | ⟨j, y, _, g1, g2, _, g3, _, _, g4⟩
      · rw [g2] at hn hb
        exact hI2.prot q es0 (get_iff.2 ⟨s, g1⟩) hn (by rw [hM.prot]; exact .inl hb)
      · rw [g4] at hn hb
        exact hI.prot _ _ (get_iff.2 ⟨1, OH_row hF hH g1 g3⟩) hn hb
    szok := fun k s h hn => by
      obtain ⟨es, h⟩ := sz_iff.1 h
      rcases hsrc k s es h with ⟨q, es0, g1, g2, _⟩ | ⟨j, y, _, g1, g2, _, g3, rfl, _, g4⟩
      · rw [g2] at hn ⊢
        exact hI2.szok q s (sz_iff.2 ⟨es0, g1⟩) hn
      · rw [g4] at hn ⊢
        exact hI.szok _ _ (sz_iff.2 ⟨_, OH_row hF hH g1 g3⟩) hn
    protlt := fun b h => by
      rw [cp] at h; rw [cw]
      exact Nat.lt_of_lt_of_le (hI.protlt b h) hM.below.size
    protge := fun b h => by rw [cp] at h; exact hI.protge b h
    size := by rw [cw]; exact hI2.size
    glob := fun b h => ⟨by rw [cw]; exact (hI2.glob b h).1, fun ho => (hI.glob b h).2 (ownC b (Nat.lt_of_lt_of_le h hI.size) ho)⟩
    lps := fun l r h => by rw [cH] at h; simp [OH, lk] at h
    dfs := fun d h => by rw [cd] at h; rw [cw]; exact hI2.dfs d h
    dnd := by rw [cd]; exact hI2.dnd
    rod := fun l h => by cases h
    spprot := fun b h hb => by
      rw [cp] at hb
      exact hI2.spprot b (sp' b h) (by rw [hM.prot]; exact .inl hb)
    pinB := by rw [ci]; exact hI.pinB
    pinlt := by rw [ci, cH, hI.pinB]; exact Nat.le_trans hF'.pm (Nat.le_add_right _ _)
    gh := trivial }
theorem awp_focus {P : Program} {c : Code} {fr : List (Nat × AV)} {Q : Exit → St → Prop} (F : List (Nat × (Nat × List AV))) (K M : Nat) (fs : List Fa) (n : Nat) (f : Option Nat) (hF : Frt F K M p) (hn : n ≤ fs.length) (hf : ∀ i, f = some i → i < n) (hfr : UnderL M fr)
    (h : ∀ vs : Nat → Value, AWP P (.pinned W p) N c ⟨fr, IH F K M vs fs n f⟩ (fun e st' => ∃ fr' F' K' M' n' fs' f', st' = ⟨fr', IH F' K' M' vs fs' n' f'⟩ ∧ Frt F' K' M' p ∧ UnderL M' fr' ∧ ((f' = f ∧ n' = n) ∨ (f = none ∧ f' = some n ∧ n' = n + 1)) ∧ n' ≤ fs'.length ∧
      (∀ j x, j < n → f ≠ some j → fs'[j]? = some x → ∃ y, fs[j]? = some y ∧ x.Cycle = y.Cycle) ∧ Q e ⟨fr', OH F' K' M' fs' n'⟩)) : AWP P (.pinned W p) N c ⟨fr, OH F K M fs n⟩ Q := fun C a hr => by
  obtain ⟨h1, h2, h3⟩ := focus_in hF hn hf hfr hr
  refine wpIn_mono (h (C.vals K) (C.foc (IH F K M (C.vals K) fs n f) M n f) a h1) fun e a' w' ⟨st', C2, g1, g2, g3, fr', F', K', M', n', fs', f', g4, g5, g6, g7, g8, g9, g10⟩ => ?_
  subst g4 g1
  obtain ⟨Co, q1, q2, q3⟩ := focus_out hF hn hr.inv hr.heap h2 (fun k s es hk hm => by
    rcases IH_lk (C := { C with H := IH F K M (C.vals K) fs n f }) hF rfl hk with ⟨rfl, _⟩ | ⟨_, h, _⟩ | ⟨i, h, h', _⟩
    · exact absurd hF.km hm
    · exact absurd h hm
    · exact ⟨i, h, h'⟩) h1.inv h3 g2 g3 g5 g6 g7 g8 g9 (fun i hi => by
      rcases g7 with ⟨rfl, rfl⟩ | ⟨_, h, rfl⟩
      · exact hf i hi
      · rw [h] at hi; cases hi; exact Nat.lt_succ_self _)
  exact ⟨_, Co, q1, q2, q3, g10⟩
end
end Go.Av
