/- make, append, copy. -/
import Derived.Test.YtcfogckbncfpnaaDoorAvMake
namespace Go.Av
open Go.RowKit (Below)

section
variable {P : Program} {W0 : World} {C : Ctx} {fr : Fr} {a : Act} {H : Heap} {o : Oper}

theorem madeCells_get (z : Array Value) (n k : Nat) (h : k < n) (hz : 0 < z.size) : (madeCells z n)[k]? = z[k % z.size]? := by
  have : k % z.size < z.size := Nat.mod_lt _ hz
  simp [madeCells, h, this]

theorem aop_makeSlice {t e : TypeId} {s by' : Nat} {x y : Operand} {kl kc : IntKind} {nl nc : Int} {m c : Nat} {z : Value} (ho : o.op = .makeSlice t x y) (hx : evalA fr x = some (.imm (.int kl nl))) (hy : evalA fr y = some (.imm (.int kc nc)))
    (hl : nl = m) (hc : nc = c) (hmc : m ≤ c) (ht : elT P t = some (e, s, by')) (hb : by' * c ≤ 140737488355328) (h62 : c ≤ 4611686018427387904) (hz : zrT P e = some z) (hk : z.okV = true) (hs : (AV.ofV z).flat.length = s) :
    AOp P W0 o fr H (.view H.next 0 m) (H.push s (List.replicate m (.ofV z))) :=
  .of_run fun C a hI hH hop => by
    subst hH hl hc
    obtain ⟨hu, i, hi, his, hib⟩ := elT_spec ht
    unfold zrT at hz
    rw [hi] at hz
    simp only [Option.bind_some] at hz
    have e1 := rep_toV (v := .int kl m) rfl (rep_eval (hop x (by simp [ho, Op.operands])) hx)
    have e2 := rep_toV (v := .int kc c) rfl (rep_eval (hop y (by simp [ho, Op.operands])) hy)
    have hbc : (i.bytes : Int) * (c : Int) ≤ 281474976710656 := by
      have h1 : ((by' * c : Nat) : Int) ≤ 140737488355328 := by omega
      rw [Int.natCast_mul] at h1
      rw [hib]; omega
    have hrun := run_make (P := P) C.w t e i z hu hi hz kl kc m c (by omega) (by omega) hbc (by omega)
    simp only [Int.toNat_natCast] at hrun
    obtain ⟨c1, c2, c3⟩ := rep_cells (rep_ofV (C := C) hk) (by cases z <;> rfl)
    rw [hs] at c1
    have hsize : (madeCells z.cells (c * i.size)).size = c * s := by rw [his]; exact size_madeCells _ _
    have key : ∀ k j, j < s → (k * s + j) % s = j := fun k j hj => by rw [Nat.mul_comm, Nat.mul_add_mod]; exact Nat.mod_eq_of_lt hj
    have hn := new_object hI (madeCells z.cells (c * i.size)) e (List.replicate m (.ofV z)) s c (by rw [hsize]; omega) (by simpa using hmc)
      (fun u hu => by
        obtain ⟨q, hq⟩ := Array.getElem?_of_mem hu
        have hlt := (Array.getElem?_eq_some_iff.1 hq).1
        have hs0 : 0 < s := by
          rcases Nat.eq_zero_or_pos s with h | h
          · subst h; omega
          · exact h
        rw [madeCells_get _ _ _ (by rw [hsize] at hlt; rw [his]; exact hlt) (by omega)] at hq
        exact c2 _ u hq)
      (fun k e' he => by
        have := List.mem_of_getElem? he
        rw [List.eq_of_mem_replicate this]; exact hs)
      (fun k j e' x' v he hx' hv => by
        have he' := List.eq_of_mem_replicate (List.mem_of_getElem? he)
        subst he'
        have hj : j < s := by rw [← hs]; exact (List.getElem?_eq_some_iff.1 hx').1
        have hkm : k < m := by have := (List.getElem?_eq_some_iff.1 he).1; simpa using this
        have hlt : k * s + j < c * s := by
          have : (k + 1) * s ≤ c * s := Nat.mul_le_mul_right _ (by omega)
          rw [Nat.add_mul, Nat.one_mul] at this; omega
        rw [madeCells_get _ _ _ (by rw [his]; exact hlt) (by omega), c1, key k j hj] at hv
        obtain ⟨u, g1, g2⟩ := c3 j x' hx'
        rw [g1] at hv; cases hv; exact g2)
    refine ⟨.slice (some ⟨C.w.heap.size, 0, none⟩) m c, _, ?_, hn.1, hn.2, rfl, ?_⟩
    · simp only [execOp, ho, e1, e2]
      rw [Sem.run_bind, hrun]
      rfl
    · refine .view _ 0 m _ (Nat.lt_succ_self _) (fun es he => ?_) rfl
      have hp : ((C.inW (C.w.alloc (.cells (madeCells z.cells (c * i.size)) e (0, 0)))).push ⟨C.w.heap.size, s, (List.replicate m (AV.ofV z)).length, c, false⟩ (List.replicate m (AV.ofV z))).pl C.H.next = ⟨C.w.heap.size, s, (List.replicate m (AV.ofV z)).length, c, false⟩ := Ctx.pl_push_new (C := C.inW _) _ _
      rw [hp]
      unfold SliceAt
      rw [if_neg (by simp)]
      exact ⟨_, c, rfl, by simp, by simp, hmc, .inr (by simp)⟩

theorem rep_view_push {p : Place} {es : List AV} {off len : Nat} {v : Value} (hp : SliceAt p off len v) (h1 : v.oneCell' = true) : Rep (C.push p es) (.view C.H.next off len) v := by
  refine .view _ off len v (Nat.lt_succ_self _) (fun es' _ => ?_) h1
  rw [Ctx.pl_push_new]
  exact hp

theorem sliceAt_some {p : Place} {off len cap : Nat} {A : Addr} (hn : p.nil = false) (h1 : off + len ≤ p.n) (h2 : off + cap ≤ p.cap) (h3 : len ≤ cap) (h4 : cap = 0 ∨ A = ⟨p.blk, off * p.sz, none⟩) : SliceAt p off len (.slice (some A) len cap) := by
  unfold SliceAt
  rw [if_neg (by simp [hn])]
  exact ⟨A, cap, rfl, h1, h2, h3, h4⟩

/-! ### append -/

theorem flatMap_get {s : Nat} : ∀ (es : List AV), (∀ e ∈ es, e.flat.length = s) → ∀ (i j : Nat) (e : AV), es[i]? = some e → j < s → (es.flatMap AV.flat)[i * s + j]? = e.flat[j]?
  | [], _, i, j, e, h, _ => by simp at h
  | x :: es, hf, i, j, e, h, hj => by
    have hx := hf x (by simp)
    simp only [List.flatMap_cons]
    cases i with
    | zero =>
      simp at h; subst h
      rw [Nat.zero_mul, Nat.zero_add, List.getElem?_append_left (by omega)]
    | succ i =>
      have hi : es[i]? = some e := by simpa using h
      rw [Nat.add_mul, Nat.one_mul, List.getElem?_append_right (by omega), show i * s + s + j - x.flat.length = i * s + j by omega]
      exact flatMap_get es (fun y hy => hf y (by simp [hy])) i j e hi hj

theorem flatMap_len {s : Nat} : ∀ (es : List AV), (∀ e ∈ es, e.flat.length = s) → (es.flatMap AV.flat).length = es.length * s
  | [], _ => by simp
  | x :: es, hf => by
    rw [List.flatMap_cons, List.length_append, hf x (by simp), flatMap_len es (fun y hy => hf y (by simp [hy])), List.length_cons, Nat.add_mul, Nat.one_mul, Nat.add_comm]

theorem flatMap_of {s : Nat} : ∀ (es : List AV), (∀ e ∈ es, e.flat.length = s) → ∀ (k : Nat) (x : AV), (es.flatMap AV.flat)[k]? = some x → ∃ i j e, k = i * s + j ∧ es[i]? = some e ∧ e.flat[j]? = some x
  | [], _, k, x, h => by simp at h
  | y :: es, hf, k, x, h => by
    have hy := hf y (by simp)
    rw [List.flatMap_cons] at h
    by_cases hk : k < s
    · rw [List.getElem?_append_left (by omega)] at h
      exact ⟨0, k, y, by omega, rfl, h⟩
    · rw [List.getElem?_append_right (by omega), hy] at h
      obtain ⟨i, j, e, h1, h2, h3⟩ := flatMap_of es (fun z hz => hf z (by simp [hz])) _ x h
      exact ⟨i + 1, j, e, by rw [Nat.add_mul, Nat.one_mul]; omega, by simpa using h2, h3⟩

/-- The cells of what is read, one behind the other. -/
theorem Reads.cells {es : List AV} {ad : Option Addr} {s : Nat} (h : Reads C es ad) (hne : es ≠ []) (hf : ∀ e ∈ es, e.flat.length = s) :
    ∃ b off, ad = some ⟨b, off, none⟩ ∧ ∃ vs : List Value, vs.length = es.length * s ∧ (∀ (k : Nat) (v : Value), vs[k]? = some v → C.w.cell? ((⟨b, off, none⟩ : Addr).add k) = some v ∧ v.oneCell' = true) ∧
      ∀ (i j : Nat) (e x : AV), es[i]? = some e → e.flat[j]? = some x → ∃ v, vs[i * s + j]? = some v ∧ Rep C x v := by
  rcases h with h | ⟨b, off, sz, h1, h2, h3, h4⟩
  · exact absurd h hne
  · have hsz : sz = s := by
      cases es with
      | nil => exact absurd rfl hne
      | cons e es => rw [← h3 0 e rfl]; exact hf e (by simp)
    subst hsz
    have hc : CellsAt C b off (es.flatMap AV.flat) := fun k x hk => by
      obtain ⟨i, j, e, rfl, g1, g2⟩ := flatMap_of es hf k x hk
      have := h4 i j e x g1 g2
      rwa [Nat.add_assoc] at this
    obtain ⟨vs, l1, l2, l3⟩ := hc.choose
    refine ⟨b, off, h1, vs, by rw [l1, flatMap_len es hf], fun k v hk => by rw [addr_add]; exact ⟨(l2 k v hk).1, (l2 k v hk).2⟩, fun i j e x he hx => ?_⟩
    have hj : j < sz := by rw [← hf e (List.mem_of_getElem? he)]; exact (List.getElem?_eq_some_iff.1 hx).1
    exact l3 _ x (by rw [flatMap_get es hf i j e he hj]; exact hx)

theorem Reads.ext {C' : Ctx} {es : List AV} {ad : Option Addr} (h : Reads C es ad) (he : Ext C C') (hw : C'.w = C.w) : Reads C' es ad := by
  rcases h with h | ⟨b, off, sz, h1, h2, h3, h4⟩
  · exact .inl h
  · exact .inr ⟨b, off, sz, h1, by rw [hw]; exact h2, h3, fun i j e x g1 g2 => by
      obtain ⟨v, g3, g4⟩ := h4 i j e x g1 g2
      exact ⟨v, by rw [hw]; exact g3, g4.ext he⟩⟩

theorem append_get {vs us : List Value} {s n i j : Nat} (hl : vs.length = n * s) (hj : j < s) : (i < n → (vs ++ us)[i * s + j]? = vs[i * s + j]?) ∧ (n ≤ i → (vs ++ us)[i * s + j]? = us[(i - n) * s + j]?) := by
  refine ⟨fun h => ?_, fun h => ?_⟩
  · have : (i + 1) * s ≤ n * s := Nat.mul_le_mul_right _ h
    rw [Nat.add_mul, Nat.one_mul] at this
    exact List.getElem?_append_left (by omega)
  · have h1 : n * s ≤ i * s := Nat.mul_le_mul_right _ h
    rw [List.getElem?_append_right (by omega), hl, Nat.sub_mul]
    congr 1; omega

structure ElT (P : Program) (t e : TypeId) (s by' : Nat) (z : Value) : Prop where
  el : elT P t = some (e, s, by')
  zr : zrT P e = some z
  zs : z.cells.size = s
  z1 : z.cells.all (·.oneCell') = true
  pos : 0 < s
  bpos : 0 < by'

/-- What is made if there is no room: a new object. -/
theorem append_grow (hI : Inv W0 C) {t ty e : TypeId} {s by' : Nat} {z : Value} (hT : ElT P t e s by' z) {es ys : List AV} {ad bd : Option Addr} {cap capy : Nat} (hes : Reads C es ad) (hys : Reads C ys bd)
    (hfe : ∀ x ∈ es, x.flat.length = s) (hfy : ∀ x ∈ ys, x.flat.length = s) (hcap : es.length ≤ cap) (hno : cap < es.length + ys.length) (hnil : ad = none → cap = 0) (hsz : (es.length + ys.length) * by' ≤ 140737488355328) :
    ∃ v C', (Builtin.append_ #[t, t] ty #[.slice ad es.length cap, .slice bd ys.length capy]).run P C.w = .ok v C'.w ∧ Ext C C' ∧ Inv W0 C' ∧ C'.H = C.H.push s (es ++ ys) ∧ Rep C' (.view C.H.next 0 (es.length + ys.length)) v := by
  obtain ⟨hu, i, hi, his, hib⟩ := elT_spec hT.el
  have hzr := hT.zr
  unfold zrT at hzr
  rw [hi] at hzr
  simp only [Option.bind_some] at hzr
  have hny : ys ≠ [] := by rintro rfl; simp at hno; omega
  obtain ⟨b, off, rfl, vy, ly, cy, ry⟩ := hys.cells hny hfy
  have hD : Below C.w.heap.size C.w C.w.drew := below_drew _
  have I1 := hI.inW hD
  have E1 : Ext C (C.inW C.w.drew) := ext_of_block hD
  -- what the new block holds
  have fin : ∀ (ve : List Value) (cap' : Nat), ve.length = es.length * s → (∀ u ∈ ve, u.oneCell' = true) → (∀ (i j : Nat) (e x : AV), es[i]? = some e → e.flat[j]? = some x → ∃ v, ve[i * s + j]? = some v ∧ Rep C x v) → es.length + ys.length ≤ cap' →
      ∃ C', C'.w = C.w.drew.alloc (.cells (ve.toArray ++ vy.toArray ++ Builtin.zeroCells z.cells (cap' - (es.length + ys.length))) e) ∧ Ext C C' ∧ Inv W0 C' ∧ C'.H = C.H.push s (es ++ ys) ∧
        Rep C' (.view C.H.next 0 (es.length + ys.length)) (.slice (some ⟨C.w.heap.size, 0, none⟩) (es.length + ys.length) cap') := by
    intro ve cap' le oe re hcap'
    have hsize : (ve.toArray ++ vy.toArray ++ Builtin.zeroCells z.cells (cap' - (es.length + ys.length))).size = cap' * s := by
      simp only [Array.size_append, List.size_toArray, le, ly, size_zeroCells, hT.zs, Nat.sub_mul, Nat.add_mul]
      have : (es.length + ys.length) * s ≤ cap' * s := Nat.mul_le_mul_right _ hcap'
      rw [Nat.add_mul] at this
      omega
    have hfl : ∀ (k : Nat) (x : AV), (es ++ ys)[k]? = some x → x.flat.length = s := fun k x hk => by
      rcases List.mem_append.1 (List.mem_of_getElem? hk) with h | h
      · exact hfe x h
      · exact hfy x h
    have hn := new_object I1 (ve.toArray ++ vy.toArray ++ Builtin.zeroCells z.cells (cap' - (es.length + ys.length))) e (es ++ ys) s cap' (by rw [hsize]; omega) (by simpa using hcap')
      (fun u hu => by
        rcases Array.mem_append.1 hu with h | h
        · rcases Array.mem_append.1 h with h | h
          · exact oe u (by simpa using h)
          · obtain ⟨k, hk⟩ := List.getElem?_of_mem (show u ∈ vy by simpa using h)
            exact (cy k u hk).2
        · simp only [Builtin.zeroCells, Array.mem_map] at h
          obtain ⟨k, hk, rfl⟩ := h
          have h0 : 0 < z.cells.size := by rw [hT.zs]; exact hT.pos
          have hlt : k % z.cells.size < z.cells.size := Nat.mod_lt _ h0
          rw [getElem!_pos z.cells _ hlt]
          exact Array.all_eq_true'.1 hT.z1 _ (Array.getElem_mem hlt))
      hfl
      (fun k j x y v h1 h2 h3 => by
        have hj : j < s := by rw [← hfl k x h1]; exact (List.getElem?_eq_some_iff.1 h2).1
        have hk : k < es.length + ys.length := by have := (List.getElem?_eq_some_iff.1 h1).1; simpa using this
        have hpos : k * s + j < (ve.toArray ++ vy.toArray).size := by
          have : (k + 1) * s ≤ (es.length + ys.length) * s := Nat.mul_le_mul_right _ hk
          rw [Nat.add_mul, Nat.one_mul, Nat.add_mul] at this
          simp only [Array.size_append, List.size_toArray, le, ly]; omega
        rw [Array.getElem?_append_left hpos, List.append_toArray, List.getElem?_toArray] at h3
        obtain ⟨g1, g2⟩ := append_get (us := vy) (i := k) le hj
        by_cases hlt : k < es.length
        · rw [g1 hlt] at h3
          rw [List.getElem?_append_left hlt] at h1
          obtain ⟨u, q1, q2⟩ := re k j x y h1 h2
          rw [q1] at h3; cases h3; exact q2.ext E1
        · rw [g2 (by omega)] at h3
          rw [List.getElem?_append_right (by omega)] at h1
          obtain ⟨u, q1, q2⟩ := ry _ j x y h1 h2
          rw [q1] at h3; cases h3; exact q2.ext E1)
    refine ⟨_, rfl, E1.trans hn.1, hn.2, rfl, rep_view_push (C := (C.inW C.w.drew).inW _) (sliceAt_some rfl (by simp) (by simp) hcap' (.inr ?_)) rfl⟩
    rw [Nat.zero_mul]; rfl
  have h63 : ((es.length + ys.length : Nat) : Int) ≤ 9223372036854775807 := by
    have : (es.length + ys.length) * 1 ≤ (es.length + ys.length) * by' := Nat.mul_le_mul_left _ hT.bpos
    omega
  have hfit := growslice_fits (old := cap) hno hsz
  rw [← hib] at hfit
  cases ad with
  | none =>
    have hc0 := hnil rfl
    subst hc0
    have he0 : es = [] := List.eq_nil_of_length_eq_zero (by omega)
    subst he0
    simp only [List.length_nil, Nat.zero_add] at *
    have hr := run_append_nil (P := P) C.w t ty e i z hu hi hzr ⟨b, off, none⟩ ys.length capy vy (by rw [ly, his]) (fun j v hj => (cy j v hj).1) (by omega) (by omega) (by rw [hib]; omega)
    obtain ⟨C', w1, w2, w3, w4, w5⟩ := fin [] (grownCap C.w ys.length 0 e) (by simp) (by simp) (fun i j e x h => by rw [List.getElem?_nil] at h; cases h) (grownCap_ge _ _ _ _)
    exact ⟨_, C', by rw [hr, w1, show ([] : List Value).toArray ++ vy.toArray = vy.toArray by simp], w2, w3, w4, w5⟩
  | some A =>
    by_cases he0 : es = []
    · subst he0
      simp only [List.length_nil, Nat.zero_add] at *
      have hr := run_append_grow (P := P) C.w t ty e i z hu hi hzr A 0 cap [] (by simp) (fun j v h => by simp at h) ⟨b, off, none⟩ ys.length capy vy (by rw [ly, his]) (fun j v hj => (cy j v hj).1) (by omega) (by simpa using h63) (by simpa using hfit)
      obtain ⟨C', w1, w2, w3, w4, w5⟩ := fin [] (grownCap C.w ys.length cap e) (by simp) (by simp) (fun i j e x h => by rw [List.getElem?_nil] at h; cases h) (grownCap_ge _ _ _ _)
      exact ⟨_, C', by rw [w1]; simpa using hr, w2, w3, w4, w5⟩
    · obtain ⟨b', off', hA, ve, le, ce, re⟩ := hes.cells he0 hfe
      cases hA
      have hr := run_append_grow (P := P) C.w t ty e i z hu hi hzr ⟨b', off', none⟩ es.length cap ve (by rw [le, his]) (fun j v hj => (ce j v hj).1) ⟨b, off, none⟩ ys.length capy vy (by rw [ly, his]) (fun j v hj => (cy j v hj).1) (by omega) h63 hfit
      obtain ⟨C', w1, w2, w3, w4, w5⟩ := fin ve (grownCap C.w (es.length + ys.length) cap e) le (fun u hu => by obtain ⟨k, hk⟩ := List.getElem?_of_mem hu; exact (ce k u hk).2) re (grownCap_ge _ _ _ _)
      exact ⟨_, C', by rw [hr, w1], w2, w3, w4, w5⟩

/-- Nothing is appended: the slice as it is. -/
theorem run_append_zero {t ty e : TypeId} {s by' : Nat} (ht : elT P t = some (e, s, by')) (ad bd : Option Addr) (n cap capy : Nat) (h : n ≤ cap) (w : World) :
    (Builtin.append_ #[t, t] ty #[.slice ad n cap, .slice bd 0 capy]).run P w = .ok (.slice ad n cap) w := by
  obtain ⟨hu, i, hi, his, _⟩ := elT_spec ht
  cases bd <;> cases ad <;> simp [Builtin.append_, run_underlying hu, sizeOf, typeInfo, hi, Builtin.lenOf, h, Builtin.firstCells, loadCells, loadCellsFrom, storeCells]

theorem aop_append_of {t ty : TypeId} {x y : Operand} {r : AV} {H' : Heap} (ho : o.op = .call { callee := .builtin .append, args := #[x, y], argTypes := #[t, t] }) (hty : o.type = ty) {ax ay : AV} (hx : evalA fr x = some ax) (hy : evalA fr y = some ay) {ys : List AV} (hys : ay.elems H = some ys)
    (key : ∀ (C : Ctx) (u : Value) (bd : Option Addr) (capy : Nat), Inv W0 C → C.H = H → Rep C ax u → Reads C ys bd → ys.length ≤ capy →
      ∃ v C', (Builtin.append_ #[t, t] ty #[u, .slice bd ys.length capy]).run P C.w = .ok v C'.w ∧ Ext C C' ∧ Inv W0 C' ∧ C'.H = H' ∧ Rep C' r v) : AOp P W0 o fr H r H' :=
  .of_run fun C a hI hH hop => by
    subst hH
    have hrx := rep_eval (hop x (by simp [ho, Op.operands, Call.operands])) hx
    obtain ⟨bd, capy, e1, e2, e3⟩ := rep_elems hI (rep_eval (hop y (by simp [ho, Op.operands, Call.operands])) hy) hys
    obtain ⟨v, C', h1, h2, h3, h4, h5⟩ := key C (a.eval x) bd capy hI rfl hrx e3 e2
    refine ⟨v, C', ?_, h2, h3, h4, h5⟩
    obtain ⟨cs, hb⟩ := run_builtin (P := P) ho a
    rw [hb]
    simp [builtin, e1, hty, h1]

theorem rep_nil_view (hI : Inv W0 C) (sz : Nat) (ad : Option Addr) : ∃ C', C'.w = C.w ∧ Ext C C' ∧ Inv W0 C' ∧ C'.H = C.H.push sz [] ∧ Rep C' (.view C.H.next 0 0) (.slice ad 0 0) := by
  obtain ⟨h1, h2⟩ := nil_object hI sz
  refine ⟨C.push ⟨0, sz, 0, 0, true⟩ [], rfl, h1, h2, rfl, rep_view_push (by unfold SliceAt; rw [if_pos rfl]; exact ⟨rfl, rfl, ad, rfl⟩) rfl⟩

/-- append to nil. -/
theorem aop_append_nil {t ty e : TypeId} {s by' : Nat} {z : Value} {x y : Operand} (hT : ElT P t e s by' z) (ho : o.op = .call { callee := .builtin .append, args := #[x, y], argTypes := #[t, t] }) (hty : o.type = ty) {ax ay : AV} (hx : evalA fr x = some ax) (hax : ax = .imm (.slice none 0 0) ∨ ax = .clip []) (hy : evalA fr y = some ay) {ys : List AV} (hys : ay.elems H = some ys)
    (hfy : ∀ x ∈ ys, x.flat.length = s) (hsz : ys.length * by' ≤ 140737488355328) : AOp P W0 o fr H (.view H.next 0 ys.length) (H.push s ys) :=
  aop_append_of ho hty hx hy hys fun C u bd capy hI hH hr hrd hcy => by
    have hu : ∃ ad, u = .slice ad 0 0 := by
      rcases hax with rfl | rfl
      · exact ⟨none, rep_toV rfl hr⟩
      · cases hr
        case clipNil ad => exact ⟨ad, rfl⟩
        case clip => exact ⟨_, rfl⟩
    obtain ⟨ad, rfl⟩ := hu
    by_cases h0 : ys = []
    · subst h0
      obtain ⟨C', h1, h2, h3, h4, h5⟩ := rep_nil_view hI s ad
      exact ⟨.slice ad 0 0, C', by rw [h1]; exact run_append_zero hT.el ad bd 0 0 capy (Nat.le_refl _) C.w, h2, h3, by rw [h4, hH], by rw [← hH]; exact h5⟩
    · have hpos : 0 < ys.length := List.length_pos_iff.2 h0
      obtain ⟨v, C', h1, h2, h3, h4, h5⟩ := append_grow (P := P) (ty := ty) hI hT (es := []) (ad := ad) (cap := 0) (capy := capy) (.inl rfl) hrd (by simp) hfy (by simp) (by simpa using hpos) (fun _ => rfl) (by simpa using hsz)
      simp only [List.length_nil, Nat.zero_add, List.nil_append] at h1 h4 h5
      exact ⟨v, C', h1, h2, h3, by rw [h4, hH], by rw [← hH]; exact h5⟩

/-- append of something to a slice without room behind it. -/
theorem aop_append_clip {t ty e : TypeId} {s by' : Nat} {z : Value} {x y : Operand} (hT : ElT P t e s by' z) (ho : o.op = .call { callee := .builtin .append, args := #[x, y], argTypes := #[t, t] }) (hty : o.type = ty) {ay : AV} {es : List AV} (hx : evalA fr x = some (.clip es)) (hy : evalA fr y = some ay) {ys : List AV} (hys : ay.elems H = some ys)
    (hne : ys ≠ []) (hfe : ∀ x ∈ es, x.flat.length = s) (hfy : ∀ x ∈ ys, x.flat.length = s) (hsz : (es.length + ys.length) * by' ≤ 140737488355328) : AOp P W0 o fr H (.view H.next 0 (es.length + ys.length)) (H.push s (es ++ ys)) :=
  aop_append_of ho hty hx hy hys fun C u bd capy hI hH hr hrd hcy => by
    subst hH
    have hpos : 0 < ys.length := List.length_pos_iff.2 hne
    have hu : ∃ ad, u = .slice ad es.length es.length := by
      cases hr
      case clipNil ad => exact ⟨ad, rfl⟩
      case clip => exact ⟨_, rfl⟩
    obtain ⟨ad', cap', h1, h2, h3⟩ := rep_elems hI hr (es := es) rfl
    obtain ⟨ad, rfl⟩ := hu
    cases h1
    exact append_grow (P := P) (ty := ty) hI hT h3 hrd hfe hfy (Nat.le_refl _) (by omega) (fun hn => by
      subst hn
      cases hr
      rfl) hsz

/-- What is done if there is room. -/
theorem append_room (hI : Inv W0 C) {t ty e : TypeId} {s by' : Nat} {z : Value} (hT : ElT P t e s by' z) {id : Nat} {es ys : List AV} (hid : C.H.get id = some es) (hs : C.H.sz id = some s) (hnil' : (C.pl id).nil = false) {A : Addr} {bd : Option Addr} {cap capy : Nat} (hrd : Reads C ys bd)
    (hfe : ∀ x ∈ es, x.flat.length = s) (hfy : ∀ x ∈ ys, x.flat.length = s) (g2 : 0 + cap ≤ (C.pl id).cap) (g4 : cap = 0 ∨ A = ⟨(C.pl id).blk, 0 * (C.pl id).sz, none⟩) (hroom : es.length + ys.length ≤ cap) :
    ∃ v C', (Builtin.append_ #[t, t] ty #[.slice (some A) es.length cap, .slice bd ys.length capy]).run P C.w = .ok v C'.w ∧ Ext C C' ∧ Inv W0 C' ∧ C'.H = (C.H.del id).push s (es ++ ys) ∧ Rep C' (.view C.H.next 0 (es.length + ys.length)) v := by
  have hO := hI.obj id es hid hnil'
  obtain ⟨arr, el, harr, hcap⟩ := hO.blk
  have hszp : (C.pl id).sz = s := hI.szok id s hs hnil'
  rw [hszp] at hcap
  have hcap0 : cap ≠ 0 ∨ ys = [] := by
    rcases Nat.eq_zero_or_pos cap with h | h
    · right; exact List.eq_nil_of_length_eq_zero (by omega)
    · left; omega
  obtain ⟨hu, ti, hi, his, _⟩ := elT_spec hT.el
  -- the new cells
  have hnews : ∃ vy : List Value, vy.length = ys.length * s ∧ (∀ v ∈ vy, v.oneCell' = true) ∧ (∀ (i j : Nat) (e x : AV), ys[i]? = some e → e.flat[j]? = some x → ∃ v, vy[i * s + j]? = some v ∧ Rep C x v) ∧
      (Builtin.append_ #[t, t] ty #[.slice (some A) es.length cap, .slice bd ys.length capy]).run P C.w =
        .ok (.slice (some A) (es.length + ys.length) cap) (C.w.setRow (C.pl id).blk (arr.toList.take (es.length * s) ++ vy ++ arr.toList.drop (es.length * s + vy.length)).toArray) := by
    by_cases h0 : ys = []
    · subst h0
      refine ⟨[], by simp, by simp, fun i j e x h => by simp at h, ?_⟩
      have := run_append_zero (P := P) (ty := ty) hT.el (some A) bd es.length cap capy (by simpa using hroom) C.w
      simp only [List.length_nil, Nat.add_zero, List.append_nil, List.take_append_drop, Array.toArray_toList]
      rw [setRow_self C.w _ arr el (0, 0) harr]
      exact this
    · obtain ⟨b, off, rfl, vy, ly, cy, ry⟩ := hrd.cells h0 hfy
      have hA : A = ⟨(C.pl id).blk, 0, none⟩ := by
        rcases g4 with g4 | g4
        · rcases hcap0 with h | h
          · exact absurd g4 h
          · exact absurd h h0
        · rw [g4, Nat.zero_mul]
      subst hA
      refine ⟨vy, ly, fun v hv => by obtain ⟨k, hk⟩ := List.getElem?_of_mem hv; exact (cy k v hk).2, ry, ?_⟩
      have hf := run_firstCells_some (P := P) C.w ti.size ys.length ⟨b, off, none⟩ ys.length capy vy (by rw [ly, his]) (fun j v hj => (cy j v hj).1)
      have hfit : es.length * s + vy.length ≤ arr.size := by
        rw [ly, ← Nat.add_mul]
        exact Nat.le_trans (Nat.mul_le_mul_right _ (by omega)) hcap
      have hst := run_storeCells_at P (C.pl id).blk (es.length * s) el vy 0 arr C.w harr (by simpa using hfit) (fun v hv => by obtain ⟨k, hk⟩ := List.getElem?_of_mem hv; exact (cy k v hk).2)
      simp only [Nat.add_zero] at hst
      simp only [his] at hf
      simp [Builtin.append_, run_underlying hu, sizeOf, typeInfo, hi, his, Builtin.lenOf, hroom, hf, addr_add, hst]
  obtain ⟨vy, ly, oy, ry, hrun⟩ := hnews
  have hfit : es.length * s + vy.length ≤ arr.size := by
    rw [ly, ← Nat.add_mul]
    exact Nat.le_trans (Nat.mul_le_mul_right _ (by omega)) hcap
  have hget := fun q => splice_get arr.toList vy (es.length * s) (by simpa using hfit) q
  have hlen' : (arr.toList.take (es.length * s) ++ vy ++ arr.toList.drop (es.length * s + vy.length)).length = arr.size := by simp; omega
  generalize (arr.toList.take (es.length * s) ++ vy ++ arr.toList.drop (es.length * s + vy.length)) = arr' at hget hrun hlen'
  -- first the cells are written: the object stays as it is
  have hw := write_object hI hid hnil' harr arr'.toArray (by simpa using hlen') es rfl
    (fun u hu => by
      obtain ⟨q, hq⟩ := Array.getElem?_of_mem hu
      rw [List.getElem?_toArray, hget q] at hq
      have old : arr.toList[q]? = some u → u.oneCell' = true := fun h => hO.one q u (by rw [cell_cells harr]; simpa using h)
      split at hq
      · exact old hq
      · split at hq
        · exact oy u (List.mem_of_getElem? hq)
        · exact old hq)
    hO.flat
    (fun i j e' x' u h1 h2 h3 => by
      rw [List.getElem?_toArray, hget] at h3
      have hj : j < s := by rw [← hfe e' (List.mem_of_getElem? h1)]; exact (List.getElem?_eq_some_iff.1 h2).1
      have hi' : i < es.length := (List.getElem?_eq_some_iff.1 h1).1
      have : (i + 1) * s ≤ es.length * s := Nat.mul_le_mul_right _ hi'
      rw [Nat.add_mul, Nat.one_mul] at this
      rw [hszp, if_pos (by omega)] at h3
      exact hO.cell i j e' x' u h1 h2 (by rw [cell_cells harr, hszp]; simpa using h3))
  -- then it is given up, and laid anew
  refine ⟨_, (((C.write id (C.w.setRow (C.pl id).blk arr'.toArray) es).del id).push ⟨(C.pl id).blk, s, es.length + ys.length, (C.pl id).cap, false⟩ (es ++ ys)), hrun, ?_⟩
  generalize hC2 : C.write id (C.w.setRow (C.pl id).blk arr'.toArray) es = C2 at hw
  obtain ⟨E2, I2⟩ := hw
  have q1 : C2.H.get id = some es := by rw [← hC2]; simp [Ctx.write, Heap.get_set]
  have q2 : C2.pl = C.pl := by rw [← hC2]; rfl
  have q3 : C2.w.heap[(C.pl id).blk]? = some (.cells arr'.toArray el (0, 0)) := by
    rw [← hC2]; exact setRow_heap C.w (C.pl id).blk arr _ el (0, 0) harr
  have q4 : C2.H.next = C.H.next := by rw [← hC2]; rfl
  have E3 : Ext C2 ((C2.del id).push ⟨(C.pl id).blk, s, es.length + ys.length, (C.pl id).cap, false⟩ (es ++ ys)) := ext_push (C := C2.del id) (ext_del id) _ _ (fun _ => .inr ⟨id, es, q1, by rw [q2]; exact hnil', by rw [q2]⟩)
  have I3 : Inv W0 ((C2.del id).push ⟨(C.pl id).blk, s, es.length + ys.length, (C.pl id).cap, false⟩ (es ++ ys)) := by
    refine (I2.del id).push _ _ (fun h => by cases h) (fun _ => ⟨?_, ?_, ?_⟩) (fun k e' hk hn => ?_) (fun _ => ?_)
    · rintro ⟨k, e', h1, h2, h3⟩
      have h1' := h1
      simp only [Ctx.del, Heap.get_del] at h1'
      split at h1'
      · cases h1'
      · rename_i hne
        have h2' : (C2.pl k).nil = false := h2
        exact hne (I2.sep k id e' es h1' q1 h2' (by rw [q2]; exact hnil') (by rw [q2]; have h3' : (C2.pl k).blk = _ := h3; rw [q2] at h3'; exact h3'))
    · have := I2.prot id es q1 (by rw [q2]; exact hnil')
      rw [q2] at this; exact this
    · rcases Nat.lt_or_ge (C.pl id).blk W0.heap.size with h | h
      · exact absurd ⟨id, es, hid, hnil', rfl⟩ (hI.glob _ h).2
      · exact h
    · simp only [Ctx.del, Heap.get_del] at hk
      split at hk
      · cases hk
      · exact (I2.obj k e' hk hn).ext E3 rfl
    · refine ⟨by simp, by show es.length + ys.length ≤ (C.pl id).cap; omega, ⟨_, el, q3, by simpa [hlen'] using hcap⟩, fun q u hu => ?_, fun i e' he => ?_, fun i j e' x' u h1 h2 h3 => ?_⟩
      · have := (I2.obj id es q1 (by rw [q2]; exact hnil')).one q u
        rw [q2] at this
        exact this hu
      · rcases List.mem_append.1 (List.mem_of_getElem? he) with h | h
        · exact hfe _ h
        · exact hfy _ h
      · have hfl : e'.flat.length = s := by
          rcases List.mem_append.1 (List.mem_of_getElem? h1) with h | h
          · exact hfe _ h
          · exact hfy _ h
        have hj : j < s := by rw [← hfl]; exact (List.getElem?_eq_some_iff.1 h2).1
        have h3' : C2.w.cell? ⟨(C.pl id).blk, i * s + j, none⟩ = some u := h3
        rw [cell_cells q3, List.getElem?_toArray, hget] at h3'
        by_cases hlt : i < es.length
        · rw [List.getElem?_append_left hlt] at h1
          have hc := (I2.obj id es q1 (by rw [q2]; exact hnil')).cell i j e' x' u h1 h2
          rw [q2, hszp] at hc
          exact (hc h3).ext E3
        · rw [List.getElem?_append_right (by omega)] at h1
          obtain ⟨u', g5, g6⟩ := ry _ j e' x' h1 h2
          have hi2 : i - es.length < ys.length := (List.getElem?_eq_some_iff.1 h1).1
          have e1 : es.length * s ≤ i * s := Nat.mul_le_mul_right _ (by omega)
          have e2 : (i - es.length + 1) * s ≤ ys.length * s := Nat.mul_le_mul_right _ hi2
          rw [Nat.add_mul, Nat.one_mul, Nat.sub_mul] at e2
          rw [if_neg (by omega), if_pos (by rw [ly]; omega)] at h3'
          rw [Nat.sub_mul, show i * s - es.length * s + j = i * s + j - es.length * s by omega, h3'] at g5
          cases g5
          exact (g6.ext E2).ext E3
  have q5 : C2.w = C.w.setRow (C.pl id).blk arr'.toArray := by rw [← hC2]; rfl
  have q6 : (C2.H.del id) = C.H.del id := by rw [← hC2]; exact Heap.del_set _ _ _
  refine ⟨E2.trans E3, I3, ?_, ?_⟩
  · show (C2.H.del id).push s (es ++ ys) = _
    rw [q6]
  · have hn : C.H.next = (C2.del id).H.next := q4.symm
    rw [hn]
    refine rep_view_push (sliceAt_some rfl (by simp) (by simpa using g2) hroom ?_) rfl
    rcases g4 with g4 | g4
    · exact .inl g4
    · exact .inr (by rw [g4]; simp)

/-- append to a slice of the proof's own. -/
theorem aop_append_view {t ty e : TypeId} {s by' : Nat} {z : Value} {x y : Operand} (hT : ElT P t e s by' z) (ho : o.op = .call { callee := .builtin .append, args := #[x, y], argTypes := #[t, t] }) (hty : o.type = ty) {ay : AV} {id : Nat} {es : List AV} (hx : evalA fr x = some (.view id 0 es.length)) (hid : H.get id = some es) (hs : H.sz id = some s) (hy : evalA fr y = some ay) {ys : List AV} (hys : ay.elems H = some ys)
    (hfe : ∀ x ∈ es, x.flat.length = s) (hfy : ∀ x ∈ ys, x.flat.length = s) (hsz : (es.length + ys.length) * by' ≤ 140737488355328) : AOp P W0 o fr H (.view H.next 0 (es.length + ys.length)) ((H.del id).push s (es ++ ys)) :=
  aop_append_of ho hty hx hy hys fun C u bd capy hI hH hr hrd hcy => by
    subst hH
    obtain ⟨ad', cap', h1, h2, h3⟩ := rep_elems hI hr (es := es) (by simp [AV.elems, hid])
    have hE := ext_del (C := C) id
    have hI' := hI.del id
    cases hr
    case view =>
      rename_i hid' h4 h5
      have h6 := h5 es hid
      unfold SliceAt at h6
      split at h6
      · -- no memory yet
        rename_i hnil
        obtain ⟨_, hl, ad, rfl⟩ := h6
        have he0 : es = [] := List.eq_nil_of_length_eq_zero hl
        subst he0
        by_cases h0 : ys = []
        · subst h0
          obtain ⟨C', g1, g2, g3, g4, g5⟩ := rep_nil_view hI' s ad
          exact ⟨.slice ad 0 0, C', by rw [g1]; exact run_append_zero hT.el ad bd 0 0 capy (Nat.le_refl _) C.w, hE.trans g2, g3, g4, g5⟩
        · have hpos : 0 < ys.length := List.length_pos_iff.2 h0
          obtain ⟨v, C', g1, g2, g3, g4, g5⟩ := append_grow (P := P) (ty := ty) hI' hT (es := []) (ad := ad) (cap := 0) (capy := capy) (.inl rfl) (hrd.ext hE rfl) (by simp) hfy (by simp) (by simpa using hpos) (fun _ => rfl) (by simpa using hsz)
          exact ⟨v, C', g1, hE.trans g2, g3, g4, g5⟩
      · rename_i hnil
        have hnil' : (C.pl id).nil = false := by simpa using hnil
        obtain ⟨A, cap, hu6, g1, g2, g3, g4⟩ := h6
        subst hu6
        simp only [Value.slice.injEq, true_and] at h1
        obtain ⟨rfl, rfl⟩ := h1
        by_cases hroom : es.length + ys.length ≤ cap
        · exact append_room (P := P) (ty := ty) hI hT hid hs hnil' hrd hfe hfy g2 g4 hroom
        · -- no room
          obtain ⟨v, C', q1, q2, q3, q4, q5⟩ := append_grow (P := P) (ty := ty) hI' hT (ad := some A) (cap := cap) (capy := capy) (h3.ext hE rfl) (hrd.ext hE rfl) hfe hfy h2 (by omega) (fun h => by cases h) hsz
          exact ⟨v, C', q1, hE.trans q2, q3, q4, q5⟩

/-- copy into an object of the proof's own. -/
theorem aop_copy {t e ty' : TypeId} {s by' : Nat} {x y : Operand} {id off dlen : Nat} {es ys : List AV} {ay : AV} (ho : o.op = .call { callee := .builtin .copy, args := #[x, y], argTypes := #[t, ty'] }) (hx : evalA fr x = some (.view id off dlen)) (hid : H.get id = some es) (hs : H.sz id = some s) (hy : evalA fr y = some ay)
    (hys : ay.elems H = some ys) (ht : elT P t = some (e, s, by')) (hfy : ∀ x ∈ ys, x.flat.length = s) (hle : ys.length = dlen) :
    AOp P W0 o fr H (.imm (.int .i64 ys.length)) (H.set id (es.take off ++ ys ++ es.drop (off + ys.length))) :=
  .of_run fun C a hI hH hop => by
    subst hH
    have hrx := rep_eval (hop x (by simp [ho, Op.operands, Call.operands])) hx
    obtain ⟨bd, capy, e1, e2, hrd⟩ := rep_elems hI (rep_eval (hop y (by simp [ho, Op.operands, Call.operands])) hy) hys
    obtain ⟨hu, ti, hi, his, _⟩ := elT_spec ht
    obtain ⟨cs, hb⟩ := run_builtin (P := P) ho a
    generalize hux : a.eval x = ux at hrx
    cases hrx
    case view =>
      rename_i hid' h4 h5
      have h6 := h5 es hid
      unfold SliceAt at h6
      split at h6
      · rename_i hnil
        obtain ⟨rfl, hl, ad, rfl⟩ := h6
        have hy0 : ys = [] := List.eq_nil_of_length_eq_zero (by omega)
        have he0 := hI.nil id es hid hnil
        subst hy0 he0
        have hset : Ext C { C with H := C.H.set id [] } ∧ Inv W0 { C with H := C.H.set id [] } := by
          have hg : ∀ k e, (C.H.set id []).get k = some e → C.H.get k = some e := fun k e h => by
            rw [Heap.get_set] at h
            split at h
            · rename_i hk; subst hk; cases h; exact hid
            · exact h
          have ho' : ∀ b, Ctx.own { C with H := C.H.set id [] } b → C.own b := by
            rintro b ⟨k, e, h1, h2, h3⟩; exact ⟨k, e, hg k e h1, h2, h3⟩
          have hE : Ext C { C with H := C.H.set id [] } := ⟨.refl _ _, fun _ _ _ => rfl, fun b _ h => ho' b h, Nat.le_refl _, fun k e _ h => ⟨⟨e, hg k e h⟩, rfl⟩, rfl⟩
          exact ⟨hE, {
            fresh := fun k e h => hI.fresh k e (hg k e h)
            nil := fun k e h => hI.nil k e (hg k e h)
            obj := fun k e h hn => (hI.obj k e (hg k e h) hn).ext hE rfl
            sep := fun p q ep eq hp hq => hI.sep p q ep eq (hg _ _ hp) (hg _ _ hq)
            prot := fun k e h => hI.prot k e (hg k e h)
            szok := fun k s' h => hI.szok k s' (by rw [← Heap.sz_set C.H id [] [] hid k]; exact h)
            protlt := hI.protlt
            protge := hI.protge
            size := hI.size
            glob := fun b h => ⟨(hI.glob b h).1, fun hh => (hI.glob b h).2 (ho' b hh)⟩ }⟩
        refine ⟨.int .i64 0, { C with H := C.H.set id [] }, ?_, hset.1, hset.2, by simp, .imm _ rfl⟩
        rw [hb]
        cases bd <;> cases ad <;> simp [builtin, hux, e1, Builtin.copy_, run_underlying hu, Builtin.lenOf, sizeOf, typeInfo, hi, Builtin.firstCells, loadCells, loadCellsFrom, storeCells, goInt]
      · rename_i hnil
        have hnil' : (C.pl id).nil = false := by simpa using hnil
        obtain ⟨A, cap, rfl, g1, g2, g3, g4⟩ := h6
        have hO := hI.obj id es hid hnil'
        obtain ⟨arr, el, harr, hcap⟩ := hO.blk
        have hszp : (C.pl id).sz = s := hI.szok id s hs hnil'
        rw [hszp] at hcap
        have hn := hO.n
        have hnc := hO.cap
        have hnews : ∃ vy : List Value, vy.length = ys.length * s ∧ (∀ v ∈ vy, v.oneCell' = true) ∧ (∀ (i j : Nat) (e x : AV), ys[i]? = some e → e.flat[j]? = some x → ∃ v, vy[i * s + j]? = some v ∧ Rep C x v) ∧
            (Builtin.copy_ #[t, ty'] o.type #[.slice (some A) dlen cap, .slice bd ys.length capy]).run P C.w =
              .ok (.int .i64 ys.length) (C.w.setRow (C.pl id).blk (arr.toList.take (off * s) ++ vy ++ arr.toList.drop (off * s + vy.length)).toArray) := by
          have hmin : Nat.min ys.length dlen = ys.length := by rw [← hle]; exact Nat.min_self _
          by_cases h0 : ys = []
          · subst h0
            refine ⟨[], by simp, by simp, fun i j e x h => (by rw [List.getElem?_nil] at h; cases h), ?_⟩
            have hd : dlen = 0 := by rw [← hle]; rfl
            subst hd
            simp only [List.length_nil, Nat.add_zero, List.append_nil, List.take_append_drop, Array.toArray_toList]
            rw [setRow_self C.w _ arr el (0, 0) harr]
            cases bd <;> simp [Builtin.copy_, run_underlying hu, Builtin.lenOf, sizeOf, typeInfo, hi, Builtin.firstCells, loadCells, loadCellsFrom, storeCells, goInt]
          · obtain ⟨b, off', rfl, vy, ly, cy, ry⟩ := hrd.cells h0 hfy
            have hpos : 0 < ys.length := List.length_pos_iff.2 h0
            have hA : A = ⟨(C.pl id).blk, off * s, none⟩ := by
              rcases g4 with g4 | g4
              · omega
              · rw [g4, hszp]
            subst hA
            refine ⟨vy, ly, fun v hv => by obtain ⟨k, hk⟩ := List.getElem?_of_mem hv; exact (cy k v hk).2, ry, ?_⟩
            have hf := run_firstCells_some (P := P) C.w ti.size ys.length ⟨b, off', none⟩ ys.length capy vy (by rw [ly, his]) (fun j v hj => (cy j v hj).1)
            have hfit : off * s + vy.length ≤ arr.size := by
              rw [ly, ← Nat.add_mul]
              exact Nat.le_trans (Nat.mul_le_mul_right _ (by omega)) hcap
            have hst := run_storeCells_at P (C.pl id).blk (off * s) el vy 0 arr C.w harr (by simpa using hfit) (fun v hv => by obtain ⟨k, hk⟩ := List.getElem?_of_mem hv; exact (cy k v hk).2)
            simp only [Nat.add_zero] at hst
            simp only [his] at hf
            simp [Builtin.copy_, run_underlying hu, sizeOf, typeInfo, hi, his, Builtin.lenOf, hmin, hf, hst, goInt]
        obtain ⟨vy, ly, oy, ry, hrun⟩ := hnews
        have hfit : off * s + vy.length ≤ arr.size := by
          rw [ly, ← Nat.add_mul]
          exact Nat.le_trans (Nat.mul_le_mul_right _ (by omega)) hcap
        have hget := fun q => splice_get arr.toList vy (off * s) (by simpa using hfit) q
        have hgetE := fun q => splice_get es ys off (by omega) q
        have hlen' : (arr.toList.take (off * s) ++ vy ++ arr.toList.drop (off * s + vy.length)).length = arr.size := by simp; omega
        generalize (arr.toList.take (off * s) ++ vy ++ arr.toList.drop (off * s + vy.length)) = arr' at hget hrun hlen'
        have hw := write_object hI hid hnil' harr arr'.toArray (by simpa using hlen') (es.take off ++ ys ++ es.drop (off + ys.length)) (by simp; omega)
          (fun u hu => by
            obtain ⟨q, hq⟩ := Array.getElem?_of_mem hu
            rw [List.getElem?_toArray, hget q] at hq
            have old : arr.toList[q]? = some u → u.oneCell' = true := fun h => hO.one q u (by rw [cell_cells harr]; simpa using h)
            split at hq
            · exact old hq
            · split at hq
              · exact oy u (List.mem_of_getElem? hq)
              · exact old hq)
          (fun i e' he => by
            rw [hgetE] at he
            rw [hszp]
            split at he
            · rw [← hszp]; exact hO.flat _ _ he
            · split at he
              · exact hfy _ (List.mem_of_getElem? he)
              · rw [← hszp]; exact hO.flat _ _ he)
          (fun i j e' x' u h1 h2 h3 => by
            rw [hszp, List.getElem?_toArray, hget] at h3
            rw [hgetE] at h1
            have old : es[i]? = some e' → j < s → arr.toList[i * s + j]? = some u → Rep C x' u := fun g _ g' => hO.cell i j e' x' u g h2 (by rw [cell_cells harr, hszp]; simpa using g')
            have hj : j < s := by
              have : e'.flat.length = s := by
                split at h1
                · rw [← hszp]; exact hO.flat _ _ h1
                · split at h1
                  · exact hfy _ (List.mem_of_getElem? h1)
                  · rw [← hszp]; exact hO.flat _ _ h1
              rw [← this]; exact (List.getElem?_eq_some_iff.1 h2).1
            split at h1
            · rename_i hlt
              have : (i + 1) * s ≤ off * s := Nat.mul_le_mul_right _ hlt
              rw [Nat.add_mul, Nat.one_mul] at this
              rw [if_pos (by omega)] at h3
              exact old h1 hj h3
            · rename_i hge
              have q1 : off * s ≤ i * s := Nat.mul_le_mul_right _ (by omega)
              split at h1
              · rename_i hlt
                have q2 : (i + 1) * s ≤ (off + ys.length) * s := Nat.mul_le_mul_right _ hlt
                rw [Nat.add_mul, Nat.add_mul, Nat.one_mul] at q2
                rw [if_neg (by omega), if_pos (by rw [ly]; omega)] at h3
                obtain ⟨u', g5, g6⟩ := ry _ j e' x' h1 h2
                rw [Nat.sub_mul, show i * s - off * s + j = i * s + j - off * s by omega, h3] at g5
                cases g5; exact g6
              · rename_i hge2
                have q2 : (off + ys.length) * s ≤ i * s := Nat.mul_le_mul_right _ (by omega)
                rw [Nat.add_mul] at q2
                rw [if_neg (by omega), if_neg (by rw [ly]; omega)] at h3
                exact old h1 hj h3)
        refine ⟨.int .i64 ys.length, _, ?_, hw.1, hw.2, rfl, .imm _ rfl⟩
        rw [hb]
        simp [builtin, hux, e1, hrun]
        rfl

end
end Go.Av
