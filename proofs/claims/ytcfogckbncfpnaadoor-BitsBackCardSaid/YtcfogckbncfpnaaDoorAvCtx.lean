/- Steps from one context to the next: a new block, a new object, an object written, an object given up. -/
import Derived.Test.YtcfogckbncfpnaaDoorAvCore
import Derived.Laws.Tables
namespace Go.Av
open Go.RowKit (Below)

section
variable {W0 : World} {C : Ctx}

/-- The world of C with a new world in it. -/
def Ctx.inW (C : Ctx) (w' : World) : Ctx := { C with w := w' }

theorem Ctx.own_inW (w' : World) (b : Nat) : (C.inW w').own b ↔ C.own b := Iff.rfl

theorem ext_of_block {w' : World} (hb : Below C.w.heap.size C.w w') : Ext C (C.inW w') where
  below := hb.mono (Nat.zero_le _)
  keep b h _ := hb.block b h
  own _ _ h := h
  next := Nat.le_refl _
  id _ es _ h := ⟨⟨es, h⟩, rfl⟩
  prot := rfl

theorem ObjOK.ext {C' : Ctx} {p : Place} {es : List AV} (h : ObjOK C p es) (he : Ext C C') (hb : C'.w.heap[p.blk]? = C.w.heap[p.blk]?) : ObjOK C' p es where
  n := h.n
  cap := h.cap
  blk := by obtain ⟨arr, el, h1, h2⟩ := h.blk; exact ⟨arr, el, by rw [hb]; exact h1, h2⟩
  one o v hv := h.one o v (by rw [← hv]; exact (World.cell?_of_block (w := C.w) (a := ⟨p.blk, o, none⟩) hb).symm)
  flat := h.flat
  cell i j e x v h1 h2 h3 := (h.cell i j e x v h1 h2 (by rw [← h3]; exact (World.cell?_of_block (w := C.w) (a := ⟨p.blk, _, none⟩) hb).symm)).ext he

theorem Inv.lt (hI : Inv W0 C) {id : Nat} {es : List AV} (h : C.H.get id = some es) (hn : (C.pl id).nil = false) : (C.pl id).blk < C.w.heap.size := by
  obtain ⟨arr, el, h1, _⟩ := (hI.obj id es h hn).blk
  exact (Array.getElem?_eq_some_iff.1 h1).1

theorem Inv.own_lt (hI : Inv W0 C) {b : Nat} (h : C.own b) : b < C.w.heap.size := by
  obtain ⟨id, es, h1, h2, rfl⟩ := h
  exact hI.lt h1 h2

/-- More memory, nothing of the old turned. -/
theorem Inv.inW (hI : Inv W0 C) {w' : World} (hb : Below C.w.heap.size C.w w') : Inv W0 (C.inW w') where
  fresh := hI.fresh
  nil := hI.nil
  obj id es h hn := (hI.obj id es h hn).ext (ext_of_block hb) (hb.block _ (hI.lt h hn))
  sep := hI.sep
  prot := hI.prot
  szok := hI.szok
  protlt b h := Nat.lt_of_lt_of_le (hI.protlt b h) hb.size
  protge := hI.protge
  size := Nat.le_trans hI.size hb.size
  glob b h := ⟨by
    have := (hI.glob b h).1
    rw [← this]
    exact hb.block b (Nat.lt_of_lt_of_le h hI.size), (hI.glob b h).2⟩

theorem below_drew (w : World) : Below w.heap.size w w.drew := ⟨rfl, rfl, rfl, Nat.le_refl _, fun _ _ => rfl⟩
theorem below_alloc (w : World) (o : Obj) : Below w.heap.size w (w.alloc o) := (Below.refl _ _).alloc (Nat.le_refl _) o

theorem alloc_heap (w : World) (o : Obj) : (w.alloc o).heap[w.heap.size]? = some o := by show (w.heap.push o)[_]? = _; simp
theorem alloc_size (w : World) (o : Obj) : (w.alloc o).heap.size = w.heap.size + 1 := by show (w.heap.push o).size = _; simp

/-- An object given up. -/
def Ctx.del (C : Ctx) (id : Nat) : Ctx := { C with H := C.H.del id }

theorem Ctx.own_del {id b : Nat} (h : (C.del id).own b) : C.own b := by
  obtain ⟨k, es, h1, h2, h3⟩ := h
  simp only [Ctx.del, Heap.get_del] at h1
  split at h1
  · cases h1
  · exact ⟨k, es, h1, h2, h3⟩

theorem ext_del (id : Nat) : Ext C (C.del id) where
  below := .refl _ _
  keep _ _ _ := rfl
  own _ _ h := Ctx.own_del h
  next := Nat.le_refl _
  id i es _ h := by
    simp only [Ctx.del, Heap.get_del] at h
    split at h
    · cases h
    · exact ⟨⟨es, h⟩, rfl⟩
  prot := rfl

theorem Inv.del (hI : Inv W0 C) (id : Nat) : Inv W0 (C.del id) := by
  have sub : ∀ k es, (C.del id).H.get k = some es → C.H.get k = some es := by
    intro k es h
    simp only [Ctx.del, Heap.get_del] at h
    split at h
    · cases h
    · exact h
  exact {
    fresh := fun k es h => hI.fresh k es (sub k es h)
    nil := fun k es h => hI.nil k es (sub k es h)
    obj := fun k es h hn => (hI.obj k es (sub k es h) hn).ext (ext_del id) rfl
    sep := fun a b ea eb ha hb => hI.sep a b ea eb (sub _ _ ha) (sub _ _ hb)
    prot := fun k es h => hI.prot k es (sub k es h)
    szok := fun k s h => hI.szok k s (by
      simp only [Ctx.del, Heap.sz_del] at h
      split at h
      · cases h
      · exact h)
    protlt := hI.protlt
    protge := hI.protge
    size := hI.size
    glob := fun b h => ⟨(hI.glob b h).1, fun ho => (hI.glob b h).2 (Ctx.own_del ho)⟩ }

/-- A new object, at a place. -/
def Ctx.push (C : Ctx) (p : Place) (es : List AV) : Ctx := { C with H := C.H.push p.sz es, pl := fun k => if k = C.H.next then p else C.pl k }

theorem Ctx.pl_push_new (p : Place) (es : List AV) : (C.push p es).pl C.H.next = p := by simp [Ctx.push]
theorem Ctx.pl_push_old (p : Place) (es : List AV) {k : Nat} (h : k ≠ C.H.next) : (C.push p es).pl k = C.pl k := by simp [Ctx.push, h]

theorem Ctx.own_push {p : Place} {es : List AV} {b : Nat} (h : (C.push p es).own b) : C.own b ∨ (p.nil = false ∧ b = p.blk) := by
  obtain ⟨k, e, h1, h2, h3⟩ := h
  by_cases hk : k = C.H.next
  · subst hk
    rw [Ctx.pl_push_new] at h2 h3
    exact .inr ⟨h2, h3.symm⟩
  · simp only [Ctx.push, Heap.get_push, if_neg hk] at h1
    rw [Ctx.pl_push_old _ _ hk] at h2 h3
    exact .inl ⟨k, e, h1, h2, h3⟩

/-- The new object's block is no old one, or one that is the proof's own and no object's any more. -/
theorem ext_push {C0 : Ctx} (he : Ext C0 C) (p : Place) (es : List AV) (hp : p.nil = false → C0.w.heap.size ≤ p.blk ∨ C0.own p.blk) : Ext C0 (C.push p es) where
  below := he.below
  keep := he.keep
  own b hb h := by
    rcases Ctx.own_push h with h | ⟨h1, h2⟩
    · exact he.own b hb h
    · rcases hp h1 with h3 | h3
      · omega
      · rw [h2]; exact h3
  next := Nat.le_trans he.next (Nat.le_succ _)
  id i es' hi h := by
    have hne : i ≠ C.H.next := by have := he.next; omega
    simp only [Ctx.push, Heap.get_push, if_neg hne] at h
    rw [Ctx.pl_push_old _ _ hne]
    exact he.id i es' hi h
  prot := he.prot

theorem Rep.push {p : Place} {es : List AV} (hp : p.nil = false → ¬ C.own p.blk ∧ (C.w.heap.size ≤ p.blk)) {x : AV} {v : Value} (h : Rep C x v) : Rep (C.push p es) x v :=
  h.ext (ext_push (.refl C) p es (fun hn => .inl (hp hn).2))

/-- Where the object's cells read as they should (in the context as it will be), all is well. -/
theorem Inv.push (hI : Inv W0 C) (p : Place) (es : List AV) (hnil : p.nil = true → es = []) (hfree : p.nil = false → ¬ C.own p.blk ∧ ¬ C.prot p.blk ∧ W0.heap.size ≤ p.blk)
    (hold : ∀ k e, C.H.get k = some e → (C.pl k).nil = false → ObjOK (C.push p es) (C.pl k) e)
    (hnew : p.nil = false → ObjOK (C.push p es) p es) : Inv W0 (C.push p es) := by
  have cases' : ∀ k e, (C.push p es).H.get k = some e → (k = C.H.next ∧ e = es ∧ (C.push p es).pl k = p) ∨ (k ≠ C.H.next ∧ C.H.get k = some e ∧ (C.push p es).pl k = C.pl k) := by
    intro k e h
    by_cases hk : k = C.H.next
    · subst hk
      simp only [Ctx.push, Heap.get_push, if_true, Option.some.injEq] at h
      exact .inl ⟨rfl, h.symm, Ctx.pl_push_new _ _⟩
    · simp only [Ctx.push, Heap.get_push, if_neg hk] at h
      exact .inr ⟨hk, h, Ctx.pl_push_old _ _ hk⟩
  exact {
    fresh := fun k e h => by
      show k < C.H.next + 1
      rcases cases' k e h with ⟨rfl, _, _⟩ | ⟨_, h', _⟩
      · exact Nat.lt_succ_self _
      · exact Nat.lt_succ_of_lt (hI.fresh k e h')
    nil := fun k e h hn => by
      rcases cases' k e h with ⟨rfl, rfl, hp⟩ | ⟨_, h', hp⟩
      · rw [hp] at hn; exact hnil hn
      · rw [hp] at hn; exact hI.nil k e h' hn
    obj := fun k e h hn => by
      rcases cases' k e h with ⟨rfl, rfl, hp⟩ | ⟨_, h', hp⟩
      · rw [hp] at hn ⊢; exact hnew hn
      · rw [hp] at hn ⊢; exact hold k e h' hn
    sep := fun a b ea eb ha hb na nb hab => by
      rcases cases' a ea ha with ⟨rfl, rfl, hpa⟩ | ⟨_, ha', hpa⟩ <;> rcases cases' b eb hb with ⟨rfl, rfl, hpb⟩ | ⟨_, hb', hpb⟩
      · rfl
      · rw [hpa] at na hab; rw [hpb] at nb hab
        exact absurd ⟨b, eb, hb', nb, hab.symm⟩ (hfree na).1
      · rw [hpa] at na hab; rw [hpb] at nb hab
        exact absurd ⟨a, ea, ha', na, hab⟩ (hfree nb).1
      · rw [hpa] at na hab; rw [hpb] at nb hab
        exact hI.sep a b ea eb ha' hb' na nb hab
    prot := fun k e h hn => by
      rcases cases' k e h with ⟨rfl, rfl, hp⟩ | ⟨_, h', hp⟩
      · rw [hp] at hn ⊢; exact (hfree hn).2.1
      · rw [hp] at hn ⊢; exact hI.prot k e h' hn
    szok := fun k s h hn => by
      simp only [Ctx.push, Heap.sz_push] at h
      split at h
      · rename_i hk; subst hk
        rw [Ctx.pl_push_new]
        simpa using h
      · rename_i hk
        rw [Ctx.pl_push_old _ _ hk] at hn ⊢
        exact hI.szok k s h hn
    protlt := hI.protlt
    protge := hI.protge
    size := hI.size
    glob := fun b h => ⟨(hI.glob b h).1, fun ho => by
      rcases Ctx.own_push ho with h1 | ⟨h1, h2⟩
      · exact (hI.glob b h).2 h1
      · have := (hfree h1).2.2; omega⟩ }

theorem cell_cells {w : World} {b : Nat} {arr : Array Value} {el : TypeId} {fz : Nat × Nat} (h : w.heap[b]? = some (.cells arr el fz)) (o : Nat) : w.cell? ⟨b, o, none⟩ = arr[o]? := by
  simp [World.cell?, h]

/-- A new block that is the proof's own from now on. -/
theorem new_object (hI : Inv W0 C) (arr : Array Value) (el : TypeId) (es : List AV) (sz cap : Nat) (hsz : cap * sz ≤ arr.size) (hcap : es.length ≤ cap)
    (hone : ∀ v ∈ arr, v.oneCell' = true) (hfl : ∀ (i : Nat) (e : AV), es[i]? = some e → e.flat.length = sz)
    (hcell : ∀ (i j : Nat) (e x : AV) (v : Value), es[i]? = some e → e.flat[j]? = some x → arr[i * sz + j]? = some v → Rep C x v) :
    Ext C ((C.inW (C.w.alloc (.cells arr el (0, 0)))).push ⟨C.w.heap.size, sz, es.length, cap, false⟩ es) ∧
    Inv W0 ((C.inW (C.w.alloc (.cells arr el (0, 0)))).push ⟨C.w.heap.size, sz, es.length, cap, false⟩ es) := by
  have hb := below_alloc C.w (.cells arr el (0, 0))
  have h1 : Ext C (C.inW (C.w.alloc (.cells arr el (0, 0)))) := ext_of_block hb
  have I1 := hI.inW hb
  have hE := ext_push (C := C.inW (C.w.alloc (.cells arr el (0, 0)))) h1 ⟨C.w.heap.size, sz, es.length, cap, false⟩ es (fun _ => .inl (Nat.le_refl _))
  have hE' := ext_push (C := C.inW (C.w.alloc (.cells arr el (0, 0)))) (.refl _) ⟨C.w.heap.size, sz, es.length, cap, false⟩ es
  refine ⟨hE, I1.push _ _ (fun h => by cases h) (fun _ => ⟨fun ho => ?_, fun hp => ?_, hI.size⟩) (fun k e h hn => ?_) (fun _ => ?_)⟩
  · exact Nat.lt_irrefl _ (hI.own_lt ho)
  · exact Nat.lt_irrefl _ (hI.protlt _ hp)
  · have := hI.obj k e h hn
    exact this.ext hE (hb.block _ (hI.lt h hn))
  · refine ⟨rfl, hcap, ⟨arr, el, alloc_heap _ _, hsz⟩, fun o v h => ?_, hfl, fun i j e x v h1 h2 h3 => ?_⟩
    · rw [show ((C.inW (C.w.alloc (.cells arr el (0, 0)))).push ⟨C.w.heap.size, sz, es.length, cap, false⟩ es).w = C.w.alloc (.cells arr el (0, 0)) from rfl, cell_cells (alloc_heap C.w _)] at h
      exact hone v (Array.mem_of_getElem? h)
    · rw [show ((C.inW (C.w.alloc (.cells arr el (0, 0)))).push ⟨C.w.heap.size, sz, es.length, cap, false⟩ es).w = C.w.alloc (.cells arr el (0, 0)) from rfl, cell_cells (alloc_heap C.w _)] at h3
      exact (hcell i j e x v h1 h2 h3).ext hE

/-- An object with no memory: an empty slice without room. -/
theorem nil_object (hI : Inv W0 C) (sz : Nat) : Ext C (C.push ⟨0, sz, 0, 0, true⟩ []) ∧ Inv W0 (C.push ⟨0, sz, 0, 0, true⟩ []) := by
  have hE := ext_push (C := C) (.refl _) ⟨0, sz, 0, 0, true⟩ [] (fun h => by cases h)
  exact ⟨hE, hI.push _ _ (fun _ => rfl) (fun h => by cases h) (fun k e h hn => (hI.obj k e h hn).ext hE rfl) (fun h => by cases h)⟩

/-- The cells of an own object written: what it holds from now on. -/
def Ctx.write (C : Ctx) (id : Nat) (w' : World) (es : List AV) : Ctx := { C with w := w', H := C.H.set id es }

theorem write_object (hI : Inv W0 C) {id : Nat} {es0 : List AV} (hid : C.H.get id = some es0) (hn : (C.pl id).nil = false) {arr : Array Value} {el : TypeId}
    (harr : C.w.heap[(C.pl id).blk]? = some (.cells arr el (0, 0))) (arr' : Array Value) (hsize : arr'.size = arr.size) (es : List AV) (hlen : es.length = es0.length)
    (hone : ∀ v ∈ arr', v.oneCell' = true) (hfl : ∀ (i : Nat) (e : AV), es[i]? = some e → e.flat.length = (C.pl id).sz)
    (hcell : ∀ (i j : Nat) (e x : AV) (v : Value), es[i]? = some e → e.flat[j]? = some x → arr'[i * (C.pl id).sz + j]? = some v → Rep C x v) :
    Ext C (C.write id (C.w.setRow (C.pl id).blk arr') es) ∧ Inv W0 (C.write id (C.w.setRow (C.pl id).blk arr') es) := by
  have hO := hI.obj id es0 hid hn
  have hsame : ∀ b, (C.write id (C.w.setRow (C.pl id).blk arr') es).own b → C.own b := by
    rintro b ⟨k, e, h1, h2, h3⟩
    simp only [Ctx.write, Heap.get_set] at h1
    split at h1
    · rename_i hk; subst hk; exact ⟨k, es0, hid, h2, h3⟩
    · exact ⟨k, e, h1, h2, h3⟩
  have hE : Ext C (C.write id (C.w.setRow (C.pl id).blk arr') es) := {
    below := ⟨rfl, rfl, rfl, by simp [Ctx.write, World.setRow], fun k hk => absurd hk (Nat.not_lt_zero k)⟩
    keep := fun b hb ho => setRow_other _ _ _ _ (fun hbb => ho ⟨id, es0, hid, hn, hbb.symm⟩)
    own := fun b _ h => hsame b h
    next := Nat.le_refl _
    id := fun i es' _ h => by
      simp only [Ctx.write, Heap.get_set] at h
      split at h
      · rename_i hk; subst hk; exact ⟨⟨es0, hid⟩, rfl⟩
      · exact ⟨⟨es', h⟩, rfl⟩
    prot := rfl }
  have hrow := setRow_heap C.w (C.pl id).blk arr arr' el (0, 0) harr
  have cases' : ∀ k e, (C.write id (C.w.setRow (C.pl id).blk arr') es).H.get k = some e → (k = id ∧ e = es) ∨ (k ≠ id ∧ C.H.get k = some e) := by
    intro k e h
    simp only [Ctx.write, Heap.get_set] at h
    split at h
    · rename_i hk; exact .inl ⟨hk, by simpa using h.symm⟩
    · rename_i hk; exact .inr ⟨hk, h⟩
  refine ⟨hE, {
    fresh := fun k e h => by
      rcases cases' k e h with ⟨rfl, _⟩ | ⟨_, h'⟩
      · exact hI.fresh k es0 hid
      · exact hI.fresh k e h'
    nil := fun k e h hk => by
      rcases cases' k e h with ⟨rfl, _⟩ | ⟨_, h'⟩
      · have hk' : (C.pl k).nil = true := hk
        rw [hn] at hk'; cases hk'
      · exact hI.nil k e h' hk
    obj := fun k e h hk => by
      rcases cases' k e h with ⟨rfl, rfl⟩ | ⟨hne, h'⟩
      · refine ⟨hO.n.trans hlen.symm, hO.cap, ⟨arr', el, hrow, ?_⟩, fun o v hv => ?_, hfl, fun i j e' x v h1 h2 h3 => ?_⟩
        · obtain ⟨a2, e2, h2, h3⟩ := hO.blk
          rw [harr] at h2
          simp only [Option.some.injEq, Obj.cells.injEq] at h2
          obtain ⟨rfl, _⟩ := h2
          rw [hsize]; exact h3
        · have hv' : (C.w.setRow (C.pl k).blk arr').cell? ⟨(C.pl k).blk, o, none⟩ = some v := hv
          rw [cell_cells hrow] at hv'
          exact hone v (Array.mem_of_getElem? hv')
        · have hv' : (C.w.setRow (C.pl k).blk arr').cell? ⟨(C.pl k).blk, i * (C.pl k).sz + j, none⟩ = some v := h3
          rw [cell_cells hrow] at hv'
          exact (hcell i j e' x v h1 h2 hv').ext hE
      · exact (hI.obj k e h' hk).ext hE (setRow_other _ _ _ _ (fun hbb => hne (hI.sep k id e es0 h' hid hk hn hbb)))
    sep := fun a b ea eb ha hb na nb hab => by
      have g : ∀ k e, (C.write id (C.w.setRow (C.pl id).blk arr') es).H.get k = some e → ∃ e', C.H.get k = some e' := by
        intro k e h
        rcases cases' k e h with ⟨rfl, _⟩ | ⟨_, h'⟩
        · exact ⟨es0, hid⟩
        · exact ⟨e, h'⟩
      obtain ⟨e1, h1⟩ := g a ea ha
      obtain ⟨e2, h2⟩ := g b eb hb
      exact hI.sep a b e1 e2 h1 h2 na nb hab
    prot := fun k e h hk => by
      rcases cases' k e h with ⟨rfl, _⟩ | ⟨_, h'⟩
      · exact hI.prot k es0 hid hk
      · exact hI.prot k e h' hk
    szok := fun k s h => hI.szok k s (by rw [← Heap.sz_set C.H id es es0 hid k]; exact h)
    protlt := fun b h => by simpa [Ctx.write, World.setRow] using hI.protlt b h
    protge := hI.protge
    size := by simpa [Ctx.write, World.setRow] using hI.size
    glob := fun b h => ⟨by
      have hne : b ≠ (C.pl id).blk := fun hbb => (hI.glob b h).2 ⟨id, es0, hid, hn, hbb.symm⟩
      rw [← (hI.glob b h).1]
      exact setRow_other _ _ _ _ hne, fun ho => (hI.glob b h).2 (hsame b ho)⟩ }⟩

end
end Go.Av
