/- The values, states and contexts of the abstract walk: what a proof sees of a run. -/
import Derived.Calls
import Derived.Laws.Sem
import Derived.Below
namespace Go.Av

/-- A value as a proof sees it. -/
inductive AV where
  | imm (v : Value)
  | sl (es : List AV)
  | clip (es : List AV)
  | view (id off len : Nat)
  | ref (id i j : Nat)
  | pp (fl : List AV) (j : Nat)
  | agg (cs : List AV)
  | tuple (vs : List AV)
  | ifc (t : TypeId) (x : AV)
  | clo (fn : Fn) (caps : List AV)
  | any
  deriving Inhabited

/-- The cells of a value. -/
def AV.flat : AV → List AV
  | .agg cs => cs
  | x => [x]

/-- Where an object of the proof's heap lies. -/
structure Place where
  blk : Nat
  sz : Nat
  n : Nat
  cap : Nat
  nil : Bool

/-- The objects that the proof knows to be its own, by their numbers. -/
structure Heap where
  next : Nat
  objs : List (Nat × (Nat × List AV))

def lk {α : Type} : List (Nat × α) → Nat → Option α
  | [], _ => none
  | (t, v) :: l, s => if t = s then some v else lk l s

def up {α : Type} : List (Nat × α) → Nat → α → List (Nat × α)
  | [], s, v => [(s, v)]
  | (t, u) :: l, s, v => if t = s then (t, v) :: l else (t, u) :: up l s v

def del {α : Type} : List (Nat × α) → Nat → List (Nat × α)
  | [], _ => []
  | (t, u) :: l, s => if t = s then del l s else (t, u) :: del l s

theorem lk_up {α : Type} (l : List (Nat × α)) (s : Nat) (v : α) (t : Nat) : lk (up l s v) t = if t = s then some v else lk l t := by
  induction l with
  | nil => simp only [up, lk]; split <;> split <;> first | rfl | omega
  | cons p l ih =>
    obtain ⟨q, u⟩ := p
    simp only [up]
    split
    · simp only [lk]; split
      · split <;> first | rfl | omega
      · rw [if_neg (by omega)]
    · simp only [lk, ih]
      split
      · rw [if_neg (by omega)]
      · rfl

theorem lk_del {α : Type} (l : List (Nat × α)) (s : Nat) (t : Nat) : lk (del l s) t = if t = s then none else lk l t := by
  induction l with
  | nil => simp [del, lk]
  | cons p l ih =>
    obtain ⟨q, u⟩ := p
    simp only [del]
    split
    · rw [ih]; simp only [lk]; split
      · rfl
      · rw [if_neg (by omega)]
    · simp only [lk, ih]
      split
      · rw [if_neg (by omega)]
      · rfl

theorem dl_up {α : Type} (l : List (Nat × α)) (s : Nat) (v : α) : del (up l s v) s = del l s := by
  induction l with
  | nil => simp [up, del]
  | cons p l ih =>
    obtain ⟨q, u⟩ := p
    simp only [up]
    split
    · rename_i h; simp [del, h]
    · rename_i h; simp [del, h, ih]

def Heap.get (H : Heap) (id : Nat) : Option (List AV) := (lk H.objs id).map (·.2)
def Heap.sz (H : Heap) (id : Nat) : Option Nat := (lk H.objs id).map (·.1)
def Heap.set (H : Heap) (id : Nat) (es : List AV) : Heap := { H with objs := up H.objs id ((H.sz id).getD 0, es) }
def Heap.del (H : Heap) (id : Nat) : Heap := { H with objs := Av.del H.objs id }
def Heap.push (H : Heap) (s : Nat) (es : List AV) : Heap := { next := H.next + 1, objs := up H.objs H.next (s, es) }
def Heap.empty : Heap := { next := 0, objs := [] }

theorem Heap.del_set (H : Heap) (id : Nat) (es : List AV) : (H.set id es).del id = H.del id := by
  simp only [Heap.set, Heap.del, dl_up]

theorem Heap.get_set (H : Heap) (id : Nat) (es : List AV) (k : Nat) : (H.set id es).get k = if k = id then some es else H.get k := by
  simp only [Heap.get, Heap.set, lk_up]; split <;> rfl
theorem Heap.get_del (H : Heap) (id : Nat) (k : Nat) : (H.del id).get k = if k = id then none else H.get k := by
  simp only [Heap.get, Heap.del, lk_del]; split <;> rfl
theorem Heap.get_push (H : Heap) (s : Nat) (es : List AV) (k : Nat) : (H.push s es).get k = if k = H.next then some es else H.get k := by
  simp only [Heap.get, Heap.push, lk_up]; split <;> rfl
theorem Heap.sz_set (H : Heap) (id : Nat) (es es0 : List AV) (h : H.get id = some es0) (k : Nat) : (H.set id es).sz k = H.sz k := by
  simp only [Heap.sz, Heap.set, lk_up]; split
  · rename_i hk; subst hk
    simp only [Heap.get, Option.map_eq_some_iff] at h
    obtain ⟨p, h1, _⟩ := h
    simp [h1]
  · rfl
theorem Heap.sz_del (H : Heap) (id : Nat) (k : Nat) : (H.del id).sz k = if k = id then none else H.sz k := by
  simp only [Heap.sz, Heap.del, lk_del]; split <;> rfl
theorem Heap.sz_push (H : Heap) (s : Nat) (es : List AV) (k : Nat) : (H.push s es).sz k = if k = H.next then some s else H.sz k := by
  simp only [Heap.sz, Heap.push, lk_up]; split <;> rfl

/-- A world, the proof's heap, and where its objects lie; 'prot': blocks that are others' own. -/
structure Ctx where
  w : World
  H : Heap
  pl : Nat → Place
  prot : Nat → Prop

def Ctx.own (C : Ctx) (b : Nat) : Prop := ∃ id es, C.H.get id = some es ∧ (C.pl id).nil = false ∧ (C.pl id).blk = b
def Ctx.bad (C : Ctx) (b : Nat) : Prop := C.own b ∨ C.prot b

def SliceAt (p : Place) (off len : Nat) (v : Value) : Prop :=
  if p.nil then off = 0 ∧ len = 0 ∧ ∃ a, v = .slice a 0 0
  else ∃ a cap, v = .slice (some a) len cap ∧ off + len ≤ p.n ∧ off + cap ≤ p.cap ∧ len ≤ cap ∧ (cap = 0 ∨ a = ⟨p.blk, off * p.sz, none⟩)

/-- A cell that holds a value. -/
def Holds (w : World) (b o : Nat) (v : Value) : Prop := w.cell? ⟨b, o, none⟩ = some v ∧ v.oneCell' = true

inductive Rep (C : Ctx) : AV → Value → Prop
  | any (v : Value) : Rep C .any v
  | imm (v : Value) : v.oneCell' = true → Rep C (.imm v) v
  | slNil (a : Option Addr) (cap : Nat) : Rep C (.sl []) (.slice a 0 cap)
  | sl (es : List AV) (b off sz cap : Nat) (c : Nat → Nat → Value) : b < C.w.heap.size → ¬ C.bad b → es.length ≤ cap →
      (∀ (i : Nat) (e : AV), es[i]? = some e → e.flat.length = sz) →
      (∀ (i j : Nat) (e x : AV), es[i]? = some e → e.flat[j]? = some x → Holds C.w b (off + i * sz + j) (c i j)) →
      (∀ (i j : Nat) (e x : AV), es[i]? = some e → e.flat[j]? = some x → Rep C x (c i j)) →
      Rep C (.sl es) (.slice (some ⟨b, off, none⟩) es.length cap)
  | clipNil (a : Option Addr) : Rep C (.clip []) (.slice a 0 0)
  | clip (es : List AV) (b off sz : Nat) (c : Nat → Nat → Value) : b < C.w.heap.size → ¬ C.bad b →
      (∀ (i : Nat) (e : AV), es[i]? = some e → e.flat.length = sz) →
      (∀ (i j : Nat) (e x : AV), es[i]? = some e → e.flat[j]? = some x → Holds C.w b (off + i * sz + j) (c i j)) →
      (∀ (i j : Nat) (e x : AV), es[i]? = some e → e.flat[j]? = some x → Rep C x (c i j)) →
      Rep C (.clip es) (.slice (some ⟨b, off, none⟩) es.length es.length)
  | view (id off len : Nat) (v : Value) : id < C.H.next → (∀ es, C.H.get id = some es → SliceAt (C.pl id) off len v) → v.oneCell' = true → Rep C (.view id off len) v
  | ref (id i j : Nat) (v : Value) : id < C.H.next →
      (∀ es, C.H.get id = some es → (C.pl id).nil = false ∧ v = .pointer (some ⟨(C.pl id).blk, i * (C.pl id).sz + j, none⟩)) → v.oneCell' = true → Rep C (.ref id i j) v
  | pp (fl : List AV) (j b off : Nat) (c : Nat → Value) : b < C.w.heap.size → ¬ C.bad b →
      (∀ (k : Nat) (x : AV), fl[k]? = some x → Holds C.w b (off + k) (c k)) → (∀ (k : Nat) (x : AV), fl[k]? = some x → Rep C x (c k)) →
      Rep C (.pp fl j) (.pointer (some ⟨b, off + j, none⟩))
  | agg (cs : List AV) (vs : Array Value) : vs.size = cs.length → (∀ (k : Nat) (v : Value), vs[k]? = some v → v.oneCell' = true) →
      (∀ (k : Nat) (x : AV), cs[k]? = some x → Rep C x (vs.getD k undef)) → Rep C (.agg cs) (.agg vs)
  | tuple (cs : List AV) (vs : Array Value) : vs.size = cs.length →
      (∀ (k : Nat) (x : AV), cs[k]? = some x → Rep C x (vs.getD k undef)) → Rep C (.tuple cs) (.tuple vs)
  | ifc (t : TypeId) (x : AV) (v : Value) : Rep C x v → Rep C (.ifc t x) (.iface t v)
  | clo (fn : Fn) (caps : List AV) (vs : Array Value) : vs.size = caps.length →
      (∀ (k : Nat) (x : AV), caps[k]? = some x → Rep C x (vs.getD k undef)) → Rep C (.clo fn caps) (.func fn #[] vs)

/-- An object lies in memory as the proof has it. -/
structure ObjOK (C : Ctx) (p : Place) (es : List AV) : Prop where
  n : p.n = es.length
  cap : p.n ≤ p.cap
  blk : ∃ arr el, C.w.heap[p.blk]? = some (.cells arr el (0, 0)) ∧ p.cap * p.sz ≤ arr.size
  one : ∀ (o : Nat) (v : Value), C.w.cell? ⟨p.blk, o, none⟩ = some v → v.oneCell' = true
  flat : ∀ (i : Nat) (e : AV), es[i]? = some e → e.flat.length = p.sz
  cell : ∀ (i j : Nat) (e x : AV) (v : Value), es[i]? = some e → e.flat[j]? = some x → C.w.cell? ⟨p.blk, i * p.sz + j, none⟩ = some v → Rep C x v

structure Inv (W0 : World) (C : Ctx) : Prop where
  fresh : ∀ id es, C.H.get id = some es → id < C.H.next
  nil : ∀ id es, C.H.get id = some es → (C.pl id).nil = true → es = []
  obj : ∀ id es, C.H.get id = some es → (C.pl id).nil = false → ObjOK C (C.pl id) es
  sep : ∀ i1 i2 e1 e2, C.H.get i1 = some e1 → C.H.get i2 = some e2 → (C.pl i1).nil = false → (C.pl i2).nil = false → (C.pl i1).blk = (C.pl i2).blk → i1 = i2
  prot : ∀ id es, C.H.get id = some es → (C.pl id).nil = false → ¬ C.prot (C.pl id).blk
  szok : ∀ id s, C.H.sz id = some s → (C.pl id).nil = false → (C.pl id).sz = s
  protlt : ∀ b, C.prot b → b < C.w.heap.size
  protge : ∀ b, C.prot b → W0.heap.size ≤ b
  size : W0.heap.size ≤ C.w.heap.size
  glob : ∀ b, b < W0.heap.size → C.w.heap[b]? = W0.heap[b]? ∧ ¬ C.own b

structure Ext (C C' : Ctx) : Prop where
  below : RowKit.Below 0 C.w C'.w
  keep : ∀ b, b < C.w.heap.size → ¬ C.own b → C'.w.heap[b]? = C.w.heap[b]?
  own : ∀ b, b < C.w.heap.size → C'.own b → C.own b
  next : C.H.next ≤ C'.H.next
  id : ∀ id es', id < C.H.next → C'.H.get id = some es' → (∃ es, C.H.get id = some es) ∧ C'.pl id = C.pl id
  prot : C'.prot = C.prot

theorem Ext.refl (C : Ctx) : Ext C C := ⟨.refl _ _, fun _ _ _ => rfl, fun _ _ h => h, Nat.le_refl _, fun _ es _ h => ⟨⟨es, h⟩, rfl⟩, rfl⟩

theorem Ext.trans {A B C : Ctx} (h : Ext A B) (k : Ext B C) : Ext A C where
  below := h.below.trans k.below
  keep b hb hn := by
    have h1 := h.keep b hb hn
    rw [k.keep b (Nat.lt_of_lt_of_le hb h.below.size) (fun ho => hn (h.own b hb ho)), h1]
  own b hb ho := h.own b hb (k.own b (Nat.lt_of_lt_of_le hb h.below.size) ho)
  next := Nat.le_trans h.next k.next
  id i es' hi hg := by
    obtain ⟨⟨es, he⟩, hp⟩ := k.id i es' (Nat.lt_of_lt_of_le hi h.next) hg
    obtain ⟨h1, h2⟩ := h.id i es hi he
    exact ⟨h1, hp.trans h2⟩
  prot := k.prot.trans h.prot

theorem Ext.bad {C C' : Ctx} (h : Ext C C') {b : Nat} (hb : b < C.w.heap.size) (hn : ¬ C.bad b) : ¬ C'.bad b := by
  rintro (ho | hp)
  · exact hn (.inl (h.own b hb ho))
  · rw [h.prot] at hp; exact hn (.inr hp)

theorem Ext.holds {C C' : Ctx} (h : Ext C C') {b o : Nat} {v : Value} (hb : b < C.w.heap.size) (hn : ¬ C.bad b) (hh : Holds C.w b o v) : Holds C'.w b o v := by
  have hk := h.keep b hb (fun ho => hn (.inl ho))
  refine ⟨?_, hh.2⟩
  rw [World.cell?_of_block (w := C.w) (a := ⟨b, o, none⟩) hk]
  exact hh.1

theorem Rep.ext {C C' : Ctx} (h : Ext C C') {x : AV} {v : Value} (hr : Rep C x v) : Rep C' x v := by
  induction hr with
  | any v => exact .any v
  | imm v hv => exact .imm v hv
  | slNil a cap => exact .slNil a cap
  | sl es b off sz cap c hb hn hc hf hcell _ ih =>
    exact .sl es b off sz cap c (Nat.lt_of_lt_of_le hb h.below.size) (h.bad hb hn) hc hf (fun i j e x he hx => h.holds hb hn (hcell i j e x he hx)) ih
  | clipNil a => exact .clipNil a
  | clip es b off sz c hb hn hf hcell _ ih =>
    exact .clip es b off sz c (Nat.lt_of_lt_of_le hb h.below.size) (h.bad hb hn) hf (fun i j e x he hx => h.holds hb hn (hcell i j e x he hx)) ih
  | view id off len v hid hs h1 =>
    refine .view id off len v (Nat.lt_of_lt_of_le hid h.next) (fun es he => ?_) h1
    obtain ⟨⟨es0, h0⟩, hp⟩ := h.id id es hid he
    rw [hp]; exact hs es0 h0
  | ref id i j v hid hs h1 =>
    refine .ref id i j v (Nat.lt_of_lt_of_le hid h.next) (fun es he => ?_) h1
    obtain ⟨⟨es0, h0⟩, hp⟩ := h.id id es hid he
    rw [hp]; exact hs es0 h0
  | pp fl j b off c hb hn hcell _ ih =>
    exact .pp fl j b off c (Nat.lt_of_lt_of_le hb h.below.size) (h.bad hb hn) (fun k x hx => h.holds hb hn (hcell k x hx)) ih
  | agg cs vs hs h1 _ ih => exact .agg cs vs hs h1 ih
  | tuple cs vs hs _ ih => exact .tuple cs vs hs ih
  | ifc t x v _ ih => exact .ifc t x v ih
  | clo fn caps vs hs _ ih => exact .clo fn caps vs hs ih

/-- What memory keeps from one context to the next, whatever the objects are called. -/
structure Mem (C C' : Ctx) : Prop where
  below : RowKit.Below 0 C.w C'.w
  keep : ∀ b, b < C.w.heap.size → ¬ C.own b → C'.w.heap[b]? = C.w.heap[b]?
  own : ∀ b, b < C.w.heap.size → C'.own b → C.own b
  prot : C'.prot = C.prot

theorem Ext.mem {C C' : Ctx} (h : Ext C C') : Mem C C' := ⟨h.below, h.keep, h.own, h.prot⟩
theorem Mem.refl (C : Ctx) : Mem C C := (Ext.refl C).mem
theorem Mem.trans {A B C : Ctx} (h : Mem A B) (k : Mem B C) : Mem A C where
  below := h.below.trans k.below
  keep b hb hn := by
    have h1 := h.keep b hb hn
    rw [k.keep b (Nat.lt_of_lt_of_le hb h.below.size) (fun ho => hn (h.own b hb ho)), h1]
  own b hb ho := h.own b hb (k.own b (Nat.lt_of_lt_of_le hb h.below.size) ho)
  prot := k.prot.trans h.prot

end Go.Av
