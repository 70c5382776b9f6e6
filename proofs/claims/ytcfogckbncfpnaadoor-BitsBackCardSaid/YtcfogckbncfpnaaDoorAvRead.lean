/- Reading: the elements of a slice, addresses, loads, lengths, slices of slices. -/
import Derived.Test.YtcfogckbncfpnaaDoorAvOps
namespace Go.Av
open Go.RowKit (Below)

/-- The elements that lie from an address on. -/
def Reads (C : Ctx) (es : List AV) (a : Option Addr) : Prop :=
  es = [] ∨ ∃ b off sz, a = some ⟨b, off, none⟩ ∧ b < C.w.heap.size ∧ (∀ (i : Nat) (e : AV), es[i]? = some e → e.flat.length = sz) ∧
    ∀ (i j : Nat) (e x : AV), es[i]? = some e → e.flat[j]? = some x → ∃ v, Holds C.w b (off + i * sz + j) v ∧ Rep C x v

def AV.elems (H : Heap) : AV → Option (List AV)
  | .imm (.slice none 0 0) => some []
  | .sl es => some es
  | .clip es => some es
  | .view id off len => (H.get id).map fun es => (es.drop off).take len
  | _ => none

section
variable {P : Program} {W0 : World} {C : Ctx} {fr : Fr} {a : Act} {H : Heap} {o : Oper}

theorem holds_obj (hI : Inv W0 C) {id : Nat} {es : List AV} (hid : C.H.get id = some es) (hn : (C.pl id).nil = false) {i j : Nat} {e x : AV} (he : es[i]? = some e) (hx : e.flat[j]? = some x) :
    ∃ v, Holds C.w (C.pl id).blk (i * (C.pl id).sz + j) v ∧ Rep C x v := by
  have hO := hI.obj id es hid hn
  obtain ⟨arr, el, harr, hsz⟩ := hO.blk
  have hi : i < es.length := (List.getElem?_eq_some_iff.1 he).1
  have hj : j < (C.pl id).sz := by rw [← hO.flat i e he]; exact (List.getElem?_eq_some_iff.1 hx).1
  have hlt : i * (C.pl id).sz + j < arr.size := by
    have h1 : i + 1 ≤ (C.pl id).cap := by have := hO.n; have := hO.cap; omega
    have h2 : (i + 1) * (C.pl id).sz ≤ (C.pl id).cap * (C.pl id).sz := Nat.mul_le_mul_right _ h1
    rw [Nat.add_mul, Nat.one_mul] at h2
    omega
  have hc : C.w.cell? ⟨(C.pl id).blk, i * (C.pl id).sz + j, none⟩ = some arr[i * (C.pl id).sz + j] := by
    rw [cell_cells harr]; exact Array.getElem?_eq_getElem hlt
  exact ⟨_, ⟨hc, hO.one _ _ hc⟩, hO.cell i j e x _ he hx hc⟩

theorem rep_elems (hI : Inv W0 C) {x : AV} {v : Value} {es : List AV} (hr : Rep C x v) (he : x.elems C.H = some es) :
    ∃ a cap, v = .slice a es.length cap ∧ es.length ≤ cap ∧ Reads C es a := by
  cases hr <;> simp only [AV.elems] at he <;> try cases he
  case imm h1 =>
    split at he
    · rename_i h; injection h with h; subst h
      simp only [Option.some.injEq] at he; subst he
      exact ⟨none, 0, rfl, Nat.le_refl _, .inl rfl⟩
    · rename_i h; cases h
    · rename_i h; cases h
    · rename_i h; cases h
    · cases he
  case slNil a cap => exact ⟨a, cap, rfl, Nat.zero_le _, .inl rfl⟩
  case sl b off sz cap c hb hn hc hf hcell hrec =>
    exact ⟨_, cap, rfl, hc, .inr ⟨b, off, sz, rfl, hb, hf, fun i j e x h1 h2 => ⟨c i j, hcell i j e x h1 h2, hrec i j e x h1 h2⟩⟩⟩
  case clipNil a => exact ⟨a, 0, rfl, Nat.zero_le _, .inl rfl⟩
  case clip b off sz c hb hn hf hcell hrec =>
    exact ⟨_, _, rfl, Nat.le_refl _, .inr ⟨b, off, sz, rfl, hb, hf, fun i j e x h1 h2 => ⟨c i j, hcell i j e x h1 h2, hrec i j e x h1 h2⟩⟩⟩
  case view =>
    rename_i id off len hid hs h1
    obtain ⟨es0, h0, rfl⟩ := Option.map_eq_some_iff.1 he
    have := hs es0 h0
    unfold SliceAt at this
    split at this
    · rename_i hnil
      obtain ⟨rfl, rfl, a, rfl⟩ := this
      exact ⟨a, 0, by simp, by simp, .inl (by simp)⟩
    · rename_i hnil
      have hnil' : (C.pl id).nil = false := by simpa using hnil
      obtain ⟨a, cap, rfl, h2, h3, h4, h5⟩ := this
      have hO := hI.obj id es0 h0 hnil'
      have hlen : ((es0.drop off).take len).length = len := by have := hO.n; simp; omega
      refine ⟨some a, cap, by rw [hlen], by rw [hlen]; exact h4, ?_⟩
      rcases h5 with h5 | rfl
      · exact .inl (List.eq_nil_of_length_eq_zero (by rw [hlen]; omega))
      · refine .inr ⟨_, _, (C.pl id).sz, rfl, hI.lt h0 hnil', fun i e h6 => ?_, fun i j e x h6 h7 => ?_⟩
        · rw [List.getElem?_take] at h6
          split at h6
          · rw [List.getElem?_drop] at h6; exact hO.flat _ e h6
          · cases h6
        · rw [List.getElem?_take] at h6
          split at h6
          · rw [List.getElem?_drop] at h6
            have := holds_obj hI h0 hnil' h6 h7
            rwa [Nat.add_mul] at this
          · cases h6

theorem addr_add (b o n : Nat) : (⟨b, o, none⟩ : Addr).add n = ⟨b, o + n, none⟩ := by
  unfold Addr.add; split
  · subst_vars; rfl
  · rfl

/-! ### Types, as numbers -/

def szT (P : Program) (t : TypeId) : Option (Nat × Bool) :=
  match P.info? t, P.underlying t with
  | some i, some d => some (i.size, match d with | .struct _ | .array _ _ => true | _ => false)
  | _, _ => none

def elT (P : Program) (t : TypeId) : Option (TypeId × Nat × Nat) :=
  match P.underlying t with
  | some (.slice e) => (P.info? e).map fun i => (e, i.size, i.bytes)
  | _ => none

def arT (P : Program) (t : TypeId) : Option (Nat × Nat) :=
  match P.underlying t with
  | some (.array n e) => (P.info? e).map fun i => (n, i.size)
  | _ => none

def fdT (P : Program) (t : TypeId) (f : Nat) : Option (Nat × Nat × Bool) :=
  match P.underlying t with
  | some (.struct fs) => match (fs[f]? : Option Field) with
    | some fd => (szT P fd.type).map fun (n, g) => (fd.offset, n, g)
    | none => none
  | _ => none

def zrT (P : Program) (t : TypeId) : Option Value := (P.info? t).bind (·.zero)

/-- A part of some cells, as a value. -/
def partA (cs : List AV) (off n : Nat) (ag : Bool) : Option AV :=
  if ag then (if off + n ≤ cs.length then some (.agg ((cs.drop off).take n)) else none) else cs[off]?

theorem szT_spec {t : TypeId} {n : Nat} {g : Bool} (h : szT P t = some (n, g)) (w : World) : (sizeOf t).run P w = .ok n w ∧ (isAgg t).run P w = .ok g w := by
  unfold szT at h
  split at h
  · rename_i i d hi hd
    simp only [Option.some.injEq, Prod.mk.injEq] at h
    obtain ⟨h1, h2⟩ := h
    refine ⟨by simp [sizeOf, typeInfo, hi, h1], ?_⟩
    simp only [isAgg, Sem.run_bind, run_underlying hd, Result.andThen_ok]
    subst h2
    cases d <;> rfl
  · cases h

theorem elT_spec {t e : TypeId} {n m : Nat} (h : elT P t = some (e, n, m)) : P.underlying t = some (.slice e) ∧ ∃ i, P.info? e = some i ∧ i.size = n ∧ i.bytes = m := by
  unfold elT at h
  split at h
  · rename_i e' hu
    obtain ⟨i, hi, h2⟩ := Option.map_eq_some_iff.1 h
    simp only [Prod.mk.injEq] at h2
    obtain ⟨rfl, h3, h4⟩ := h2
    exact ⟨hu, i, hi, h3, h4⟩
  · cases h

theorem arT_spec {t : TypeId} {n m : Nat} (h : arT P t = some (n, m)) : ∃ e i, P.underlying t = some (.array n e) ∧ P.info? e = some i ∧ i.size = m := by
  unfold arT at h
  split at h
  · rename_i n' e' hu
    obtain ⟨i, hi, h2⟩ := Option.map_eq_some_iff.1 h
    simp only [Prod.mk.injEq] at h2
    obtain ⟨rfl, h3⟩ := h2
    exact ⟨e', i, hu, hi, h3⟩
  · cases h

theorem fdT_spec {t : TypeId} {f : Nat} {off n : Nat} {g : Bool} (h : fdT P t f = some (off, n, g)) : ∃ fs fd, P.underlying t = some (.struct fs) ∧ fs[f]? = some fd ∧ fd.offset = off ∧ szT P fd.type = some (n, g) := by
  unfold fdT at h
  split at h
  · rename_i fs hu
    split at h
    · rename_i fd hfd
      obtain ⟨⟨n', g'⟩, h1, h2⟩ := Option.map_eq_some_iff.1 h
      simp only [Prod.mk.injEq] at h2
      obtain ⟨rfl, rfl, rfl⟩ := h2
      exact ⟨fs, fd, hu, hfd, rfl, h1⟩
    · cases h
  · cases h

/-- Some cells in memory, one behind the other. -/
def CellsAt (C : Ctx) (b off : Nat) (cs : List AV) : Prop := ∀ (k : Nat) (x : AV), cs[k]? = some x → ∃ v, Holds C.w b (off + k) v ∧ Rep C x v

theorem CellsAt.choose {b off : Nat} {cs : List AV} (h : CellsAt C b off cs) : ∃ vs : List Value, vs.length = cs.length ∧ (∀ (k : Nat) (v : Value), vs[k]? = some v → Holds C.w b (off + k) v) ∧ ∀ (k : Nat) (x : AV), cs[k]? = some x → ∃ v, vs[k]? = some v ∧ Rep C x v := by
  induction cs generalizing off with
  | nil => exact ⟨[], rfl, fun k v h => by simp at h, fun k x h => by simp at h⟩
  | cons c cs ih =>
    obtain ⟨v, h1, h2⟩ := h 0 c rfl
    obtain ⟨vs, l1, l2, l3⟩ := ih (off := off + 1) (fun k x hk => by
      have := h (k + 1) x (by simpa using hk)
      rwa [show off + (k + 1) = off + 1 + k by omega] at this)
    refine ⟨v :: vs, by simp [l1], fun k u hk => ?_, fun k x hk => ?_⟩
    · cases k with
      | zero => simp at hk; subst hk; simpa using h1
      | succ k => simp at hk; have := l2 k u hk; rwa [show off + 1 + k = off + (k + 1) by omega] at this
    · cases k with
      | zero => simp at hk; subst hk; exact ⟨v, rfl, h2⟩
      | succ k => simp at hk; simpa using l3 k x hk

theorem rep_agg_of {cs : List AV} {vs : List Value} (hl : vs.length = cs.length) (h1 : ∀ (k : Nat) (v : Value), vs[k]? = some v → v.oneCell' = true) (h2 : ∀ (k : Nat) (x : AV), cs[k]? = some x → ∃ v, vs[k]? = some v ∧ Rep C x v) : Rep C (.agg cs) (.agg vs.toArray) := by
  refine .agg cs _ (by simpa using hl) (fun k v h => h1 k v (by simpa using h)) (fun k x h => ?_)
  obtain ⟨v, h3, h4⟩ := h2 k x h
  have : vs.toArray.getD k undef = v := by
    have hk : k < vs.toArray.size := by simpa using (List.getElem?_eq_some_iff.1 h3).1
    have e := getD_of hk
    simp only [List.getElem?_toArray, h3, Option.some.injEq] at e
    exact e.symm
  rw [this]; exact h4

theorem run_load_holds {b o : Nat} {v : Value} (w : World) (h : Holds w b o v) : (load ⟨b, o, none⟩).run P w = .ok v w := by
  rw [run_load, h.1]

/-- A variable of a type is read out of its cells. -/
theorem run_loadVar_cells {t : TypeId} {n : Nat} {g : Bool} (ht : szT P t = some (n, g)) {b off : Nat} {cs : List AV} (hc : CellsAt C b off cs) {r : AV} (hr : partA cs 0 n g = some r) :
    ∃ v, (loadVar t ⟨b, off, none⟩).run P C.w = .ok v C.w ∧ Rep C r v := by
  obtain ⟨h1, h2⟩ := szT_spec ht C.w
  unfold partA at hr
  cases g
  · simp only [Bool.false_eq_true, if_false] at hr
    obtain ⟨v, h3, h4⟩ := hc 0 r hr
    refine ⟨v, ?_, h4⟩
    simp only [loadVar, Sem.run_bind, h2, Result.andThen_ok, Bool.false_eq_true, if_false]
    exact run_load_holds C.w h3
  · simp only [if_true, Nat.zero_add, List.drop_zero] at hr
    split at hr
    · rename_i hle
      simp only [Option.some.injEq] at hr; subst hr
      have hc' : CellsAt C b off (cs.take n) := fun k x hk => by
        rw [List.getElem?_take] at hk
        split at hk
        · exact hc k x hk
        · cases hk
      obtain ⟨vs, l1, l2, l3⟩ := hc'.choose
      have hn : vs.length = n := by rw [l1]; simp; omega
      have hrun := run_loadCells_list (P := P) C.w ⟨b, off, none⟩ vs (fun j v hj => by rw [addr_add]; exact (l2 j v hj).1)
      refine ⟨.agg vs.toArray, ?_, rep_agg_of l1 (fun k v hk => (l2 k v hk).2) l3⟩
      rw [hn] at hrun
      simp [loadVar, h2, h1, hrun]
    · cases hr

/-! ### Addresses -/

theorem aop_load_pp {t : TypeId} {x : Operand} {fl : List AV} {j n : Nat} {g : Bool} {r : AV} (ho : o.op = .load t x) (hx : evalA fr x = some (.pp fl j)) (ht : szT P t = some (n, g)) (hr : partA fl j n g = some r) : AOp P W0 o fr H r H :=
  .of_pure fun C a _ _ hop => by
    have h1 := rep_eval (hop x (by simp [ho, Op.operands])) hx
    generalize hu : a.eval x = u at h1
    cases h1
    case pp b off c hb hn hcell hrec =>
      have hc : CellsAt C b (off + j) (fl.drop j) := fun k y hk => by
        rw [List.getElem?_drop] at hk
        exact ⟨c (j + k), by have := hcell (j + k) y hk; rwa [← Nat.add_assoc] at this, hrec (j + k) y hk⟩
      have hr' : partA (fl.drop j) 0 n g = some r := by
        unfold partA at hr ⊢
        cases g
        · simpa using hr
        · simp only [if_true, Nat.zero_add, List.drop_zero, List.length_drop] at hr ⊢
          split at hr
          · rw [if_pos (by omega)]; exact hr
          · cases hr
      obtain ⟨v, h2, h3⟩ := run_loadVar_cells ht hc hr'
      refine ⟨v, ?_, h3⟩
      simp [execOp, ho, hu, Instr.loadAt, Instr.sureAddr, h2]

theorem cellsAt_obj (hI : Inv W0 C) {id : Nat} {es : List AV} (hid : C.H.get id = some es) (hn : (C.pl id).nil = false) {i : Nat} {e : AV} (he : es[i]? = some e) (j : Nat) :
    CellsAt C (C.pl id).blk (i * (C.pl id).sz + j) (e.flat.drop j) := fun k y hk => by
  rw [List.getElem?_drop] at hk
  have := holds_obj hI hid hn he hk
  rwa [← Nat.add_assoc] at this

theorem partA_drop {cs : List AV} {j n : Nat} {g : Bool} {r : AV} (h : partA cs j n g = some r) : partA (cs.drop j) 0 n g = some r := by
  unfold partA at h ⊢
  cases g
  · simpa using h
  · simp only [if_true, Nat.zero_add, List.drop_zero, List.length_drop] at h ⊢
    split at h
    · rw [if_pos (by omega)]; exact h
    · cases h

theorem aop_load_ref {t : TypeId} {x : Operand} {id i j n : Nat} {g : Bool} {es : List AV} {e r : AV} (ho : o.op = .load t x) (hx : evalA fr x = some (.ref id i j)) (hid : H.get id = some es) (he : es[i]? = some e)
    (ht : szT P t = some (n, g)) (hr : partA e.flat j n g = some r) : AOp P W0 o fr H r H :=
  .of_pure fun C a hI hH hop => by
    subst hH
    have h1 := rep_eval (hop x (by simp [ho, Op.operands])) hx
    generalize hu : a.eval x = u at h1
    cases h1
    case ref =>
      rename_i h1 h3 h2
      obtain ⟨hn, rfl⟩ := h2 es hid
      obtain ⟨v, h4, h5⟩ := run_loadVar_cells ht (cellsAt_obj hI hid hn he j) (partA_drop hr)
      refine ⟨v, ?_, h5⟩
      simp [execOp, ho, hu, Instr.loadAt, Instr.sureAddr, h4]

theorem cellsAt_arr (hI : Inv W0 C) {id : Nat} {es : List AV} (hid : C.H.get id = some es) (hn : (C.pl id).nil = false) (h1 : (C.pl id).sz = 1) (i : Nat) :
    CellsAt C (C.pl id).blk (i * (C.pl id).sz + 0) ((es.drop i).flatMap AV.flat) := by
  have hO := hI.obj id es hid hn
  have key : ∀ (l : List AV) (p : Nat), (∀ (k : Nat) (e : AV), l[k]? = some e → es[p + k]? = some e) → CellsAt C (C.pl id).blk p (l.flatMap AV.flat) := by
    intro l
    induction l with
    | nil => intro p _ k x hk; simp at hk
    | cons e l ih =>
      intro p hl k x hk
      have he : es[p]? = some e := hl 0 e rfl
      have hlen : e.flat.length = 1 := by rw [hO.flat p e he, h1]
      simp only [List.flatMap_cons] at hk
      cases k with
      | zero =>
        rw [List.getElem?_append_left (by omega)] at hk
        have := holds_obj hI hid hn he hk
        rw [h1, Nat.mul_one] at this
        exact this
      | succ k =>
        rw [List.getElem?_append_right (by omega), hlen] at hk
        have := ih (p + 1) (fun m e hm => by have := hl (m + 1) e (by simpa using hm); rwa [show p + (m + 1) = p + 1 + m by omega] at this) k x (by simpa using hk)
        rwa [show p + 1 + k = p + (k + 1) by omega] at this
  have := key (es.drop i) i (fun k e hk => by rwa [List.getElem?_drop] at hk)
  rwa [h1, Nat.mul_one, Nat.add_zero]

/-- A whole array, out of its elements of one cell. -/
theorem aop_load_arr {t : TypeId} {x : Operand} {id i n : Nat} {es : List AV} {e : AV} (ho : o.op = .load t x) (hx : evalA fr x = some (.ref id i 0)) (hid : H.get id = some es) (he : es[i]? = some e) (h1 : e.flat.length = 1)
    (ht : szT P t = some (n, true)) (hn : n ≤ ((es.drop i).flatMap AV.flat).length) : AOp P W0 o fr H (.agg (((es.drop i).flatMap AV.flat).take n)) H :=
  .of_pure fun C a hI hH hop => by
    subst hH
    have h2 := rep_eval (hop x (by simp [ho, Op.operands])) hx
    generalize hu : a.eval x = u at h2
    cases h2
    case ref =>
      rename_i h2 h4 h3
      obtain ⟨hnil, rfl⟩ := h3 es hid
      have hsz : (C.pl id).sz = 1 := by rw [← (hI.obj id es hid hnil).flat i e he]; exact h1
      obtain ⟨v, h5, h6⟩ := run_loadVar_cells ht (cellsAt_arr hI hid hnil hsz i) (r := .agg (((es.drop i).flatMap AV.flat).take n)) (by simp only [partA, if_true, Nat.zero_add, List.drop_zero]; rw [if_pos hn])
      refine ⟨v, ?_, h6⟩
      simp [execOp, ho, hu, Instr.loadAt, Instr.sureAddr] at h5 ⊢
      simp [h5]

end
end Go.Av
