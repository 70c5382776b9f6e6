/- Memory that is made, and written. -/
import Derived.Test.YtcfogckbncfpnaaDoorAvAddr
namespace Go.Av
open Go.RowKit (Below)

/-- The element with some cells of it replaced. -/
def AV.putFlat (e : AV) (j : Nat) (fl : List AV) : AV :=
  match e with
  | .agg cs => .agg (cs.take j ++ fl ++ cs.drop (j + fl.length))
  | _ => fl.headD .any

section
variable {P : Program} {W0 : World} {C : Ctx} {fr : Fr} {a : Act} {H : Heap} {o : Oper}

theorem AOp.of_skip {H' : Heap}
    (h : ∀ (C : Ctx) (a : Act), Inv W0 C → C.H = H → (∀ x ∈ o.op.operands, RepO C fr a x) →
      ∃ C', (execOp a.eval o).run P C.w = .ok .skip C'.w ∧ Ext C C' ∧ Inv W0 C' ∧ C'.H = H') : AOp P W0 o fr H .any H' := by
  intro C a hI hH hx K Q hK
  obtain ⟨C', hr, h1, h2, h3⟩ := h C a hI hH hx
  unfold Oper.wp
  rw [hr]
  exact hK undef C' h1 h2 h3 (.any _)

theorem rep_flat_one {x : AV} {v : Value} (h : Rep C x v) (h1 : v.oneCell' = true) : x.flat = [x] := by
  cases h <;> first | rfl | (simp [Value.oneCell'] at h1)

theorem cells_one {v : Value} (h1 : v.oneCell' = true) : v.cells = #[v] := by
  cases v <;> first | rfl | (simp [Value.oneCell'] at h1)

/-- The cells of a value that is known. -/
theorem rep_cells {x : AV} {v : Value} (hr : Rep C x v) (hs : x.solid = true) :
    v.cells.size = x.flat.length ∧ (∀ (k : Nat) (u : Value), v.cells[k]? = some u → u.oneCell' = true) ∧ ∀ (k : Nat) (y : AV), x.flat[k]? = some y → ∃ u, v.cells[k]? = some u ∧ Rep C y u := by
  have one : v.oneCell' = true → v.cells.size = x.flat.length ∧ (∀ (k : Nat) (u : Value), v.cells[k]? = some u → u.oneCell' = true) ∧ ∀ (k : Nat) (y : AV), x.flat[k]? = some y → ∃ u, v.cells[k]? = some u ∧ Rep C y u := by
    intro h1
    rw [cells_one h1, rep_flat_one hr h1]
    refine ⟨rfl, fun k u hk => ?_, fun k y hk => ?_⟩
    · cases k with
      | zero => simp at hk; subst hk; exact h1
      | succ k => simp at hk
    · cases k with
      | zero => simp at hk; subst hk; exact ⟨v, rfl, hr⟩
      | succ k => simp at hk
  cases hr
  case any => cases hs
  case tuple => cases hs
  case agg cs vs hsz h1 hx =>
    refine ⟨hsz, h1, fun k y hk => ?_⟩
    have hlt : k < vs.size := by rw [hsz]; exact (List.getElem?_eq_some_iff.1 hk).1
    exact ⟨_, getD_of hlt, hx k y hk⟩
  case imm h1 => exact one h1
  case view => exact one (by assumption)
  case ref => exact one (by assumption)
  all_goals exact one rfl

theorem splice_get {α : Type} (cur vs : List α) (p : Nat) (h : p + vs.length ≤ cur.length) (k : Nat) :
    (cur.take p ++ vs ++ cur.drop (p + vs.length))[k]? = if k < p then cur[k]? else if k < p + vs.length then vs[k - p]? else cur[k]? := by
  by_cases h1 : k < p
  · rw [if_pos h1, List.append_assoc, List.getElem?_append_left (by simp; omega), List.getElem?_take, if_pos h1]
  · rw [if_neg h1]
    by_cases h2 : k < p + vs.length
    · rw [if_pos h2, List.getElem?_append_left (by simp; omega), List.getElem?_append_right (by simp; omega)]
      congr 1; simp; omega
    · rw [if_neg h2, List.getElem?_append_right (by simp; omega), List.getElem?_drop]
      congr 1; simp; omega

theorem run_storeVar_splice {t : TypeId} {n : Nat} {g : Bool} (ht : szT P t = some (n, g)) {w : World} {b p : Nat} {arr : Array Value} {el : TypeId} (harr : w.heap[b]? = some (.cells arr el (0, 0))) {v : Value} (hn : v.cells.size = n)
    (hp : p + n ≤ arr.size) (h1 : ∀ (k : Nat) (u : Value), v.cells[k]? = some u → u.oneCell' = true) :
    (storeVar t ⟨b, p, none⟩ v).run P w = .ok () (w.setRow b (arr.toList.take p ++ v.cells.toList ++ arr.toList.drop (p + n)).toArray) := by
  obtain ⟨hs, _⟩ := szT_spec ht w
  have := run_storeCells_at P b p el v.cells.toList 0 arr w harr (by simp; omega) (fun u hu => by
    obtain ⟨k, hk⟩ := List.getElem?_of_mem hu
    exact h1 k u (by simpa using hk))
  simp only [Nat.add_zero, Array.length_toList, hn] at this
  simp [storeVar, hs, hn, this]

/-- A store into an object of the proof's own. -/
theorem aop_store {t : TypeId} {x y : Operand} {id i j n : Nat} {g : Bool} {es : List AV} {e e' ay : AV} (ho : o.op = .store t x y) (hx : evalA fr x = some (.ref id i j)) (hy : evalA fr y = some ay) (hsol : ay.solid = true)
    (hid : H.get id = some es) (he : es[i]? = some e) (ht : szT P t = some (n, g)) (hn : ay.flat.length = n) (hj : j + n ≤ e.flat.length) (he' : e'.flat = e.flat.take j ++ ay.flat ++ e.flat.drop (j + n)) :
    AOp P W0 o fr H .any (H.set id (es.set i e')) :=
  .of_skip fun C a hI hH hop => by
    subst hH
    have hrx := rep_eval (hop x (by simp [ho, Op.operands])) hx
    have hry := rep_eval (hop y (by simp [ho, Op.operands])) hy
    generalize hux : a.eval x = ux at hrx
    generalize huy : a.eval y = v at hry
    obtain ⟨c1, c2, c3⟩ := rep_cells hry hsol
    rw [hn] at c1
    cases hrx
    case ref =>
      rename_i hid' h3 h4
      obtain ⟨hnil, rfl⟩ := h4 es hid
      have hO := hI.obj id es hid hnil
      obtain ⟨arr, el, harr, hcap⟩ := hO.blk
      have hi : i < es.length := (List.getElem?_eq_some_iff.1 he).1
      have hel : e.flat.length = (C.pl id).sz := hO.flat i e he
      have hi1 : (i + 1) * (C.pl id).sz ≤ (C.pl id).cap * (C.pl id).sz := Nat.mul_le_mul_right _ (by have := hO.n; have := hO.cap; omega)
      have hi2 : (i + 1) * (C.pl id).sz = i * (C.pl id).sz + (C.pl id).sz := by rw [Nat.add_mul, Nat.one_mul]
      have hp : i * (C.pl id).sz + j + n ≤ arr.size := by omega
      have hrun := run_storeVar_splice (P := P) ht harr c1 hp c2
      have hlen : ∀ q, (arr.toList.take (i * (C.pl id).sz + j) ++ v.cells.toList ++ arr.toList.drop (i * (C.pl id).sz + j + n))[q]? =
          if q < i * (C.pl id).sz + j then arr.toList[q]? else if q < i * (C.pl id).sz + j + n then v.cells.toList[q - (i * (C.pl id).sz + j)]? else arr.toList[q]? := fun q => by
        have := splice_get arr.toList v.cells.toList (i * (C.pl id).sz + j) (by simp [c1]; omega) q
        simpa [c1] using this
      have hfl' : e'.flat.length = (C.pl id).sz := by rw [he']; simp; omega
      have hw := write_object hI hid hnil harr (arr.toList.take (i * (C.pl id).sz + j) ++ v.cells.toList ++ arr.toList.drop (i * (C.pl id).sz + j + n)).toArray (by simp [c1]; omega) (es.set i e') (by simp)
        (fun u hu => by
          obtain ⟨q, hq⟩ := Array.getElem?_of_mem hu
          have hq' := hq
          simp only [List.getElem?_toArray] at hq'
          rw [hlen q] at hq'
          have old : arr.toList[q]? = some u → u.oneCell' = true := fun h => hO.one q u (by rw [cell_cells harr]; simpa using h)
          split at hq'
          · exact old hq'
          · split at hq'
            · exact c2 _ u (by simpa using hq')
            · exact old hq')
        (fun i' e2 h2 => by
          by_cases hii : i' = i
          · subst hii
            rw [List.getElem?_set_self hi] at h2
            cases h2; exact hfl'
          · rw [List.getElem?_set_ne (Ne.symm hii)] at h2
            exact hO.flat i' e2 h2)
        (fun i' j' e2 x2 u h2 h5 h6 => by
          simp only [List.getElem?_toArray] at h6
          rw [hlen] at h6
          have old : ∀ (e0 : AV), es[i']? = some e0 → e0.flat[j']? = some x2 → arr.toList[i' * (C.pl id).sz + j']? = some u → Rep C x2 u := fun e0 g1 g2 g3 =>
            hO.cell i' j' e0 x2 u g1 g2 (by rw [cell_cells harr]; simpa using g3)
          by_cases hii : i' = i
          · subst hii
            rw [List.getElem?_set_self hi] at h2
            cases h2
            rw [he'] at h5
            have h5' := splice_get e.flat ay.flat j (by omega) j'
            rw [hn] at h5'
            rw [h5'] at h5
            split at h5
            · rename_i hlt
              rw [if_pos (by omega)] at h6
              exact old e he h5 h6
            · rename_i hge
              split at h5
              · rename_i hlt2
                rw [if_neg (by omega), if_pos (by omega)] at h6
                obtain ⟨u', g1, g2⟩ := c3 _ x2 h5
                have : i' * (C.pl id).sz + j' - (i' * (C.pl id).sz + j) = j' - j := by omega
                rw [this] at h6
                simp only [Array.getElem?_toList] at h6
                rw [g1] at h6
                cases h6; exact g2
              · rename_i hge2
                rw [if_neg (by omega), if_neg (by omega)] at h6
                exact old e he h5 h6
          · rw [List.getElem?_set_ne (Ne.symm hii)] at h2
            have hj' : j' < (C.pl id).sz := by rw [← hO.flat i' e2 h2]; exact (List.getElem?_eq_some_iff.1 h5).1
            have hout : i' * (C.pl id).sz + j' < i * (C.pl id).sz + j ∨ i * (C.pl id).sz + j + n ≤ i' * (C.pl id).sz + j' := by
              rcases Nat.lt_or_ge i' i with hlt | hge
              · have : (i' + 1) * (C.pl id).sz ≤ i * (C.pl id).sz := Nat.mul_le_mul_right _ hlt
                rw [Nat.add_mul, Nat.one_mul] at this
                omega
              · have : (i + 1) * (C.pl id).sz ≤ i' * (C.pl id).sz := Nat.mul_le_mul_right _ (by omega)
                omega
            rcases hout with hlt | hge
            · rw [if_pos hlt] at h6; exact old e2 h2 h5 h6
            · rw [if_neg (by omega), if_neg (by omega)] at h6; exact old e2 h2 h5 h6)
      refine ⟨_, ?_, hw.1, hw.2, rfl⟩
      simp [execOp, ho, hux, huy, Instr.storeAt, Instr.sureAddr, hrun]
      rfl

/-! ### New variables -/

theorem new_var (hI : Inv W0 C) {x : AV} {v : Value} (hr : Rep C x v) (hs : x.solid = true) (t : TypeId) (sz : Nat) (es : List AV) (hes : (es = [x] ∧ sz = x.flat.length) ∨ (x = .agg es ∧ sz = 1)) :
    ∃ C', C'.w = C.w.alloc (.cells v.cells t) ∧ Ext C C' ∧ Inv W0 C' ∧ C'.H = C.H.push sz es ∧ Rep C' (.ref C.H.next 0 0) (.pointer (some ⟨C.w.heap.size, 0, none⟩)) := by
  obtain ⟨c1, c2, c3⟩ := rep_cells hr hs
  have hone : ∀ u ∈ v.cells, u.oneCell' = true := fun u hu => by
    obtain ⟨k, hk⟩ := Array.getElem?_of_mem hu; exact c2 k u hk
  have fin : ∀ (cap : Nat), (Ext C ((C.inW (C.w.alloc (.cells v.cells t (0, 0)))).push ⟨C.w.heap.size, sz, es.length, cap, false⟩ es) ∧ Inv W0 ((C.inW (C.w.alloc (.cells v.cells t (0, 0)))).push ⟨C.w.heap.size, sz, es.length, cap, false⟩ es)) →
      ∃ C', C'.w = C.w.alloc (.cells v.cells t) ∧ Ext C C' ∧ Inv W0 C' ∧ C'.H = C.H.push sz es ∧ Rep C' (.ref C.H.next 0 0) (.pointer (some ⟨C.w.heap.size, 0, none⟩)) := by
    intro cap h
    refine ⟨_, rfl, h.1, h.2, rfl, rep_ref_of rfl (Nat.lt_succ_self _) (fun es' he => ?_)⟩
    have hp : ((C.inW (C.w.alloc (.cells v.cells t (0, 0)))).push ⟨C.w.heap.size, sz, es.length, cap, false⟩ es).pl C.H.next = ⟨C.w.heap.size, sz, es.length, cap, false⟩ := Ctx.pl_push_new (C := C.inW _) _ _
    rw [hp]
    exact ⟨rfl, rfl, by simp⟩
  rcases hes with ⟨rfl, rfl⟩ | ⟨rfl, rfl⟩
  · refine fin 1 (new_object hI v.cells t [x] x.flat.length 1 (by omega) (by simp) hone (fun i e he => ?_) (fun i j e y u he hy hu => ?_))
    · cases i with
      | zero => simp at he; subst he; rfl
      | succ i => simp at he
    · cases i with
      | zero =>
        simp at he; subst he
        obtain ⟨u', g1, g2⟩ := c3 j y hy
        rw [Nat.zero_mul, Nat.zero_add, g1] at hu
        cases hu; exact g2
      | succ i => simp at he
  · have hfl : ∀ (i : Nat) (e : AV), es[i]? = some e → e.flat = [e] := fun i e he => by
      obtain ⟨u, g1, g2⟩ := c3 i e he
      exact rep_flat_one g2 (c2 i u g1)
    refine fin es.length (new_object hI v.cells t es 1 es.length (by rw [c1]; simp [AV.flat]) (Nat.le_refl _) hone (fun i e he => by rw [hfl i e he]; rfl) (fun i j e y u he hy hu => ?_))
    rw [hfl i e he] at hy
    cases j with
    | zero =>
      simp at hy; subst hy
      obtain ⟨u', g1, g2⟩ := c3 i e he
      rw [Nat.mul_one, Nat.add_zero, g1] at hu
      cases hu; exact g2
    | succ j => simp at hy

theorem aop_box {t : TypeId} {x : Operand} {ax : AV} (sz : Nat) (es : List AV) (ho : o.op = .box t x) (hx : evalA fr x = some ax) (hs : ax.solid = true) (hes : (es = [ax] ∧ sz = ax.flat.length) ∨ (ax = .agg es ∧ sz = 1)) : AOp P W0 o fr H (.ref H.next 0 0) (H.push sz es) :=
  .of_run fun C a hI hH hop => by
    subst hH
    have hr := rep_eval (hop x (by simp [ho, Op.operands])) hx
    obtain ⟨C', h1, h2, h3, h4, h5⟩ := new_var hI hr hs t sz es hes
    refine ⟨_, C', ?_, h2, h3, h4, h5⟩
    simp [execOp, ho, Instr.box, newVar, newRow, h1]

theorem aop_alloc {t : TypeId} {z : Value} (sz : Nat) (es : List AV) (ho : o.op = .alloc t) (hz : zrT P t = some z) (hk : z.okV = true) (hes : (es = [AV.ofV z] ∧ sz = (AV.ofV z).flat.length) ∨ (AV.ofV z = .agg es ∧ sz = 1)) : AOp P W0 o fr H (.ref H.next 0 0) (H.push sz es) :=
  .of_run fun C a hI hH hop => by
    subst hH
    have hr : Rep C (.ofV z) z := rep_ofV hk
    have hs : (AV.ofV z).solid = true := by cases z <;> rfl
    obtain ⟨C', h1, h2, h3, h4, h5⟩ := new_var hI hr hs t sz es hes
    refine ⟨_, C', ?_, h2, h3, h4, h5⟩
    unfold zrT at hz
    cases hi : P.info? t with
    | none => simp [hi] at hz
    | some i =>
      simp only [hi, Option.bind_some] at hz
      simp [execOp, ho, Instr.alloc, zeroValue, typeInfo, hi, hz, newVar, newRow, h1]

end
end Go.Av
