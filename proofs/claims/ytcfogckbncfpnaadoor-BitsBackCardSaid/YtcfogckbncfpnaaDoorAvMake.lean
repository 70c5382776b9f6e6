/- Slices that are made: literals, make, append, copy. -/
import Derived.Test.YtcfogckbncfpnaaDoorAvMem
namespace Go.Av
open Go.RowKit (Below)

section
variable {P : Program} {W0 : World} {C : Ctx} {fr : Fr} {a : Act} {H : Heap} {o : Oper}

theorem foldl_put (vs : List Value) (off : Nat) : ∀ (k : Nat) (cells : Array Value),
    ((vs.zipIdx k).foldl (fun (cs : Array Value) (p : Value × Nat) => cs.setIfInBounds (off + p.2) p.1) cells).size = cells.size ∧
    ∀ q, (off + k + vs.length ≤ cells.size) → ((vs.zipIdx k).foldl (fun (cs : Array Value) (p : Value × Nat) => cs.setIfInBounds (off + p.2) p.1) cells)[q]? =
      if off + k ≤ q ∧ q < off + k + vs.length then vs[q - (off + k)]? else cells[q]? := by
  induction vs with
  | nil => intro k cells; refine ⟨rfl, fun q _ => ?_⟩; rw [if_neg (by simp)]; rfl
  | cons v vs ih =>
    intro k cells
    obtain ⟨h1, h2⟩ := ih (k + 1) (cells.setIfInBounds (off + k) v)
    simp only [List.zipIdx_cons, List.foldl_cons]
    refine ⟨by rw [h1]; simp, fun q hq => ?_⟩
    simp only [List.length_cons] at hq
    rw [h2 q (by simp; omega)]
    by_cases hlt : off + k ≤ q ∧ q < off + k + (vs.length + 1)
    · rw [List.length_cons, if_pos hlt]
      by_cases h0 : q = off + k
      · subst h0
        rw [if_neg (by omega)]
        simp only [Nat.sub_self, List.getElem?_cons_zero]
        rw [Array.getElem?_setIfInBounds_self_of_lt (by omega)]
      · rw [if_pos (by omega)]
        rw [show q - (off + k) = (q - (off + (k + 1))) + 1 by omega, List.getElem?_cons_succ]
    · rw [List.length_cons, if_neg hlt, if_neg (by omega), Array.getElem?_setIfInBounds_ne (by omega)]

theorem fill_seq (size : Nat) : ∀ (vs : List Value) (k : Nat) (cells : Array Value), (∀ v ∈ vs, v.cells.size = size) → (k + vs.length) * size ≤ cells.size →
    ∃ cells', Instr.fill (fun i => some (i * size, size)) cells ((vs.zipIdx k).map fun p => (p.2, p.1)) = some cells' ∧ cells'.size = cells.size ∧ (∀ q, q < k * size → cells'[q]? = cells[q]?) ∧
      ∀ (i : Nat) (v : Value), vs[i]? = some v → ∀ j, j < size → cells'[(k + i) * size + j]? = v.cells[j]? := by
  intro vs
  induction vs with
  | nil => intro k cells _ _; exact ⟨cells, rfl, rfl, fun _ _ => rfl, fun i v h => by simp at h⟩
  | cons v vs ih =>
    intro k cells hv hsz
    have hvs : v.cells.size = size := hv v (by simp)
    have e1 : (k + (vs.length + 1)) * size = k * size + (vs.length * size + size) := by rw [Nat.add_mul, Nat.add_mul, Nat.one_mul]
    have e2 : (k + 1 + vs.length) * size = k * size + (vs.length * size + size) := by rw [Nat.add_mul, Nat.add_mul, Nat.one_mul]; omega
    simp only [List.length_cons] at hsz
    rw [e1] at hsz
    obtain ⟨g1, g2⟩ := foldl_put v.cells.toList (k * size) 0 cells
    have hg : v.cells.zipIdx.foldl (fun cs (p : Value × Nat) => cs.setIfInBounds (k * size + p.2) p.1) cells = (v.cells.toList.zipIdx 0).foldl (fun cs (p : Value × Nat) => cs.setIfInBounds (k * size + p.2) p.1) cells := by
      rw [← Array.foldl_toList]; simp
    have hl : v.cells.toList.length = size := by simpa using hvs
    have g3 := fun q => g2 q (by simp only [Array.length_toList, hvs]; omega)
    obtain ⟨cells', f1, f2, f3, f4⟩ := ih (k + 1) ((v.cells.toList.zipIdx 0).foldl (fun cs (p : Value × Nat) => cs.setIfInBounds (k * size + p.2) p.1) cells) (fun u hu => hv u (by simp [hu])) (by rw [g1, e2]; omega)
    have e3 : (k + 1) * size = k * size + size := by rw [Nat.add_mul, Nat.one_mul]
    refine ⟨cells', ?_, by rw [f2, g1], fun q hq => ?_, fun i u hu j hj => ?_⟩
    · simp only [List.zipIdx_cons, List.map_cons, Instr.fill]
      rw [if_neg (by simp only [hvs, ne_eq, not_true_eq_false, false_or, Bool.or_eq_true, decide_eq_true_eq]; omega)]
      have hfun : (fun (cs : Array Value) (x : Value × Nat) => cs.setIfInBounds (k * size + x.snd) x.fst) = (fun cs (p : Value × Nat) => cs.setIfInBounds (k * size + p.2) p.1) := rfl
      first
        | (rw [hg]; exact f1)
        | (simp only [] at *; rw [← hg] at f1; exact f1)
    · rw [f3 q (by omega), g3 q, if_neg (by omega)]
    · cases i with
      | zero =>
        simp at hu; subst hu
        rw [Nat.add_zero, f3 _ (by omega), g3, if_pos (by rw [hl]; omega)]
        simp only [Nat.add_zero, Nat.add_sub_cancel_left, Array.getElem?_toList]
      | succ i =>
        simp at hu
        have := f4 i u hu j hj
        rwa [show k + 1 + i = k + (i + 1) by omega] at this

theorem mapM_eval (xo : List Operand) : ∀ (xs : List AV), xo.mapM (evalA fr) = some xs → xs.length = xo.length ∧ ∀ (k : Nat) (x : AV), xs[k]? = some x → ∃ y, xo[k]? = some y ∧ evalA fr y = some x := by
  induction xo with
  | nil => intro xs h; simp only [List.mapM_nil, Option.pure_def, Option.some.injEq] at h; subst h; exact ⟨rfl, fun k x hk => by simp at hk⟩
  | cons y l ih =>
    intro xs h
    rw [List.mapM_cons] at h
    simp only [Option.bind_eq_bind, Option.bind_eq_some_iff, Option.pure_def, Option.some.injEq] at h
    obtain ⟨z, hz, zs, hzs, rfl⟩ := h
    obtain ⟨h1, h2⟩ := ih zs hzs
    refine ⟨by simp [h1], fun k x hk => ?_⟩
    cases k with
    | zero => simp at hk; subst hk; exact ⟨y, by simp, hz⟩
    | succ k => simp at hk; simpa using h2 k x hk

/-- A new block that is nobody's own: a slice that stays as it is. -/
theorem new_clip (hI : Inv W0 C) (es : List AV) (arr : Array Value) (el : TypeId) (sz : Nat) (hone : ∀ v ∈ arr, v.oneCell' = true) (hfl : ∀ (i : Nat) (e : AV), es[i]? = some e → e.flat.length = sz)
    (hcell : ∀ (i j : Nat) (e x : AV), es[i]? = some e → e.flat[j]? = some x → ∃ v, arr[i * sz + j]? = some v ∧ Rep C x v) :
    Ext C (C.inW (C.w.alloc (.cells arr el))) ∧ Inv W0 (C.inW (C.w.alloc (.cells arr el))) ∧ Rep (C.inW (C.w.alloc (.cells arr el))) (.clip es) (.slice (some ⟨C.w.heap.size, 0, none⟩) es.length es.length) := by
  have hb := below_alloc C.w (.cells arr el)
  have hE : Ext C (C.inW (C.w.alloc (.cells arr el))) := ext_of_block hb
  refine ⟨hE, hI.inW hb, ?_⟩
  refine .clip es C.w.heap.size 0 sz (fun i j => arr.getD (i * sz + j) undef) (by show _ < (C.w.alloc _).heap.size; rw [alloc_size]; omega) ?_ hfl (fun i j e x h1 h2 => ?_) (fun i j e x h1 h2 => ?_)
  · rintro (ho | hp)
    · exact Nat.lt_irrefl _ (hI.own_lt ho)
    · exact Nat.lt_irrefl _ (hI.protlt _ hp)
  · obtain ⟨v, g1, g2⟩ := hcell i j e x h1 h2
    have hlt := (Array.getElem?_eq_some_iff.1 g1).1
    have hv : arr.getD (i * sz + j) undef = v := by have := getD_of hlt; rw [g1] at this; exact (Option.some.inj this).symm
    refine ⟨?_, by rw [hv]; exact hone v (Array.mem_of_getElem? g1)⟩
    show (C.w.alloc _).cell? _ = _
    rw [cell_cells (alloc_heap C.w _), hv, Nat.zero_add]; exact g1
  · obtain ⟨v, g1, g2⟩ := hcell i j e x h1 h2
    have hlt := (Array.getElem?_eq_some_iff.1 g1).1
    have hv : arr.getD (i * sz + j) undef = v := by have := getD_of hlt; rw [g1] at this; exact (Option.some.inj this).symm
    rw [hv]; exact g2.ext hE

theorem aop_buildSlice {t e : TypeId} {s by' len : Nat} {parts : Array (Nat × Operand)} {xo : List Operand} {xs : List AV} (ho : o.op = .buildSlice t len parts) (hp : parts.toList = xo.zipIdx.map fun p => (p.2, p.1)) (hlen : len = xo.length)
    (hxs : xo.mapM (evalA fr) = some xs) (hsol : ∀ x ∈ xs, x.solid = true) (hfl : ∀ x ∈ xs, x.flat.length = s) (ht : elT P t = some (e, s, by')) (hz : (zrT P e).isSome = true) (hsmall : len * s ≤ 16777216) :
    AOp P W0 o fr H (.clip xs) H :=
  .of_run fun C a hI hH hop => by
    obtain ⟨hu, i, hi, hs, _⟩ := elT_spec ht
    unfold zrT at hz
    rw [hi] at hz
    obtain ⟨z, hz⟩ := Option.isSome_iff_exists.1 hz
    simp only [Option.bind_some] at hz
    obtain ⟨m1, m2⟩ := mapM_eval xo xs hxs
    have hops : o.op.operands = (parts.toList.map (·.2)).toArray := by simp [ho, Op.operands]
    have hrep : ∀ (k : Nat) (x : AV), xs[k]? = some x → ∃ y, xo[k]? = some y ∧ Rep C x (a.eval y) := fun k x hk => by
      obtain ⟨y, g1, g2⟩ := m2 k x hk
      refine ⟨y, g1, rep_eval (hop y ?_) g2⟩
      rw [hops, hp]
      simp only [List.mem_toArray, List.map_map, List.mem_map]
      exact ⟨(y, k), by rw [List.mem_zipIdx_iff_getElem?]; exact g1, rfl⟩
    let vs := xo.map a.eval
    have hv1 : ∀ v ∈ vs, v.cells.size = s := fun v hv => by
      obtain ⟨k, hk⟩ := List.getElem?_of_mem hv
      simp only [vs, List.getElem?_map, Option.map_eq_some_iff] at hk
      obtain ⟨y, g1, rfl⟩ := hk
      have hlt : k < xs.length := by rw [m1]; exact (List.getElem?_eq_some_iff.1 g1).1
      obtain ⟨y', g2, g3⟩ := hrep k _ (List.getElem?_eq_getElem hlt)
      rw [g1] at g2; cases g2
      rw [(rep_cells g3 (hsol _ (List.getElem_mem hlt))).1]
      exact hfl _ (List.getElem_mem hlt)
    have hsz0 : ∀ n, ((Array.range (len * s)).map (fun q => (n : Array Value)[q % n.size]!)).size = len * s := fun n => by simp
    obtain ⟨cells', f1, f2, f3, f4⟩ := fill_seq s vs 0 ((Array.range (len * s)).map (fun q => ((if len * s = 0 then #[] else z.cells : Array Value))[q % (if len * s = 0 then #[] else z.cells : Array Value).size]!)) hv1
      (by rw [hsz0, hlen]; simp [vs])
    have hcells : cells'.size = len * s := by rw [f2, hsz0]
    have hget : ∀ (k j : Nat) (x y : AV), xs[k]? = some x → x.flat[j]? = some y → ∃ v, cells'[k * s + j]? = some v ∧ Rep C y v := fun k j x y hk hj => by
      obtain ⟨yo, g1, g2⟩ := hrep k x hk
      have hm := List.mem_of_getElem? hk
      obtain ⟨c1, c2, c3⟩ := rep_cells g2 (hsol x hm)
      obtain ⟨u, g3, g4⟩ := c3 j y hj
      have hjs : j < s := by rw [← hfl x hm]; exact (List.getElem?_eq_some_iff.1 hj).1
      have := f4 k (a.eval yo) (by simp only [vs, List.getElem?_map, g1]; rfl) j hjs
      rw [Nat.zero_add] at this
      exact ⟨u, by rw [this]; exact g3, g4⟩
    have hone : ∀ u ∈ cells', u.oneCell' = true := fun u hu => by
      obtain ⟨q, hq⟩ := Array.getElem?_of_mem hu
      have hqlt : q < len * s := by rw [← hcells]; exact (Array.getElem?_eq_some_iff.1 hq).1
      have hs0 : 0 < s := by
        rcases Nat.eq_zero_or_pos s with h | h
        · subst h; simp at hqlt
        · exact h
      have hk : q / s < len := Nat.div_lt_of_lt_mul (by rwa [Nat.mul_comm] at hqlt)
      have hkx : q / s < xs.length := by rw [m1, ← hlen]; exact hk
      obtain ⟨yo, g1, g2⟩ := hrep (q / s) _ (List.getElem?_eq_getElem hkx)
      obtain ⟨c1, c2, c3⟩ := rep_cells g2 (hsol _ (List.getElem_mem hkx))
      have := f4 (q / s) (a.eval yo) (by simp only [vs, List.getElem?_map, g1]; rfl) (q % s) (Nat.mod_lt _ hs0)
      rw [Nat.zero_add, show q / s * s + q % s = q by rw [Nat.mul_comm]; exact Nat.div_add_mod q s, hq] at this
      exact c2 _ u this.symm
    obtain ⟨h1, h2, h3⟩ := new_clip hI xs cells' e s hone (fun k x hk => hfl x (List.mem_of_getElem? hk)) hget
    refine ⟨_, _, ?_, h1, h2, hH, h3⟩
    have hmap : (parts.toList.map fun (p : Nat × Operand) => (p.1, a.eval p.2)) = (vs.zipIdx 0).map fun p => (p.2, p.1) := by
      rw [hp]
      simp only [vs, List.zipIdx_map, List.map_map]
      rfl
    have hlit : ¬ (16777216 < len * s) := by omega
    have hrun : (Instr.buildSlice t len (parts.map fun (p : Nat × Operand) => (p.1, a.eval p.2))).run P C.w = .ok (.slice (some ⟨C.w.heap.size, 0, none⟩) len len) (C.w.alloc (.cells cells' e)) := by
      by_cases h0 : len * s = 0
      · simp only [h0, if_true] at f1
        have f1' : Instr.fill (fun i => some (i * s, s)) #[] ((vs.zipIdx 0).map fun p => (p.2, p.1)) = some cells' := by
          have e0 : (Array.map (fun q => (#[] : Array Value)[q % (#[] : Array Value).size]!) (Array.range 0)) = #[] := Array.eq_empty_of_size_eq_zero (by simp)
          rw [e0] at f1; exact f1
        have e1 : ∀ g : Nat → Value, Array.map g (Array.range 0) = #[] := fun g => Array.eq_empty_of_size_eq_zero (by simp)
        simp [Instr.buildSlice, run_underlying hu, sizeOf, typeInfo, hi, hs, h0, hmap, e1, f1', newRow]
      · simp only [h0, if_false] at f1
        simp [Instr.buildSlice, run_underlying hu, sizeOf, typeInfo, hi, hs, hz, h0, hlit, hmap, f1, newRow, zeroValue]
    have hl2 : xs.length = len := by rw [m1, hlen]
    rw [hl2]
    simp only [execOp, ho]
    rw [Sem.run_bind, hrun]
    rfl

end
end Go.Av
