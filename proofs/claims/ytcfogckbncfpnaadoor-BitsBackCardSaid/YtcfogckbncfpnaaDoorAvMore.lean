/- More rules for numbers. -/
import Derived.Test.YtcfogckbncfpnaaDoorAvWeak
namespace Go.Av
section
variable {P : Program} {W0 : World} {fr : Fr} {H : Heap} {o : Oper}

theorem toNat_inj64 (a b : BitVec 64) : ((a.toNat : Int) = (b.toNat : Int)) ↔ a = b :=
  ⟨fun h => BitVec.eq_of_toNat_eq (by omega), fun h => by rw [h]⟩

theorem aop_eql64 {t t' : TypeId} {x y : Operand} {a b : BitVec 64} (ho : o.op = .binOp .eql t x y t') (hx : evalA fr x = some (u64 a)) (hy : evalA fr y = some (u64 b)) : AOp P W0 o fr H (bl (decide (a = b))) H :=
  (aop_eql ho hx hy).conv (by congr 2; exact propext (toNat_inj64 a b))
theorem aop_neq64 {t t' : TypeId} {x y : Operand} {a b : BitVec 64} (ho : o.op = .binOp .neq t x y t') (hx : evalA fr x = some (u64 a)) (hy : evalA fr y = some (u64 b)) : AOp P W0 o fr H (bl (decide (a ≠ b))) H :=
  (aop_neq ho hx hy).conv (by congr 2; exact propext (not_congr (toNat_inj64 a b)))

theorem aop_neg64 {t : TypeId} {x : Operand} {a : BitVec 64} (ho : o.op = .unOp .neg t x) (hx : evalA fr x = some (u64 a)) : AOp P W0 o fr H (u64 (-a)) H :=
  aop_un ho hx rfl (by
    show pvOk P (Pure.pure _) = _
    have e : IntKind.u64.wrap (0 - (a.toNat : Int)) = ((-a).toNat : Int) := by
      rw [wrapu]
      congr 2
      apply BitVec.eq_of_toNat_eq
      have := a.isLt
      rw [BitVec.toNat_ofInt, BitVec.toNat_neg]; omega
    rw [e]; rfl)

theorem aop_quo64 {t t' : TypeId} {x y : Operand} {a b : BitVec 64} (ho : o.op = .binOp .quo t x y t') (hx : evalA fr x = some (u64 a)) (hy : evalA fr y = some (u64 b)) (h0 : b ≠ 0#64) : AOp P W0 o fr H (u64 (a / b)) H :=
  aop_quo ho hx hy (fun h => h0 (BitVec.eq_of_toNat_eq (by simpa using h))) (by
    have e : (a.toNat : Int).tdiv b.toNat = ((a / b).toNat : Int) := by
      rw [BitVec.toNat_udiv]; rfl
    rw [e, u64_wrap])
theorem aop_rem64 {t t' : TypeId} {x y : Operand} {a b : BitVec 64} (ho : o.op = .binOp .rem t x y t') (hx : evalA fr x = some (u64 a)) (hy : evalA fr y = some (u64 b)) (h0 : b ≠ 0#64) : AOp P W0 o fr H (u64 (a % b)) H :=
  aop_rem ho hx hy (fun h => h0 (BitVec.eq_of_toNat_eq (by simpa using h))) (by rw [BitVec.toNat_umod]; rfl)

theorem aop_app_view {t ty e : TypeId} {s by' : Nat} {z : Value} {x y : Operand} (hT : ElT P t e s by' z) (ho : o.op = .call { callee := .builtin .append, args := #[x, y], argTypes := #[t, t] }) (hty : o.type = ty) {ay : AV} {id : Nat} {es : List AV} (hx : evalA fr x = some (.view id 0 es.length)) (hid : H.get id = some es) (hs : H.sz id = some s) (hy : evalA fr y = some ay) {ys : List AV} (hys : ay.elems H = some ys)
    (hfe : ∀ x ∈ es, x.flat.length = s) (hfy : ∀ x ∈ ys, x.flat.length = s) (hsz : (es.length + ys.length) * by' ≤ 140737488355328) : AOp P W0 o fr H (.view H.next 0 (es ++ ys).length) ((H.del id).push s (es ++ ys)) :=
  (aop_append_view hT ho hty hx hid hs hy hys hfe hfy hsz).conv (by rw [List.length_append])

theorem of_not_t {p : Prop} [Decidable p] (h : (!decide p) = true) : ¬ p := fun hp => by rw [decide_eq_true hp] at h; cases h
theorem of_not_f {p : Prop} [Decidable p] (h : (!decide p) = false) : p := Classical.byContradiction fun hp => by rw [decide_eq_false hp] at h; cases h

/-- A slice that lies in one own object, under its own name. -/
theorem Held.one {H : Heap} {g : List (Nat × Nat)} {nw : List Nat} {next n old s : Nat} {es : List AV} (h1 : lk g n = some old) (h2 : lk H.objs old = some (s, es)) (h3 : ∀ e ∈ es, NoId e) (h4 : n < next) : Held H g nw next [(n, (s, es))] :=
  ⟨.inl ⟨old, es, h1, h2, .same h3⟩, h4, trivial⟩
theorem Held.new {H : Heap} {g : List (Nat × Nat)} {nw : List Nat} {next n s : Nat} (h1 : n ∈ nw) (h4 : n < next) : Held H g nw next [(n, (s, []))] :=
  ⟨.inr ⟨h1, rfl⟩, h4, trivial⟩

end
section
variable {P : Program} {W0 : World} {N : Nat} {Q : Exit → St → Prop} {fr : List (Nat × AV)} {H : Heap}
theorem awp_reg {id : Nat} {l : List Oper} (hN : l.all (dstOk N) = true) (h : AR P W0 l.toArray l fr H (fun f g => Q .normal ⟨f, g⟩)) : AWP P W0 N (.region id l.toArray false) ⟨fr, H⟩ Q := awp_region hN h
theorem awp_drw {id : Nat} {l : List Oper} (hm : P.follows .mixedOrders = true) (hB : Region.lexB .any l.toArray = true) (hN : l.all (dstOk N) = true) (h : ARQ P W0 l.toArray H l fr (fun f => Q .normal ⟨f, H⟩)) : AWP P W0 N (.region id l.toArray true) ⟨fr, H⟩ Q := awp_draw hm hB hN h
theorem awp_drw_tail {id : Nat} {l : List Oper} (n : Nat) (hm : P.follows .mixedOrders = true) (hB : Region.lexTailB .any l.toArray n = true) (hN : l.all (dstOk N) = true)
    (h : ARQ P W0 l.toArray H (l.take n) fr (fun f => AR P W0 l.toArray (l.drop n) f H (fun f g => Q .normal ⟨f, g⟩))) : AWP P W0 N (.region id l.toArray true) ⟨fr, H⟩ Q := awp_draw_tail n hm hB hN h
theorem Weak.kp {fr' : List (Nat × AV)} (h : Keeps fr fr') : Weak W0 N ⟨fr, H⟩ ⟨fr', H⟩ := .keep h
end
end Go.Av
namespace Go.Av
abbrev i64l (l : List Nat) : List AV := l.map fun (k : Nat) => i64 (k : Int)
abbrev ints (l : List Nat) : AV := .sl (i64l l)
theorem i64l_snoc (l : List Nat) (k : Nat) : i64l (l ++ [k]) = i64l l ++ [i64 (k : Int)] := by simp [i64l]
theorem flat_i64s {l : List Nat} : ∀ x ∈ i64l l, x.flat.length = 1 := fun x hx => by
  simp only [i64l, List.mem_map] at hx
  obtain ⟨k, _, rfl⟩ := hx; rfl
theorem noId_i64s {l : List Nat} : ∀ e ∈ i64l l, NoId e := fun x hx => by
  simp only [i64l, List.mem_map] at hx
  obtain ⟨k, _, rfl⟩ := hx; simp
theorem noId_snoc {l : List Nat} {k : Int} : ∀ e ∈ i64l l ++ [i64 k], NoId e := fun x hx => by
  rcases List.mem_append.1 hx with h | h
  · exact noId_i64s x h
  · simp at h; subst h; simp
theorem frz_view (es : List AV) : AV.frz ⟨1, [(0, (1, es))]⟩ (.view 0 0 es.length) = .sl es := by
  show AV.sl ((es.drop 0).take es.length) = _
  simp
theorem AV.view_take (es : List AV) : ((es.drop 0).take es.length) = es := by simp
theorem tab_part {l : List Nat} {m k : Nat} (h : l[m]? = some k) : partA ((l.map fun (k : Nat) => Value.int .u8 (k : Int)).map .imm) m 1 false = some (.imm (.int .u8 (k : Int))) := by
  show ((l.map _).map _)[m]? = _
  simp [h]
theorem get_i64l (l : List Nat) {k : Nat} (h : k < l.length) : (i64l l)[k]? = some (i64 (l[k] : Nat)) := by simp [i64l, h]
theorem get_i64s (l : List Int) {k : Nat} (h : k < l.length) : (l.map i64)[k]? = some (i64 l[k]) := by simp [h]

def AV.wide : AV → AV
  | .clip es => .sl es
  | x => x

theorem rep_wide {C : Ctx} {x : AV} {v : Value} (h : Rep C x v) : Rep C x.wide v := by
  cases x with
  | clip es =>
    match h with
    | .clipNil a => exact .slNil a 0
    | .clip _ b off sz c h1 h2 h3 h4 h5 => exact .sl es b off sz es.length c h1 h2 (Nat.le_refl _) h3 h4 h5
  | _ => exact h

theorem evalA_wide {fr : Fr} {x : Operand} {r : AV} (h : evalA fr x = some r) : ∀ (C : Ctx) (a : Act), RepO C fr a x → Rep C r.wide (a.eval x) := fun _ _ hr => rep_wide (rep_eval hr h)

/-- A call of what only reads; what has no room behind it is a slice like others. -/
theorem aop_call1w {P : Program} {W0 : World} {fr : Fr} {H : Heap} {o : Oper} {f : FuncId} {args : Array Operand} {tys : Array TypeId} {ys xs : List AV} {r : AV} (ho : o.op = .call { callee := .value (.func f), args := args, argTypes := tys }) (hys : args.toList.mapM (evalA fr) = some ys) (hxs : ys.map AV.wide = xs) (hno : ∀ x ∈ xs, NoId x) (hf : Fun1 P W0 f xs r) : AOp P W0 o fr H r H := by
  intro C a hI hH hop K Q hK
  unfold Oper.wp
  rw [resolve_func ho hf.call, Oper.upon_enter]
  obtain ⟨m1, m2⟩ := mapM_eval args.toList ys hys
  have hI1 : Inv W0 (C.bare (fun b => C.prot b ∨ C.own b)) := hI.bare (fun b hb => by
    rcases hb with h | h
    · exact hI.protlt b h
    · exact hI.own_lt h) (fun b hb => by
    rcases hb with h | h
    · exact hI.protge b h
    · exact hI.own_ge h)
  have hrep : ∀ (k : Nat) (x : AV), xs[k]? = some x → Rep (C.bare (fun b => C.prot b ∨ C.own b)) x ((args.map a.eval).getD k undef) := fun k x hx => by
    have hx0 := hx
    rw [← hxs] at hx
    simp only [List.getElem?_map, Option.map_eq_some_iff] at hx
    obtain ⟨z, hz, rfl⟩ := hx
    obtain ⟨y, g1, g2⟩ := m2 k z hz
    have hy : args[k]? = some y := by simpa using g1
    have hlt : k < (args.map a.eval).size := by have := (Array.getElem?_eq_some_iff.1 hy).1; simpa using this
    have e : (args.map a.eval).getD k undef = a.eval y := by
      have := getD_of hlt
      rw [Array.getElem?_map, hy] at this
      exact (Option.some.inj this).symm
    rw [e]
    have hmem : y ∈ o.op.operands := by rw [ho]; simp [Op.operands, Call.operands]; exact .inr (Array.mem_of_getElem? hy)
    exact (rep_wide (rep_eval (hop y hmem) g2)).bare (hno _ (List.mem_of_getElem? hx0)) (fun b hb h => hb (h.elim .inr .inl))
  refine (hf.runs _ (args.map a.eval) hI1 rfl (by rw [← hxs]; simpa using m1.symm) hrep).mono ?_
  rintro e w' ⟨v, C1, rfl, rfl, hE, hI', hr⟩
  have hB := below_of_ext hE (bare_own _)
  have hB' : RowKit.Below C.w.heap.size C.w C1.w := hB
  refine hK v (C.inW C1.w) (ext_of_block hB') (hI.inW hB') hH (hr.move hf.noid (Nat.le_refl _) (fun b hb hn => ⟨rfl, fun h => hn ?_⟩))
  rcases h with h | h
  · exact .inr (by rw [hE.prot]; exact .inr h)
  · exact .inr (by rw [hE.prot]; exact .inl h)
@[simp] theorem ofV_int (k : IntKind) (n : Int) : AV.ofV (.int k n) = .imm (.int k n) := rfl
@[simp] theorem ofV_bool (b : Bool) : AV.ofV (.bool b) = .imm (.bool b) := rfl
@[simp] theorem wide_clip (es : List AV) : (AV.clip es).wide = .sl es := rfl
@[simp] theorem wide_sl (es : List AV) : (AV.sl es).wide = .sl es := rfl
@[simp] theorem wide_imm (v : Value) : (AV.imm v).wide = .imm v := rfl
theorem noId_u64s {l : List (BitVec 64)} : NoId (u64s l) := by simp
theorem noId_snoc64 {l : List (BitVec 64)} {k : BitVec 64} : ∀ e ∈ l.map u64 ++ [k].map u64, NoId e := fun x hx => by
  rw [← List.map_append] at hx
  simp only [List.mem_map] at hx
  obtain ⟨k, _, rfl⟩ := hx; simp
theorem flat_u64s {l : List (BitVec 64)} : ∀ x ∈ l.map u64, x.flat.length = 1 := fun x hx => by
  simp only [List.mem_map] at hx
  obtain ⟨k, _, rfl⟩ := hx; rfl
theorem see_i64 {H : Heap} {g : List (Nat × Nat)} {nw : List Nat} {m n : Int} (h : m = n) : See H g nw (i64 m) (i64 n) := h ▸ .same _ (.imm _)
theorem lend_view (es : List AV) : [AV.view 0 0 es.length].map (AV.lend ⟨1, [(0, (1, es))]⟩) = [.sl es] := by
  show [AV.sl ((es.drop 0).take es.length)] = _
  simp
theorem aop_and127 {P : Program} {W0 : World} {fr : Fr} {H : Heap} {o : Oper} {t t' : TypeId} {x y : Operand} {a : BitVec 64} {r : Nat} (ho : o.op = .binOp .and t x y t') (hx : evalA fr x = some (i64 (a.toNat : Int))) (hy : evalA fr y = some (i64 127)) (hr : a.toNat % 128 = r) : AOp P W0 o fr H (i64 (r : Int)) H :=
  aop_int ho hx hy (fun w => by
    have e : (a &&& BitVec.ofInt 64 127).toNat = a.toNat % 128 := by
      rw [BitVec.toNat_and]
      exact Nat.and_two_pow_sub_one_eq_mod a.toNat 7
    have e2 : IntKind.i64.wrap ((a &&& BitVec.ofInt 64 127).toNat : Int) = (r : Int) := by
      rw [e, hr, i64_wrap (by omega) (by omega)]
    simp only [binOp, ne_eq, not_true_eq_false, if_false, Op.intBits, IntKind.bits, bv_ofInt]
    show Result.ok (Value.int .i64 (IntKind.i64.wrap ((a &&& BitVec.ofInt 64 127).toNat : Int))) w = _
    rw [e2]) rfl
end Go.Av
