/- The rules by which a proof goes through a text: numbers and bools in plain forms. -/
import Derived.Test.YtcfogckbncfpnaaDoorAvCall
import Derived.IntWalk
import Derived.Laws.StructEq
namespace Go.Av

abbrev u64 (x : BitVec 64) : AV := .imm (.int .u64 (x.toNat : Int))
abbrev i64 (n : Int) : AV := .imm (.int .i64 n)
abbrev bl (b : Bool) : AV := .imm (.bool b)
abbrev nilS : AV := .imm (.slice none 0 0)

section
variable {P : Program} {W0 : World} {fr : Fr} {H : Heap} {o : Oper}

/-- Both operands are known integers of one kind: what the operation gives. -/
theorem aop_int {op : BinOp} {t t' : TypeId} {x y : Operand} {k : IntKind} {m n : Int} {v : Value} (ho : o.op = .binOp op t x y t') (hx : evalA fr x = some (.imm (.int k m))) (hy : evalA fr y = some (.imm (.int k n)))
    (h : ∀ w, (binOp op t (.int k m) (.int k n)).run P w = .ok v w) (hv : v.oneCell' = true) : AOp P W0 o fr H (.imm v) H :=
  .of_pure fun C a _ _ hr => by
    have e1 := rep_toV (v := .int k m) rfl (rep_eval (hr x (by simp [ho, Op.operands])) hx)
    have e2 := rep_toV (v := .int k n) rfl (rep_eval (hr y (by simp [ho, Op.operands])) hy)
    refine ⟨v, ?_, .imm v hv⟩
    have hg : (eqGuard op t x y (.int k m) (.int k n)).run P C.w = .ok () C.w := by
      unfold eqGuard
      split <;> rfl
    simp only [execOp, ho, e1, e2, Sem.run_bind, hg, Result.andThen_ok, h C.w]
    rfl

theorem aop_lss {t t' : TypeId} {x y : Operand} {k : IntKind} {m n : Int} (ho : o.op = .binOp .lss t x y t') (hx : evalA fr x = some (.imm (.int k m))) (hy : evalA fr y = some (.imm (.int k n))) : AOp P W0 o fr H (bl (decide (m < n))) H :=
  aop_int ho hx hy (fun w => by simp [binOp, Op.intCmp]) rfl
theorem aop_leq {t t' : TypeId} {x y : Operand} {k : IntKind} {m n : Int} (ho : o.op = .binOp .leq t x y t') (hx : evalA fr x = some (.imm (.int k m))) (hy : evalA fr y = some (.imm (.int k n))) : AOp P W0 o fr H (bl (decide (m ≤ n))) H :=
  aop_int ho hx hy (fun w => by simp [binOp, Op.intCmp]) rfl
theorem aop_gtr {t t' : TypeId} {x y : Operand} {k : IntKind} {m n : Int} (ho : o.op = .binOp .gtr t x y t') (hx : evalA fr x = some (.imm (.int k m))) (hy : evalA fr y = some (.imm (.int k n))) : AOp P W0 o fr H (bl (decide (n < m))) H :=
  aop_int ho hx hy (fun w => by simp [binOp, Op.intCmp]) rfl
theorem aop_geq {t t' : TypeId} {x y : Operand} {k : IntKind} {m n : Int} (ho : o.op = .binOp .geq t x y t') (hx : evalA fr x = some (.imm (.int k m))) (hy : evalA fr y = some (.imm (.int k n))) : AOp P W0 o fr H (bl (decide (n ≤ m))) H :=
  aop_int ho hx hy (fun w => by simp [binOp, Op.intCmp]) rfl
theorem aop_eql {t t' : TypeId} {x y : Operand} {k : IntKind} {m n : Int} (ho : o.op = .binOp .eql t x y t') (hx : evalA fr x = some (.imm (.int k m))) (hy : evalA fr y = some (.imm (.int k n))) : AOp P W0 o fr H (bl (decide (m = n))) H :=
  aop_int ho hx hy (fun w => by simp [binOp, Op.intCmp]; by_cases h : m = n <;> simp [h]) rfl
theorem aop_neq {t t' : TypeId} {x y : Operand} {k : IntKind} {m n : Int} (ho : o.op = .binOp .neq t x y t') (hx : evalA fr x = some (.imm (.int k m))) (hy : evalA fr y = some (.imm (.int k n))) : AOp P W0 o fr H (bl (decide (m ≠ n))) H :=
  aop_int ho hx hy (fun w => by simp [binOp, Op.intCmp]; by_cases h : m = n <;> simp [h, bne]) rfl
theorem aop_add {t t' : TypeId} {x y : Operand} {k : IntKind} {m n s : Int} (ho : o.op = .binOp .add t x y t') (hx : evalA fr x = some (.imm (.int k m))) (hy : evalA fr y = some (.imm (.int k n))) (hs : k.wrap (m + n) = s) : AOp P W0 o fr H (.imm (.int k s)) H :=
  aop_int ho hx hy (fun w => by simp [binOp, Op.intArith, hs]) rfl
theorem aop_sub {t t' : TypeId} {x y : Operand} {k : IntKind} {m n s : Int} (ho : o.op = .binOp .sub t x y t') (hx : evalA fr x = some (.imm (.int k m))) (hy : evalA fr y = some (.imm (.int k n))) (hs : k.wrap (m - n) = s) : AOp P W0 o fr H (.imm (.int k s)) H :=
  aop_int ho hx hy (fun w => by simp [binOp, Op.intArith, hs]) rfl
theorem aop_mul {t t' : TypeId} {x y : Operand} {k : IntKind} {m n s : Int} (ho : o.op = .binOp .mul t x y t') (hx : evalA fr x = some (.imm (.int k m))) (hy : evalA fr y = some (.imm (.int k n))) (hs : k.wrap (m * n) = s) : AOp P W0 o fr H (.imm (.int k s)) H :=
  aop_int ho hx hy (fun w => by simp [binOp, Op.intArith, hs]) rfl
theorem aop_quo {t t' : TypeId} {x y : Operand} {k : IntKind} {m n s : Int} (ho : o.op = .binOp .quo t x y t') (hx : evalA fr x = some (.imm (.int k m))) (hy : evalA fr y = some (.imm (.int k n))) (h0 : n ≠ 0) (hs : k.wrap (m.tdiv n) = s) : AOp P W0 o fr H (.imm (.int k s)) H :=
  aop_int ho hx hy (fun w => by simp [binOp, Op.intDiv, h0, hs]) rfl
theorem aop_rem {t t' : TypeId} {x y : Operand} {k : IntKind} {m n s : Int} (ho : o.op = .binOp .rem t x y t') (hx : evalA fr x = some (.imm (.int k m))) (hy : evalA fr y = some (.imm (.int k n))) (h0 : n ≠ 0) (hs : m.tmod n = s) : AOp P W0 o fr H (.imm (.int k s)) H :=
  aop_int ho hx hy (fun w => by simp [binOp, Op.intDiv, h0, hs]) rfl

theorem bv_ofInt (x : BitVec 64) : BitVec.ofInt 64 (x.toNat : Int) = x := by simp
theorem u64_wrap (x : BitVec 64) : IntKind.u64.wrap (x.toNat : Int) = x.toNat := by
  have := x.isLt
  simp only [IntKind.wrap, IntKind.signed, IntKind.bits, Bool.false_and, Bool.false_eq_true, if_false]
  omega

theorem aop_or {t t' : TypeId} {x y : Operand} {a b : BitVec 64} (ho : o.op = .binOp .or t x y t') (hx : evalA fr x = some (u64 a)) (hy : evalA fr y = some (u64 b)) : AOp P W0 o fr H (u64 (a ||| b)) H :=
  aop_int ho hx hy (fun w => by simp only [binOp, ne_eq, not_true_eq_false, if_false, Op.intBits, IntKind.bits, bv_ofInt, u64_wrap]; rfl) rfl
theorem aop_and {t t' : TypeId} {x y : Operand} {a b : BitVec 64} (ho : o.op = .binOp .and t x y t') (hx : evalA fr x = some (u64 a)) (hy : evalA fr y = some (u64 b)) : AOp P W0 o fr H (u64 (a &&& b)) H :=
  aop_int ho hx hy (fun w => by simp only [binOp, ne_eq, not_true_eq_false, if_false, Op.intBits, IntKind.bits, bv_ofInt, u64_wrap]; rfl) rfl
theorem aop_xor {t t' : TypeId} {x y : Operand} {a b : BitVec 64} (ho : o.op = .binOp .xor t x y t') (hx : evalA fr x = some (u64 a)) (hy : evalA fr y = some (u64 b)) : AOp P W0 o fr H (u64 (a ^^^ b)) H :=
  aop_int ho hx hy (fun w => by simp only [binOp, ne_eq, not_true_eq_false, if_false, Op.intBits, IntKind.bits, bv_ofInt, u64_wrap]; rfl) rfl
theorem aop_andNot {t t' : TypeId} {x y : Operand} {a b : BitVec 64} (ho : o.op = .binOp .andNot t x y t') (hx : evalA fr x = some (u64 a)) (hy : evalA fr y = some (u64 b)) : AOp P W0 o fr H (u64 (a &&& ~~~b)) H :=
  aop_int ho hx hy (fun w => by simp only [binOp, ne_eq, not_true_eq_false, if_false, Op.intBits, IntKind.bits, bv_ofInt, u64_wrap]; rfl) rfl

theorem aop_not {t : TypeId} {x : Operand} {b : Bool} (ho : o.op = .unOp .not t x) (hx : evalA fr x = some (bl b)) : AOp P W0 o fr H (bl (!b)) H :=
  aop_un ho hx rfl (by rfl)

theorem aop_eqb {t t' : TypeId} {x y : Operand} {p q : Bool} (ho : o.op = .binOp .eql t x y t') (hx : evalA fr x = some (bl p)) (hy : evalA fr y = some (bl q)) (ht : P.underlying t = some .bool) : AOp P W0 o fr H (bl (p == q)) H :=
  .of_pure fun C a _ _ hr => by
    have e1 := rep_toV (v := .bool p) rfl (rep_eval (hr x (by simp [ho, Op.operands])) hx)
    have e2 := rep_toV (v := .bool q) rfl (rep_eval (hr y (by simp [ho, Op.operands])) hy)
    refine ⟨.bool (p == q), ?_, .imm _ rfl⟩
    have hg : (eqGuard .eql t x y (.bool p) (.bool q)).run P C.w = .ok () C.w := rfl
    have hb : (binOp .eql t (.bool p) (.bool q)).run P C.w = .ok (.bool (p == q)) C.w := run_eql_bool C.w t p q ht
    simp only [execOp, ho, e1, e2, Sem.run_bind, hg, Result.andThen_ok, hb]
    rfl

end
theorem AOp.conv {P : Program} {W0 : World} {o : Oper} {fr : Fr} {H H' : Heap} {r r' : AV} (h : AOp P W0 o fr H r H') (e : r = r') : AOp P W0 o fr H r' H' := e ▸ h
theorem AOp.tt {P : Program} {W0 : World} {o : Oper} {fr : Fr} {H H' : Heap} {p : Prop} [Decidable p] (h : AOp P W0 o fr H (bl (decide p)) H') (hp : p) : AOp P W0 o fr H (bl true) H' := h.conv (by rw [decide_eq_true hp])
theorem AOp.ff {P : Program} {W0 : World} {o : Oper} {fr : Fr} {H H' : Heap} {p : Prop} [Decidable p] (h : AOp P W0 o fr H (bl (decide p)) H') (hp : ¬ p) : AOp P W0 o fr H (bl false) H' := h.conv (by rw [decide_eq_false hp])

theorem awp_cond_t {P : Program} {W0 : World} {N : Nat} {st : St} {Q : Exit → St → Prop} {c : Operand} {x y : Code} (hc : evalA (lk st.fr) c = some (bl true)) (h : AWP P W0 N x st Q) : AWP P W0 N (.cond c x y) st Q :=
  awp_cond hc (fun _ => h) (fun h => by cases h)
theorem awp_cond_f {P : Program} {W0 : World} {N : Nat} {st : St} {Q : Exit → St → Prop} {c : Operand} {x y : Code} (hc : evalA (lk st.fr) c = some (bl false)) (h : AWP P W0 N y st Q) : AWP P W0 N (.cond c x y) st Q :=
  awp_cond hc (fun h => by cases h) (fun _ => h)

section
variable {P : Program} {W0 : World} {fr : Fr} {H : Heap} {o : Oper}

theorem run_neq_bool {t : TypeId} (w : World) (a b : Bool) (h : P.underlying t = some .bool) : (binOp .neq t (.bool a) (.bool b)).run P w = .ok (.bool (!(a == b))) w := by
  have := run_equal_bool w t a b h
  simp [binOp, this]

theorem aop_neb {t t' : TypeId} {x y : Operand} {p q : Bool} (ho : o.op = .binOp .neq t x y t') (hx : evalA fr x = some (bl p)) (hy : evalA fr y = some (bl q)) (ht : P.underlying t = some .bool) : AOp P W0 o fr H (bl (!(p == q))) H :=
  .of_pure fun C a _ _ hr => by
    have e1 := rep_toV (v := .bool p) rfl (rep_eval (hr x (by simp [ho, Op.operands])) hx)
    have e2 := rep_toV (v := .bool q) rfl (rep_eval (hr y (by simp [ho, Op.operands])) hy)
    refine ⟨.bool (!(p == q)), ?_, .imm _ rfl⟩
    have hg : (eqGuard .neq t x y (.bool p) (.bool q)).run P C.w = .ok () C.w := rfl
    simp only [execOp, ho, e1, e2, Sem.run_bind, hg, Result.andThen_ok, run_neq_bool C.w p q ht]
    rfl

theorem wrapu (n : Int) : IntKind.u64.wrap n = ((BitVec.ofInt 64 n).toNat : Int) := by
  rw [BitVec.toNat_ofInt]
  simp only [IntKind.wrap, IntKind.signed, IntKind.bits, Bool.false_and, Bool.false_eq_true, if_false]
  omega

theorem aop_add64 {t t' : TypeId} {x y : Operand} {a b : BitVec 64} (ho : o.op = .binOp .add t x y t') (hx : evalA fr x = some (u64 a)) (hy : evalA fr y = some (u64 b)) : AOp P W0 o fr H (u64 (a + b)) H :=
  aop_add ho hx hy (by
    have e : BitVec.ofInt 64 ((a.toNat : Int) + b.toNat) = a + b := by
      apply BitVec.eq_of_toNat_eq
      rw [BitVec.toNat_ofInt, BitVec.toNat_add]; omega
    rw [wrapu, e])
theorem aop_sub64 {t t' : TypeId} {x y : Operand} {a b : BitVec 64} (ho : o.op = .binOp .sub t x y t') (hx : evalA fr x = some (u64 a)) (hy : evalA fr y = some (u64 b)) : AOp P W0 o fr H (u64 (a - b)) H :=
  aop_sub ho hx hy (by
    have e : BitVec.ofInt 64 ((a.toNat : Int) - b.toNat) = a - b := by
      apply BitVec.eq_of_toNat_eq
      have := a.isLt; have := b.isLt
      rw [BitVec.toNat_ofInt, BitVec.toNat_sub]; omega
    rw [wrapu, e])
theorem aop_mul64 {t t' : TypeId} {x y : Operand} {a b : BitVec 64} (ho : o.op = .binOp .mul t x y t') (hx : evalA fr x = some (u64 a)) (hy : evalA fr y = some (u64 b)) : AOp P W0 o fr H (u64 (a * b)) H :=
  aop_mul ho hx hy (by
    have e : BitVec.ofInt 64 ((a.toNat : Int) * b.toNat) = a * b := by
      apply BitVec.eq_of_toNat_eq
      rw [BitVec.toNat_ofInt, BitVec.toNat_mul]
      have : (a.toNat : Int) * (b.toNat : Int) = ((a.toNat * b.toNat : Nat) : Int) := by simp
      rw [this]; omega
    rw [wrapu, e])

/-- Both operands integers, perhaps of two kinds. -/
theorem aop_shift {op : BinOp} {t t' : TypeId} {x y : Operand} {k k' : IntKind} {m n : Int} {v : Value} (ho : o.op = .binOp op t x y t') (hx : evalA fr x = some (.imm (.int k m))) (hy : evalA fr y = some (.imm (.int k' n)))
    (h : ∀ w, (binOp op t (.int k m) (.int k' n)).run P w = .ok v w) (hv : v.oneCell' = true) : AOp P W0 o fr H (.imm v) H :=
  .of_pure fun C a _ _ hr => by
    have e1 := rep_toV (v := .int k m) rfl (rep_eval (hr x (by simp [ho, Op.operands])) hx)
    have e2 := rep_toV (v := .int k' n) rfl (rep_eval (hr y (by simp [ho, Op.operands])) hy)
    refine ⟨v, ?_, .imm v hv⟩
    have hg : (eqGuard op t x y (.int k m) (.int k' n)).run P C.w = .ok () C.w := by
      unfold eqGuard
      split <;> rfl
    simp only [execOp, ho, e1, e2, Sem.run_bind, hg, Result.andThen_ok, h C.w]
    rfl

theorem aop_shl64 {t t' : TypeId} {x y : Operand} {a : BitVec 64} {k' : IntKind} {n : Int} (ho : o.op = .binOp .shl t x y t') (hx : evalA fr x = some (u64 a)) (hy : evalA fr y = some (.imm (.int k' n))) (h0 : 0 ≤ n) (h64 : n < 64) : AOp P W0 o fr H (u64 (a <<< n.toNat)) H :=
  aop_shift ho hx hy (fun w => by
    have hn : ¬ n < 0 := by omega
    have hm : min n.toNat 64 = n.toNat := by omega
    simp only [binOp, Op.shift, hn, if_false, IntKind.bits, hm, wrapu]
    show Result.ok _ w = Result.ok _ w
    congr 4
    apply BitVec.eq_of_toNat_eq
    rw [BitVec.toNat_ofInt, BitVec.toNat_shiftLeft, Nat.shiftLeft_eq]
    have : (a.toNat : Int) * 2 ^ n.toNat = ((a.toNat * 2 ^ n.toNat : Nat) : Int) := by simp
    rw [this]; omega) rfl
theorem aop_shr64 {t t' : TypeId} {x y : Operand} {a : BitVec 64} {k' : IntKind} {n : Int} (ho : o.op = .binOp .shr t x y t') (hx : evalA fr x = some (u64 a)) (hy : evalA fr y = some (.imm (.int k' n))) (h0 : 0 ≤ n) (h64 : n < 64) : AOp P W0 o fr H (u64 (a >>> n.toNat)) H :=
  aop_shift ho hx hy (fun w => by
    have hn : ¬ n < 0 := by omega
    have hm : min n.toNat 64 = n.toNat := by omega
    simp only [binOp, Op.shift, hn, if_false, IntKind.bits, hm]
    show Result.ok _ w = Result.ok _ w
    congr 2
    rw [BitVec.toNat_ushiftRight, Nat.shiftRight_eq_div_pow]
    have : (2 : Int) ^ n.toNat = ((2 ^ n.toNat : Nat) : Int) := by simp
    rw [this, Int.fdiv_eq_ediv_of_nonneg _ (Int.natCast_nonneg _)]
    simp) rfl

theorem aop_conv {s d : TypeId} {x : Operand} {k k' : IntKind} {n m : Int} (ho : o.op = .convert s d x) (hx : evalA fr x = some (.imm (.int k n))) (hs : P.underlying s = some (.int k)) (hd : P.underlying d = some (.int k')) (hm : k'.wrap n = m) : AOp P W0 o fr H (.imm (.int k' m)) H :=
  .of_pure fun C a _ _ hr => by
    have e1 := rep_toV (v := .int k n) rfl (rep_eval (hr x (by simp [ho, Op.operands])) hx)
    refine ⟨.int k' m, ?_, .imm _ rfl⟩
    simp only [execOp, ho, e1, Sem.run_bind, convert, run_underlying hs, run_underlying hd, Result.andThen_ok, Conv.intToInt, Sem.run_pure, hm]

theorem aop_len_view {t e : TypeId} {s by' : Nat} {x : Operand} {id off len : Nat} {es : List AV} (ho : o.op = .call { callee := .builtin .len, args := #[x], argTypes := #[t] }) (hx : evalA fr x = some (.view id off len)) (hid : H.get id = some es) (ht : elT P t = some (e, s, by')) :
    AOp P W0 o fr H (i64 len) H :=
  .of_pure fun C a hI hH hop => by
    subst hH
    have hr := rep_eval (hop x (by simp [ho, Op.operands, Call.operands])) hx
    obtain ⟨hu, _⟩ := elT_spec ht
    generalize hux : a.eval x = u at hr
    have hu2 : ∃ ad cap, u = .slice ad len cap := match hr with
      | .view _ _ _ _ _ hs _ => by
        have := hs es hid
        unfold SliceAt at this
        split at this
        · obtain ⟨_, rfl, ad, h⟩ := this; exact ⟨ad, 0, h⟩
        · obtain ⟨ad, cap, h, _⟩ := this; exact ⟨some ad, cap, h⟩
    obtain ⟨ad, cap, rfl⟩ := hu2
    refine ⟨.int .i64 len, ?_, .imm _ rfl⟩
    obtain ⟨cs, hb⟩ := run_builtin (P := P) ho a
    rw [hb]
    have e : (#[x].map a.eval) = #[.slice ad len cap] := by simp [hux]
    rw [e]
    simp [builtin, Builtin.len_, run_underlying hu, goInt]

theorem aop_field {t : TypeId} {x : Operand} {f off n : Nat} {g : Bool} {cs : List AV} {r : AV} (ho : o.op = .field t x f) (hx : evalA fr x = some (.agg cs)) (hf : fdT P t f = some (off, n, g)) (hr : partA cs off n g = some r) : AOp P W0 o fr H r H :=
  .of_pure fun C a _ _ hop => by
    have h1 := rep_eval (hop x (by simp [ho, Op.operands])) hx
    generalize hu : a.eval x = u at h1
    obtain ⟨fs, fd, h2, h3, h4, h5⟩ := fdT_spec hf
    obtain ⟨h6, h7⟩ := szT_spec h5 C.w
    match h1 with
    | .agg _ vs hs hone hrep =>
    unfold partA at hr
    cases g
    · simp only [Bool.false_eq_true, if_false] at hr
      have hlt : off < vs.size := by rw [hs]; exact (List.getElem?_eq_some_iff.1 hr).1
      refine ⟨vs.getD off undef, ?_, hrep off r hr⟩
      have e := getD_of hlt
      simp only [execOp, ho, hu]
      generalize vs.getD off undef = q at e
      simp [Instr.field, run_underlying h2, h3, asAgg, part, h7, h4, e]
    · simp only [if_true] at hr
      split at hr
      · rename_i hle
        simp only [Option.some.injEq] at hr; subst hr
        refine ⟨.agg (vs.extract off (off + n)), ?_, ?_⟩
        · simp only [execOp, ho, hu]
          simp [Instr.field, run_underlying h2, h3, asAgg, part, h7, h4, h6]
        · have hsz : (vs.extract off (off + n)).size = n := by simp; omega
          have hget : ∀ k, k < n → (vs.extract off (off + n))[k]? = vs[off + k]? := fun k hk => by
            rw [Array.getElem?_extract]; rw [if_pos (by omega)]
          refine .agg _ _ (by rw [hsz]; simp; omega) (fun k v hk => ?_) (fun k x hk => ?_)
          · have hkn : k < n := by have := (Array.getElem?_eq_some_iff.1 hk).1; omega
            rw [hget k hkn] at hk
            exact hone _ v hk
          · rw [List.getElem?_take] at hk
            split at hk
            · rename_i hkn
              rw [List.getElem?_drop] at hk
              have hlt : off + k < vs.size := by rw [hs]; exact (List.getElem?_eq_some_iff.1 hk).1
              have : (vs.extract off (off + n)).getD k undef = vs.getD (off + k) undef := by
                have e1 := getD_of (vs := vs.extract off (off + n)) (k := k) (by omega)
                rw [hget k hkn, getD_of hlt] at e1
                exact (Option.some.inj e1).symm
              rw [this]; exact hrep _ x hk
            · cases hk
      · cases hr

end

/-- A table of the program's, that stands as it stood at first. -/
theorem aop_index_glob {W0 : World} {P : Program} {fr : Fr} {H : Heap} {o : Oper} {t : TypeId} {N : Nat} {g : Nat} {i : Operand} {fl : List AV} {vs : List Value} {k : IntKind} {n : Int} {m : Nat} (ho : o.op = .indexAddr t (.global g) i) (hi : evalA fr i = some (.imm (.int k n)))
    (ht : arT P t = some (N, 1)) (hn : n = m) (hm : m < N) (hfl : fl = vs.map .imm) (hT : ∀ (j : Nat) (v : Value), vs[j]? = some v → W0.cell? ⟨g, j, none⟩ = some v ∧ v.oneCell' = true) (h0 : vs ≠ []) : AOp P W0 o fr H (.pp fl m) H :=
  .of_pure fun C a hI _ hop => by
    have h2 := rep_toV (v := .int k n) rfl (rep_eval (hop i (by simp [ho, Op.operands])) hi)
    have hx : a.eval (.global g) = .pointer (some ⟨g, 0, none⟩) := rfl
    subst hn
    have hg : g < W0.heap.size := by
      obtain ⟨v, vs', rfl⟩ := List.exists_cons_of_ne_nil h0
      have := (hT 0 v rfl).1
      unfold World.cell? at this
      split at this
      · rename_i h9; exact (Array.getElem?_eq_some_iff.1 h9).1
      · cases this
    have hblk := hI.glob g hg
    have hc : ∀ (j : Nat) (v : Value), vs[j]? = some v → Holds C.w g (0 + j) v := fun j v hj => by
      obtain ⟨h3, h4⟩ := hT j v hj
      refine ⟨?_, h4⟩
      rw [Nat.zero_add, World.cell?_of_block (w := W0) (a := ⟨g, j, none⟩) hblk.1]
      exact h3
    have hsz := hI.size
    refine ⟨_, ?_, .pp fl m g 0 (fun j => vs.getD j undef) (by omega) (fun hb => ?_) (fun j x hj => ?_) (fun j x hj => ?_)⟩
    · simp only [execOp, ho, hx, h2]
      rw [Sem.run_bind, run_indexAt_ar ht g 0 k m hm, Nat.mul_one]
      rfl
    · rcases hb with hb | hb
      · exact hblk.2 hb
      · have := hI.protge g hb; omega
    · rw [hfl] at hj
      simp only [List.getElem?_map, Option.map_eq_some_iff] at hj
      obtain ⟨v, hv, rfl⟩ := hj
      have : vs.getD j undef = v := by rw [List.getD_eq_getElem?_getD, hv]; rfl
      rw [this]; exact hc j v hv
    · rw [hfl] at hj
      simp only [List.getElem?_map, Option.map_eq_some_iff] at hj
      obtain ⟨v, hv, rfl⟩ := hj
      have : vs.getD j undef = v := by rw [List.getD_eq_getElem?_getD, hv]; rfl
      rw [this]; exact .imm v (hT j v hv).2

theorem get_map {α : Type} (f : α → AV) (l : List α) {k : Nat} (h : k < l.length) : (l.map f)[k]? = some (f l[k]) := by simp [h]

abbrev u64s (l : List (BitVec 64)) : AV := .sl (l.map u64)
abbrev i64s (l : List Int) : AV := .sl (l.map i64)

theorem i64_wrap {n : Int} (h1 : -9223372036854775808 ≤ n) (h2 : n < 9223372036854775808) : IntKind.i64.wrap n = n := by
  rw [IntKind.wrap_i64]; omega

end Go.Av
