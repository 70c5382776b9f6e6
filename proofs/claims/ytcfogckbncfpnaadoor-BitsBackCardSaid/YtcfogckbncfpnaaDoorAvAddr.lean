/- Addresses, lengths, slices of slices. -/
import Derived.Test.YtcfogckbncfpnaaDoorAvRead
namespace Go.Av
open Go.RowKit (Below)

section
variable {P : Program} {W0 : World} {C : Ctx} {fr : Fr} {a : Act} {H : Heap} {o : Oper}

theorem run_fieldAt_add {s : TypeId} {f off n : Nat} {g : Bool} (h : fdT P s f = some (off, n, g)) (hn : 0 < n) (b p : Nat) (w : World) :
    (Instr.fieldAt s (.pointer (some ⟨b, p, none⟩)) f).run P w = .ok (.pointer (some ⟨b, p + off, none⟩)) w := by
  obtain ⟨fs, fd, h1, h2, h3, h4⟩ := fdT_spec h
  obtain ⟨h5, _⟩ := szT_spec h4 w
  have hn' : n ≠ 0 := by omega
  simp [Instr.fieldAt, run_underlying h1, h2, Instr.sureAddr, fieldPlace, h5, hn', h3, addr_add]

theorem aop_field_pp {s : TypeId} {x : Operand} {f off n : Nat} {g : Bool} {fl : List AV} {j : Nat} (ho : o.op = .fieldAddr s x f) (hx : evalA fr x = some (.pp fl j)) (h : fdT P s f = some (off, n, g)) (hn : 0 < n) :
    AOp P W0 o fr H (.pp fl (j + off)) H :=
  .of_pure fun C a _ _ hop => by
    have h1 := rep_eval (hop x (by simp [ho, Op.operands])) hx
    generalize hu : a.eval x = u at h1
    cases h1
    case pp b q c hb hbad hcell hrec =>
      refine ⟨_, ?_, .pp fl (j + off) b q c hb hbad hcell hrec⟩
      simp only [execOp, ho, hu]
      rw [Sem.run_bind, run_fieldAt_add h hn, ← Nat.add_assoc]
      rfl

theorem rep_ref_of {id i j : Nat} {b q : Nat} {u : Value} (hu : u = .pointer (some ⟨b, q, none⟩)) (h : id < C.H.next) (h2 : ∀ es, C.H.get id = some es → (C.pl id).nil = false ∧ b = (C.pl id).blk ∧ q = i * (C.pl id).sz + j) : Rep C (.ref id i j) u := by
  subst hu
  refine .ref id i j _ h (fun es he => ?_) rfl
  obtain ⟨h3, h4, h5⟩ := h2 es he
  exact ⟨h3, by rw [h4, h5]⟩

theorem aop_field_ref {s : TypeId} {x : Operand} {f off n : Nat} {g : Bool} {id i j : Nat} {es : List AV} (ho : o.op = .fieldAddr s x f) (hx : evalA fr x = some (.ref id i j)) (hid : H.get id = some es) (h : fdT P s f = some (off, n, g)) (hn : 0 < n) :
    AOp P W0 o fr H (.ref id i (j + off)) H :=
  .of_pure fun C a _ hH hop => by
    subst hH
    have h1 := rep_eval (hop x (by simp [ho, Op.operands])) hx
    generalize hu : a.eval x = u at h1
    cases h1
    case ref =>
      rename_i h1 h3 h2
      obtain ⟨hnil, rfl⟩ := h2 es hid
      refine ⟨.pointer (some ⟨(C.pl id).blk, i * (C.pl id).sz + (j + off), none⟩), ?_, rep_ref_of rfl h1 (fun es he => ⟨hnil, rfl, rfl⟩)⟩
      simp only [execOp, ho, hu]
      rw [Sem.run_bind, run_fieldAt_add h hn, Nat.add_assoc]
      rfl

/-! ### Indexing -/

theorem run_indexAt_sl {t e : TypeId} {s by' : Nat} (h : elT P t = some (e, s, by')) (b p len cap : Nat) (k : IntKind) (n : Nat) (hn : n < len) (w : World) :
    (Instr.indexAt t (.slice (some ⟨b, p, none⟩) len cap) (.int k n)).run P w = .ok (.pointer (some ⟨b, p + n * s, none⟩)) w := by
  obtain ⟨hu, i, hi, hs, _⟩ := elT_spec h
  simp [Instr.indexAt, asIntOf, run_underlying hu, sizeOf, typeInfo, hi, hs, addr_add, hn]

theorem run_indexAt_ar {t : TypeId} {len s : Nat} (h : arT P t = some (len, s)) (b p : Nat) (k : IntKind) (n : Nat) (hn : n < len) (w : World) :
    (Instr.indexAt t (.pointer (some ⟨b, p, none⟩)) (.int k n)).run P w = .ok (.pointer (some ⟨b, p + n * s, none⟩)) w := by
  obtain ⟨e, i, hu, hi, hs⟩ := arT_spec h
  simp [Instr.indexAt, asIntOf, run_underlying hu, sizeOf, typeInfo, hi, hs, addr_add, hn, Instr.sureAddr]

theorem aop_index_sl {t e : TypeId} {s by' : Nat} {x i : Operand} {ax : AV} {es : List AV} {k : IntKind} {n : Int} {m : Nat} {el : AV} (ho : o.op = .indexAddr t x i) (hx : evalA fr x = some ax) (hax : ax = .sl es ∨ ax = .clip es) (hi : evalA fr i = some (.imm (.int k n)))
    (ht : elT P t = some (e, s, by')) (hn : n = m) (hel : es[m]? = some el) (hs : el.flat.length = s) : AOp P W0 o fr H (.pp el.flat 0) H :=
  .of_pure fun C a hI hH hop => by
    have h1 := rep_eval (hop x (by simp [ho, Op.operands])) hx
    have h2 := rep_toV (v := .int k n) rfl (rep_eval (hop i (by simp [ho, Op.operands])) hi)
    have hlt := (List.getElem?_eq_some_iff.1 hel).1
    generalize hu : a.eval x = u at h1
    subst hn
    have key : ∀ b off cap sz (c : Nat → Nat → Value), b < C.w.heap.size → ¬ C.bad b → (∀ (i : Nat) (e : AV), es[i]? = some e → e.flat.length = sz) →
        (∀ (i j : Nat) (e x : AV), es[i]? = some e → e.flat[j]? = some x → Holds C.w b (off + i * sz + j) (c i j)) → (∀ (i j : Nat) (e x : AV), es[i]? = some e → e.flat[j]? = some x → Rep C x (c i j)) →
        u = .slice (some ⟨b, off, none⟩) es.length cap → ∃ v, (execOp a.eval o).run P C.w = .ok (.value v) C.w ∧ Rep C (.pp el.flat 0) v := by
      intro b off cap sz c hb hbad hf hcell hrec huv
      have hsz : sz = s := by rw [← hf m el hel]; exact hs
      subst hsz
      refine ⟨.pointer (some ⟨b, off + m * sz + 0, none⟩), ?_, .pp el.flat 0 b (off + m * sz) (c m) hb hbad (fun j y hy => hcell m j el y hel hy) (fun j y hy => hrec m j el y hel hy)⟩
      simp only [execOp, ho, hu, h2, huv]
      rw [Sem.run_bind, run_indexAt_sl ht b off es.length cap k m hlt]
      rfl
    rcases hax with rfl | rfl
    · cases h1
      case slNil => simp at hlt
      case sl b off sz cap c hb hbad hc hf hcell hrec => exact key b off cap sz c hb hbad hf hcell hrec rfl
    · cases h1
      case clipNil => simp at hlt
      case clip b off sz c hb hbad hf hcell hrec => exact key b off _ sz c hb hbad hf hcell hrec rfl

theorem aop_index_view {t e : TypeId} {s by' : Nat} {x i : Operand} {id off len : Nat} {es : List AV} {k : IntKind} {n : Int} {m : Nat} {el : AV} (ho : o.op = .indexAddr t x i) (hx : evalA fr x = some (.view id off len)) (hid : H.get id = some es) (hi : evalA fr i = some (.imm (.int k n)))
    (ht : elT P t = some (e, s, by')) (hn : n = m) (hm : m < len) (hel : es[off + m]? = some el) (hs : el.flat.length = s) : AOp P W0 o fr H (.ref id (off + m) 0) H :=
  .of_pure fun C a hI hH hop => by
    subst hH
    have h1 := rep_eval (hop x (by simp [ho, Op.operands])) hx
    have h2 := rep_toV (v := .int k n) rfl (rep_eval (hop i (by simp [ho, Op.operands])) hi)
    generalize hu : a.eval x = u at h1
    subst hn
    cases h1
    case view =>
      rename_i hid' h3 h4
      have h5 := h4 es hid
      unfold SliceAt at h5
      split at h5
      · obtain ⟨_, h6, _⟩ := h5; omega
      · rename_i hnil
        have hnil' : (C.pl id).nil = false := by simpa using hnil
        obtain ⟨ad, cap, rfl, h6, h7, h8, h9⟩ := h5
        rcases h9 with h9 | rfl
        · omega
        · have hsz : (C.pl id).sz = s := by rw [← (hI.obj id es hid hnil').flat _ el hel]; exact hs
          refine ⟨.pointer (some ⟨(C.pl id).blk, off * (C.pl id).sz + m * s, none⟩), ?_, rep_ref_of rfl hid' (fun es he => ⟨hnil', rfl, by rw [hsz, Nat.add_mul]; rfl⟩)⟩
          simp only [execOp, ho, hu, h2]
          rw [Sem.run_bind, run_indexAt_sl ht _ _ len cap k m hm]
          rfl

/-- An array that is a row of elements of its own. -/
theorem aop_index_row {t : TypeId} {N s : Nat} {x i : Operand} {id p : Nat} {es : List AV} {k : IntKind} {n : Int} {m : Nat} {el : AV} (ho : o.op = .indexAddr t x i) (hx : evalA fr x = some (.ref id p 0)) (hid : H.get id = some es) (hi : evalA fr i = some (.imm (.int k n)))
    (ht : arT P t = some (N, s)) (hn : n = m) (hm : m < N) (hel : es[p]? = some el) (hs : el.flat.length = s) : AOp P W0 o fr H (.ref id (p + m) 0) H :=
  .of_pure fun C a hI hH hop => by
    subst hH
    have h1 := rep_eval (hop x (by simp [ho, Op.operands])) hx
    have h2 := rep_toV (v := .int k n) rfl (rep_eval (hop i (by simp [ho, Op.operands])) hi)
    generalize hu : a.eval x = u at h1
    subst hn
    cases h1
    case ref =>
      rename_i hid' h3 h4
      obtain ⟨hnil, rfl⟩ := h4 es hid
      have hsz : (C.pl id).sz = s := by rw [← (hI.obj id es hid hnil).flat _ el hel]; exact hs
      refine ⟨.pointer (some ⟨(C.pl id).blk, p * (C.pl id).sz + 0 + m * s, none⟩), ?_, rep_ref_of rfl hid' (fun es he => ⟨hnil, rfl, by rw [hsz, Nat.add_mul]; omega⟩)⟩
      simp only [execOp, ho, hu, h2]
      rw [Sem.run_bind, run_indexAt_ar ht _ _ k m hm]
      rfl

/-- An array within an element. -/
theorem aop_index_in {t : TypeId} {N s : Nat} {x i : Operand} {id p j : Nat} {es : List AV} {k : IntKind} {n : Int} {m : Nat} (ho : o.op = .indexAddr t x i) (hx : evalA fr x = some (.ref id p j)) (hid : H.get id = some es) (hi : evalA fr i = some (.imm (.int k n)))
    (ht : arT P t = some (N, s)) (hn : n = m) (hm : m < N) : AOp P W0 o fr H (.ref id p (j + m * s)) H :=
  .of_pure fun C a hI hH hop => by
    subst hH
    have h1 := rep_eval (hop x (by simp [ho, Op.operands])) hx
    have h2 := rep_toV (v := .int k n) rfl (rep_eval (hop i (by simp [ho, Op.operands])) hi)
    generalize hu : a.eval x = u at h1
    subst hn
    cases h1
    case ref =>
      rename_i hid' h3 h4
      obtain ⟨hnil, rfl⟩ := h4 es hid
      refine ⟨.pointer (some ⟨(C.pl id).blk, p * (C.pl id).sz + j + m * s, none⟩), ?_, rep_ref_of rfl hid' (fun es he => ⟨hnil, rfl, by omega⟩)⟩
      simp only [execOp, ho, hu, h2]
      rw [Sem.run_bind, run_indexAt_ar ht _ _ k m hm]
      rfl

theorem aop_index_pp {t : TypeId} {N s : Nat} {x i : Operand} {fl : List AV} {j : Nat} {k : IntKind} {n : Int} {m : Nat} (ho : o.op = .indexAddr t x i) (hx : evalA fr x = some (.pp fl j)) (hi : evalA fr i = some (.imm (.int k n)))
    (ht : arT P t = some (N, s)) (hn : n = m) (hm : m < N) : AOp P W0 o fr H (.pp fl (j + m * s)) H :=
  .of_pure fun C a _ _ hop => by
    have h1 := rep_eval (hop x (by simp [ho, Op.operands])) hx
    have h2 := rep_toV (v := .int k n) rfl (rep_eval (hop i (by simp [ho, Op.operands])) hi)
    generalize hu : a.eval x = u at h1
    subst hn
    cases h1
    case pp b q c hb hbad hcell hrec =>
      refine ⟨_, ?_, .pp fl (j + m * s) b q c hb hbad hcell hrec⟩
      simp only [execOp, ho, hu, h2]
      rw [Sem.run_bind, run_indexAt_ar ht _ _ k m hm, ← Nat.add_assoc]
      rfl

/-! ### Lengths, nil checks -/

theorem run_builtin {b : Builtin} {args : Array Operand} {tys : Array TypeId} (ho : o.op = .call { callee := .builtin b, args := args, argTypes := tys }) (a : Act) :
    ∃ cs, ∀ w, (execOp a.eval o).run P w = (builtin b tys o.type cs (args.map a.eval)).run P w :=
  ⟨_, fun w => by simp only [execOp, ho, resolve, invoke]; rfl⟩

theorem aop_len {t e : TypeId} {s by' : Nat} {x : Operand} {ax : AV} {es : List AV} (ho : o.op = .call { callee := .builtin .len, args := #[x], argTypes := #[t] }) (hx : evalA fr x = some ax) (he : ax.elems H = some es) (ht : elT P t = some (e, s, by')) :
    AOp P W0 o fr H (.imm (.int .i64 es.length)) H :=
  .of_pure fun C a hI hH hop => by
    subst hH
    obtain ⟨ad, cap, h1, _, _⟩ := rep_elems hI (rep_eval (hop x (by simp [ho, Op.operands, Call.operands])) hx) he
    obtain ⟨hu, _⟩ := elT_spec ht
    refine ⟨.int .i64 es.length, ?_, .imm _ rfl⟩
    obtain ⟨cs, hb⟩ := run_builtin (P := P) ho a
    rw [hb]
    simp [builtin, Builtin.len_, h1, run_underlying hu, goInt]

theorem aop_len_str {t : TypeId} {x : Operand} {s : ByteArray} (ho : o.op = .call { callee := .builtin .len, args := #[x], argTypes := #[t] }) (hx : evalA fr x = some (.imm (.string s))) (ht : P.underlying t = some .string) :
    AOp P W0 o fr H (.imm (.int .i64 s.size)) H :=
  .of_pure fun C a hI hH hop => by
    have h1 := rep_toV (v := .string s) rfl (rep_eval (hop x (by simp [ho, Op.operands, Call.operands])) hx)
    refine ⟨.int .i64 s.size, ?_, .imm _ rfl⟩
    obtain ⟨cs, hb⟩ := run_builtin (P := P) ho a
    rw [hb]
    simp [builtin, Builtin.len_, h1, run_underlying ht, goInt]

theorem aop_nilCheck_ref {x : Operand} {id i j : Nat} {es : List AV} (ho : o.op = .nilCheck x) (hx : evalA fr x = some (.ref id i j)) (hid : H.get id = some es) : AOp P W0 o fr H (.ref id i j) H :=
  .of_pure fun C a _ hH hop => by
    subst hH
    have h1 := rep_eval (hop x (by simp [ho, Op.operands])) hx
    have h0 := h1
    generalize hu : a.eval x = u at h1 h0
    cases h1
    case ref =>
      rename_i hid' h3 h4
      obtain ⟨hnil, rfl⟩ := h4 es hid
      exact ⟨_, by simp [execOp, ho, hu], h0⟩

theorem aop_nilCheck_pp {x : Operand} {fl : List AV} {j : Nat} (ho : o.op = .nilCheck x) (hx : evalA fr x = some (.pp fl j)) : AOp P W0 o fr H (.pp fl j) H :=
  .of_pure fun C a _ hH hop => by
    subst hH
    have h1 := rep_eval (hop x (by simp [ho, Op.operands])) hx
    have h0 := h1
    generalize hu : a.eval x = u at h1 h0
    cases h1
    case pp => exact ⟨_, by simp [execOp, ho, hu], h0⟩

theorem aop_nilCheck_clo {x : Operand} {f : FuncId} {caps : List AV} (ho : o.op = .nilCheck x) (hx : evalA fr x = some (.clo (.func f) caps)) : AOp P W0 o fr H (.clo (.func f) caps) H :=
  .of_pure fun C a _ hH hop => by
    subst hH
    have h1 := rep_eval (hop x (by simp [ho, Op.operands])) hx
    have h0 := h1
    generalize hu : a.eval x = u at h1 h0
    cases h1
    case clo => exact ⟨_, by simp [execOp, ho, hu], h0⟩

/-! ### Slices of slices -/

def optNat (fr : Fr) (x : Option Operand) (d : Nat) : Option Nat :=
  match x with
  | none => some d
  | some x => match evalA fr x with
    | some (.imm (.int _ n)) => if 0 ≤ n then some n.toNat else none
    | _ => none

theorem run_sliceBound_nat {x : Operand} {y m : Nat} {code : BoundsCode} (h : optNat fr (some x) 0 = some m) (hr : RepO C fr a x) (hm : m ≤ y) (w : World) : (Instr.sliceBound (a.eval x) y code).run P w = .ok m w := by
  simp only [optNat] at h
  split at h
  · rename_i k n he
    split at h
    · rename_i h0
      simp only [Option.some.injEq] at h; subst h
      have h1 := rep_toV (v := .int k n) rfl (rep_eval hr he)
      have h2 : n ≤ (y : Int) := by omega
      simp [Instr.sliceBound, asIntOf, h1, h0, h2]
    · cases h
  · cases h

theorem run_sliceBounds_nat {lo hi mx : Option Operand} {len cap l h m : Nat} (hl : optNat fr lo 0 = some l) (hh : optNat fr hi len = some h) (hm : optNat fr mx cap = some m) (hmx : mx.isSome = true → hi.isSome = true)
    (h1 : l ≤ h) (h2 : h ≤ m) (h3 : m ≤ cap) (rl : ∀ x, lo = some x → RepO C fr a x) (rh : ∀ x, hi = some x → RepO C fr a x) (rm : ∀ x, mx = some x → RepO C fr a x) (w : World) :
    (Instr.sliceBounds true len cap (lo.map a.eval) (hi.map a.eval) (mx.map a.eval)).run P w = .ok (l, h, m) w := by
  have e1 : ∀ (code : BoundsCode) x, lo = some x → (Instr.sliceBound (a.eval x) h code).run P w = .ok l w := fun code x hx => by
    subst hx; exact run_sliceBound_nat hl (rl x rfl) h1 w
  have e2 : ∀ (y : Nat) (code : BoundsCode) x, h ≤ y → hi = some x → (Instr.sliceBound (a.eval x) y code).run P w = .ok h w := fun y code x hy hx => by
    subst hx; exact run_sliceBound_nat (by simpa [optNat] using hh) (rh x rfl) hy w
  have e3 : ∀ (code : BoundsCode) x, mx = some x → (Instr.sliceBound (a.eval x) cap code).run P w = .ok m w := fun code x hx => by
    subst hx; exact run_sliceBound_nat (by simpa [optNat] using hm) (rm x rfl) h3 w
  cases mx with
  | none =>
    simp only [optNat, Option.some.injEq] at hm; subst hm
    cases hi with
    | none =>
      simp only [optNat, Option.some.injEq] at hh; subst hh
      cases lo with
      | none => simp only [optNat, Option.some.injEq] at hl; subst hl; simp [Instr.sliceBounds]
      | some x => simp [Instr.sliceBounds, e1 _ x rfl]
    | some y =>
      cases lo with
      | none => simp only [optNat, Option.some.injEq] at hl; subst hl; simp [Instr.sliceBounds, e2 _ _ y h2 rfl]
      | some x => simp [Instr.sliceBounds, e1 _ x rfl, e2 _ _ y h2 rfl]
  | some z =>
    cases hi with
    | none => simp at hmx
    | some y =>
      cases lo with
      | none => simp only [optNat, Option.some.injEq] at hl; subst hl; simp [Instr.sliceBounds, e2 _ _ y h2 rfl, e3 _ z rfl]
      | some x => simp [Instr.sliceBounds, e1 _ x rfl, e2 _ _ y h2 rfl, e3 _ z rfl]

theorem run_sliceAt_nat {t e : TypeId} {s by' : Nat} (ht : elT P t = some (e, s, by')) {x : Operand} {lo hi mx : Option Operand} {ad : Option Addr} {len cap l h m : Nat} (ho : o.op = .slice t x lo hi mx) (hu : a.eval x = .slice ad len cap)
    (hl : optNat fr lo 0 = some l) (hh : optNat fr hi len = some h) (hm : optNat fr mx cap = some m) (hmx : mx.isSome = true → hi.isSome = true)
    (h1 : l ≤ h) (h2 : h ≤ m) (h3 : m ≤ cap) (hop : ∀ x ∈ o.op.operands, RepO C fr a x) (w : World) :
    (execOp a.eval o).run P w = .ok (.value (.slice (if m = l then ad else ad.map (·.add (l * s))) (h - l) (m - l))) w := by
  obtain ⟨hty, i, hi', hs, _⟩ := elT_spec ht
  have hb := run_sliceBounds_nat (P := P) (a := a) hl hh hm hmx h1 h2 h3 (fun y hy => hop y (by simp [ho, Op.operands, hy])) (fun y hy => hop y (by simp [ho, Op.operands, hy])) (fun y hy => hop y (by simp [ho, Op.operands, hy])) w
  simp [execOp, ho, hu, Instr.sliceAt, run_underlying hty, Instr.slice, hb, sizeOf, typeInfo, hi', hs]

theorem sl_part {es : List AV} {b off sz : Nat} {c : Nat → Nat → Value} {l h : Nat} {s : Nat} (hb : b < C.w.heap.size) (hbad : ¬ C.bad b) (hf : ∀ (i : Nat) (e : AV), es[i]? = some e → e.flat.length = sz)
    (hcell : ∀ (i j : Nat) (e x : AV), es[i]? = some e → e.flat[j]? = some x → Holds C.w b (off + i * sz + j) (c i j)) (hrec : ∀ (i j : Nat) (e x : AV), es[i]? = some e → e.flat[j]? = some x → Rep C x (c i j))
    (h1 : l ≤ h) (h2 : h ≤ es.length) (cap : Nat) (hc : h ≤ cap) (hs : ∀ e ∈ es, e.flat.length = s) :
    Rep C (.sl ((es.drop l).take (h - l))) (.slice (if cap = l then some ⟨b, off, none⟩ else (some (⟨b, off, none⟩ : Addr)).map (·.add (l * s))) (h - l) (cap - l)) := by
  have hlen : ((es.drop l).take (h - l)).length = h - l := by simp; omega
  by_cases h0 : h - l = 0
  · have : (es.drop l).take (h - l) = [] := List.eq_nil_of_length_eq_zero (by rw [hlen]; exact h0)
    rw [this, h0]; exact .slNil _ _
  · have hne : ¬ cap = l := by omega
    rw [if_neg hne]
    have hsz : sz = s := by
      have hlt : l < es.length := by omega
      rw [← hf l _ (List.getElem?_eq_getElem hlt)]; exact hs _ (List.getElem_mem hlt)
    subst hsz
    have get : ∀ (i : Nat) (e : AV), ((es.drop l).take (h - l))[i]? = some e → es[l + i]? = some e := fun i e he => by
      rw [List.getElem?_take] at he
      split at he
      · rwa [List.getElem?_drop] at he
      · cases he
    have := Rep.sl (C := C) ((es.drop l).take (h - l)) b (off + l * sz) sz (cap - l) (fun i j => c (l + i) j) hb hbad (by rw [hlen]; omega) (fun i e he => hf _ e (get i e he))
      (fun i j e x he hx => by have := hcell (l + i) j e x (get i e he) hx; rwa [Nat.add_mul, ← Nat.add_assoc] at this) (fun i j e x he hx => hrec (l + i) j e x (get i e he) hx)
    rw [hlen] at this
    simpa [addr_add] using this

/-- A slice of what stays as it is. -/
theorem aop_slice_sl {t e : TypeId} {s by' : Nat} {x : Operand} {lo hi : Option Operand} {ax : AV} {es : List AV} {l h : Nat} (ho : o.op = .slice t x lo hi none) (hx : evalA fr x = some ax) (hax : ax = .sl es ∨ ax = .clip es) (ht : elT P t = some (e, s, by'))
    (hl : optNat fr lo 0 = some l) (hh : optNat fr hi es.length = some h) (h1 : l ≤ h) (h2 : h ≤ es.length) (hs : ∀ e ∈ es, e.flat.length = s) : AOp P W0 o fr H (.sl ((es.drop l).take (h - l))) H :=
  .of_pure fun C a hI hH hop => by
    have hr := rep_eval (hop x (by simp [ho, Op.operands])) hx
    generalize hu : a.eval x = u at hr
    have nilcase : es = [] → ∀ ad cap, u = .slice ad 0 cap → ∃ v, (execOp a.eval o).run P C.w = .ok (.value v) C.w ∧ Rep C (.sl ((es.drop l).take (h - l))) v := by
      rintro rfl ad cap rfl
      have hz : l = 0 ∧ h = 0 := by simp at h2; omega
      obtain ⟨rfl, rfl⟩ := hz
      refine ⟨_, run_sliceAt_nat (C := C) (m := cap) ht ho hu hl hh rfl (by simp) (Nat.le_refl _) (Nat.zero_le _) (Nat.le_refl _) hop C.w, ?_⟩
      simp only [List.drop_nil, List.take_nil, Nat.sub_zero]
      exact .slNil _ _
    rcases hax with rfl | rfl
    · cases hr
      case slNil ad cap => exact nilcase rfl ad cap rfl
      case sl b off sz cap c hb hbad hc hf hcell hrec =>
        exact ⟨_, run_sliceAt_nat (C := C) (m := cap) ht ho hu hl hh rfl (by simp) h1 (by omega) (Nat.le_refl _) hop C.w, sl_part hb hbad hf hcell hrec h1 h2 cap (by omega) hs⟩
    · cases hr
      case clipNil ad => exact nilcase rfl ad 0 rfl
      case clip b off sz c hb hbad hf hcell hrec =>
        exact ⟨_, run_sliceAt_nat (C := C) (m := es.length) ht ho hu hl hh rfl (by simp) h1 (by omega) (Nat.le_refl _) hop C.w, sl_part hb hbad hf hcell hrec h1 h2 es.length (by omega) hs⟩

/-- A slice with no room behind it, of what stays as it is. -/
theorem aop_slice_clip {t e : TypeId} {s by' : Nat} {x : Operand} {lo hi mx : Option Operand} {ax : AV} {es : List AV} {l h : Nat} (ho : o.op = .slice t x lo hi mx) (hx : evalA fr x = some ax) (hax : ax = .sl es ∨ ax = .clip es) (ht : elT P t = some (e, s, by'))
    (hl : optNat fr lo 0 = some l) (hhi : hi.isSome = true) (hmx : mx.isSome = true) (hh : optNat fr hi es.length = some h) (hm : optNat fr mx es.length = some h) (h1 : l ≤ h) (h2 : h ≤ es.length) (hs : ∀ e ∈ es, e.flat.length = s) :
    AOp P W0 o fr H (.clip ((es.drop l).take (h - l))) H :=
  .of_pure fun C a hI hH hop => by
    have hr := rep_eval (hop x (by simp [ho, Op.operands])) hx
    generalize hu : a.eval x = u at hr
    have hm' : ∀ d, optNat fr mx d = some h := fun d => by cases mx with
      | none => simp at hmx
      | some y => simpa [optNat] using hm
    have hlen : ((es.drop l).take (h - l)).length = h - l := by simp; omega
    have nilcase : es = [] → ∀ ad cap, u = .slice ad 0 cap → ∃ v, (execOp a.eval o).run P C.w = .ok (.value v) C.w ∧ Rep C (.clip ((es.drop l).take (h - l))) v := by
      rintro rfl ad cap rfl
      have hz : l = 0 ∧ h = 0 := by simp at h2; omega
      obtain ⟨rfl, rfl⟩ := hz
      refine ⟨_, run_sliceAt_nat (C := C) (m := 0) ht ho hu hl hh (hm' _) (fun _ => hhi) (Nat.le_refl _) (Nat.zero_le _) (Nat.zero_le _) hop C.w, ?_⟩
      simp only [List.drop_nil, List.take_nil, Nat.sub_zero]
      exact .clipNil _
    have main : ∀ b off cap sz (c : Nat → Nat → Value), b < C.w.heap.size → ¬ C.bad b → es.length ≤ cap → (∀ (i : Nat) (e : AV), es[i]? = some e → e.flat.length = sz) →
        (∀ (i j : Nat) (e x : AV), es[i]? = some e → e.flat[j]? = some x → Holds C.w b (off + i * sz + j) (c i j)) → (∀ (i j : Nat) (e x : AV), es[i]? = some e → e.flat[j]? = some x → Rep C x (c i j)) →
        u = .slice (some ⟨b, off, none⟩) es.length cap → ∃ v, (execOp a.eval o).run P C.w = .ok (.value v) C.w ∧ Rep C (.clip ((es.drop l).take (h - l))) v := by
      intro b off cap sz c hb hbad hc hf hcell hrec huv
      subst huv
      refine ⟨_, run_sliceAt_nat (C := C) (m := h) ht ho hu hl hh (hm' _) (fun _ => hhi) h1 (Nat.le_refl _) (by omega) hop C.w, ?_⟩
      have := sl_part (C := C) hb hbad hf hcell hrec h1 h2 h (Nat.le_refl _) hs
      by_cases h0 : h - l = 0
      · have e0 : (es.drop l).take (h - l) = [] := List.eq_nil_of_length_eq_zero (by rw [hlen]; exact h0)
        rw [e0, h0]; exact .clipNil _
      · generalize hq : (es.drop l).take (h - l) = q at this hlen ⊢
        rw [← hlen] at this ⊢
        generalize (if h = l then _ else _ : Option Addr) = ad at this ⊢
        cases this
        case slNil => exact absurd hlen.symm (by simpa using h0)
        case sl => rename_i b' off' sz' c' a5 a4 a3 a2 a1 a0; exact Rep.clip q b' off' sz' c' a5 a4 a3 a2 a1
    rcases hax with rfl | rfl
    · cases hr
      case slNil ad cap => exact nilcase rfl ad cap rfl
      case sl b off sz cap c hb hbad hc hf hcell hrec => exact main b off cap sz c hb hbad hc hf hcell hrec rfl
    · cases hr
      case clipNil ad => exact nilcase rfl ad 0 rfl
      case clip b off sz c hb hbad hf hcell hrec => exact main b off _ sz c hb hbad (Nat.le_refl _) hf hcell hrec rfl

/-- A slice of an object of the proof's own. -/
theorem aop_slice_view {t e : TypeId} {s by' : Nat} {x : Operand} {lo hi : Option Operand} {id off len : Nat} {es : List AV} {l h : Nat} (ho : o.op = .slice t x lo hi none) (hx : evalA fr x = some (.view id off len)) (hid : H.get id = some es) (ht : elT P t = some (e, s, by'))
    (hl : optNat fr lo 0 = some l) (hh : optNat fr hi len = some h) (h1 : l ≤ h) (h2 : h ≤ len) (hs : ∀ e ∈ es, e.flat.length = s) : AOp P W0 o fr H (.view id (off + l) (h - l)) H :=
  .of_pure fun C a hI hH hop => by
    subst hH
    have hr := rep_eval (hop x (by simp [ho, Op.operands])) hx
    generalize hu : a.eval x = u at hr
    cases hr
    case view =>
      rename_i hid' h3 h4
      have h5 := h4 es hid
      unfold SliceAt at h5
      split at h5
      · rename_i hnil
        obtain ⟨rfl, rfl, ad, rfl⟩ := h5
        have hz : l = 0 ∧ h = 0 := by omega
        obtain ⟨rfl, rfl⟩ := hz
        refine ⟨_, run_sliceAt_nat (C := C) (m := 0) ht ho hu hl hh rfl (by simp) (Nat.le_refl _) (Nat.zero_le _) (Nat.le_refl _) hop C.w, ?_⟩
        refine .view id _ _ _ hid' (fun es he => ?_) rfl
        unfold SliceAt
        rw [if_pos hnil]
        exact ⟨rfl, rfl, _, rfl⟩
      · rename_i hnil
        have hnil' : (C.pl id).nil = false := by simpa using hnil
        obtain ⟨ad, cap, rfl, h6, h7, h8, h9⟩ := h5
        refine ⟨_, run_sliceAt_nat (C := C) (m := cap) ht ho hu hl hh rfl (by simp) h1 (by omega) (Nat.le_refl _) hop C.w, ?_⟩
        refine .view id _ _ _ hid' (fun es' he => ?_) (by split <;> rfl)
        rw [hid] at he; cases he
        unfold SliceAt
        rw [if_neg hnil]
        by_cases hcl : cap = l
        · rw [if_pos hcl]
          exact ⟨ad, cap - l, rfl, by omega, by omega, by omega, .inl (by omega)⟩
        · rw [if_neg hcl]
          refine ⟨_, cap - l, rfl, by omega, by omega, by omega, .inr ?_⟩
          rcases h9 with h9 | rfl
          · omega
          · show Addr.add _ (l * s) = _
            rw [addr_add]
            by_cases hl0 : l = 0
            · subst hl0; simp
            · have hlt : 0 < es.length := by have := (hI.obj id es hid hnil').n; omega
              have hsz : (C.pl id).sz = s := by
                rw [← (hI.obj id es hid hnil').flat 0 _ (List.getElem?_eq_getElem hlt)]; exact hs _ (List.getElem_mem hlt)
              rw [hsz, Nat.add_mul]

end
end Go.Av
