/- The operations, one by one: what a proof sees of each, and that the model does it. -/
import Derived.Test.YtcfogckbncfpnaaDoorAvCtx
import Derived.Laws.Cells
import Derived.Laws.CopyRow
import Derived.Laws.Append
import Derived.Laws.MakeOwn
import Derived.Laws.Slices
import Derived.Laws.OwnMore
namespace Go.Av
open Go.RowKit (Below)

abbrev Fr := Nat → Option AV

def _root_.Go.Value.okV : Value → Bool
  | .agg cs => cs.all (·.oneCell')
  | .tuple _ => false
  | _ => true

def AV.ofV : Value → AV
  | .agg cs => .agg (cs.toList.map .imm)
  | v => .imm v

def toVs : List AV → Option (List Value)
  | [] => some []
  | .imm v :: r => (toVs r).map (v :: ·)
  | _ :: _ => none

def AV.toV : AV → Option Value
  | .imm v => some v
  | .agg cs => (toVs cs).map fun l => .agg l.toArray
  | _ => none

/-- A value, or the cells of one: nothing that is not known. -/
def AV.solid : AV → Bool
  | .any | .tuple _ => false
  | _ => true

def evalA (fr : Fr) : Operand → Option AV
  | .tmp t => fr t
  | .const v => if v.okV then some (.ofV v) else none
  | .func f => some (.clo (.func f) [])
  | .global _ => none

def RepO (C : Ctx) (fr : Fr) (a : Act) (x : Operand) : Prop := ∀ t, x = .tmp t → ∀ av, fr t = some av → Rep C av (a.tmps.getD t undef)

/-- An operation, as the proof sees it: with these values, and this heap, it gives that value, and leaves that heap. -/
def AOp (P : Program) (W0 : World) (o : Oper) (fr : Fr) (H : Heap) (r : AV) (H' : Heap) : Prop :=
  ∀ (C : Ctx) (a : Act), Inv W0 C → C.H = H → (∀ x ∈ o.op.operands, RepO C fr a x) →
    ∀ (K : Act → World → Prop) (Q : Exit → Act → World → Prop),
      (∀ v C', Ext C C' → Inv W0 C' → C'.H = H' → Rep C' r v → K (a.put o.dst v) C'.w) → o.wp P a C.w K Q

section
variable {P : Program} {W0 : World} {C : Ctx} {fr : Fr} {a : Act} {H : Heap} {o : Oper}

theorem getD_of {vs : Array Value} {k : Nat} (h : k < vs.size) : vs[k]? = some (vs.getD k undef) := by
  simp [Array.getD, h]

theorem rep_ofV {v : Value} (h : v.okV = true) : Rep C (.ofV v) v := by
  cases v <;> try exact Rep.imm _ rfl
  case agg cs =>
    have hall : ∀ (k : Nat) (v : Value), cs[k]? = some v → v.oneCell' = true := fun k v hv => by
      have := Array.all_eq_true'.1 h v (Array.mem_of_getElem? hv); exact this
    refine Rep.agg _ cs (by simp) hall (fun k x hx => ?_)
    simp only [List.getElem?_map, Option.map_eq_some_iff] at hx
    obtain ⟨v, hv, rfl⟩ := hx
    have hv' : cs[k]? = some v := by simpa using hv
    have hk : k < cs.size := (Array.getElem?_eq_some_iff.1 hv').1
    have : cs.getD k undef = v := by have := getD_of hk; rw [hv'] at this; exact (Option.some.inj this).symm
    rw [this]
    exact .imm v (hall k v hv')
  case tuple => simp [Value.okV] at h

theorem toVs_spec : ∀ (cs : List AV) (l : List Value), toVs cs = some l → cs = l.map .imm
  | [], l, h => by simp only [toVs, Option.some.injEq] at h; subst h; rfl
  | x :: r, l, h => by
    cases x <;> simp only [toVs] at h <;> try cases h
    case imm v =>
      obtain ⟨l', h', rfl⟩ := Option.map_eq_some_iff.1 h
      rw [List.map_cons, ← toVs_spec r l' h']

theorem rep_toV {x : AV} {v u : Value} (h : x.toV = some v) (hr : Rep C x u) : u = v := by
  cases hr <;> simp only [AV.toV] at h <;> try cases h
  case imm => rfl
  case agg cs vs hs h1 hx =>
    obtain ⟨l, hl, rfl⟩ := Option.map_eq_some_iff.1 h
    have := toVs_spec cs l hl
    subst this
    congr 1
    apply Array.ext
    · simpa using hs
    · intro k hk hk'
      have h2 : ((l.map AV.imm)[k]? : Option AV) = some (.imm (l[k]'(by simpa using hk'))) := by simp at hk' ⊢
      have h3 := hx k _ h2
      have := getD_of hk
      rw [Array.getElem?_eq_getElem hk] at this
      generalize vs.getD k undef = q at h3 this
      cases h3
      simpa using this

theorem rep_eval {x : Operand} {av : AV} (h : RepO C fr a x) (he : evalA fr x = some av) : Rep C av (a.eval x) := by
  cases x with
  | tmp t => exact h t rfl av he
  | const v =>
    simp only [evalA] at he
    split at he
    · rename_i hv; simp only [Option.some.injEq] at he; subst he; exact rep_ofV hv
    · cases he
  | global g => cases he
  | func f =>
    simp only [evalA, Option.some.injEq] at he; subst he
    exact .clo _ [] #[] rfl (fun k x hx => by simp at hx)

/-! ### What only computes -/

def pv {α : Type} (P : Program) : Sem α → Option α
  | .pure a => some a
  | .program k => pv P (k P)
  | .mark _ k => pv P k
  | _ => none

theorem pv_run {α : Type} (s : Sem α) (x : α) (w : World) (h : pv P s = some x) : s.run P w = .ok x w := by
  induction s with
  | pure a => simp only [pv, Option.some.injEq] at h; subst h; rfl
  | program k ih => exact ih P h
  | mark m k ih => exact ih h
  | _ => cases h

theorem pv_bind {α β : Type} (s : Sem α) (f : α → Sem β) (x : α) (h : pv P s = some x) : pv P (s >>= f) = pv P (f x) := by
  show pv P (Sem.bind s f) = _
  induction s with
  | pure a => simp only [pv, Option.some.injEq] at h; subst h; rfl
  | program k ih => exact ih P h
  | mark m k ih => exact ih h
  | _ => cases h

/-- The rule for what yields a value: where the run ends. -/
theorem AOp.of_run {r : AV} {H' : Heap}
    (h : ∀ (C : Ctx) (a : Act), Inv W0 C → C.H = H → (∀ x ∈ o.op.operands, RepO C fr a x) →
      ∃ v C', (execOp a.eval o).run P C.w = .ok (.value v) C'.w ∧ Ext C C' ∧ Inv W0 C' ∧ C'.H = H' ∧ Rep C' r v) : AOp P W0 o fr H r H' := by
  intro C a hI hH hx K Q hK
  obtain ⟨v, C', hr, h1, h2, h3, h4⟩ := h C a hI hH hx
  unfold Oper.wp
  rw [hr]
  exact hK v C' h1 h2 h3 h4

/-- The same, the world left as it is. -/
theorem AOp.of_pure {r : AV}
    (h : ∀ (C : Ctx) (a : Act), Inv W0 C → C.H = H → (∀ x ∈ o.op.operands, RepO C fr a x) →
      ∃ v, (execOp a.eval o).run P C.w = .ok (.value v) C.w ∧ Rep C r v) : AOp P W0 o fr H r H :=
  .of_run fun C a hI hH hx => let ⟨v, h1, h2⟩ := h C a hI hH hx; ⟨v, C, h1, .refl C, hI, hH, h2⟩

theorem aop_move {x : Operand} {r : AV} (ho : o.op = .move x ∨ o.op = .assign x) (h : evalA fr x = some r) : AOp P W0 o fr H r H :=
  .of_pure fun C a _ _ hx => ⟨a.eval x, by rcases ho with ho | ho <;> simp [execOp, ho], rep_eval (hx x (by rcases ho with ho | ho <;> simp [ho, Op.operands])) h⟩

theorem aop_pick {c x y : Operand} {t : Bool} {r : AV} (ho : o.op = .pick c x y) (hc : evalA fr c = some (.imm (.bool t))) (h : evalA fr (if t then x else y) = some r) : AOp P W0 o fr H r H :=
  .of_pure fun C a _ _ hx => by
    have h1 := rep_eval (hx c (by simp [ho, Op.operands])) hc
    have h2 : Rep C r (a.eval (if t then x else y)) := rep_eval (by cases t <;> exact hx _ (by simp [ho, Op.operands])) h
    have h3 := rep_toV (v := .bool t) rfl h1
    refine ⟨_, ?_, h2⟩
    cases t <;> simp [execOp, ho, h3, asBool]

/-- Both arms are bools. -/
theorem aop_pick2 {c x y : Operand} {t p q : Bool} (ho : o.op = .pick c x y) (hc : evalA fr c = some (.imm (.bool t))) (hx : evalA fr x = some (.imm (.bool p))) (hy : evalA fr y = some (.imm (.bool q))) :
    AOp P W0 o fr H (.imm (.bool (if t then p else q))) H := by
  refine aop_pick ho hc ?_
  cases t <;> simp [hx, hy]

def pvOk (P : Program) (s : Sem Value) : Option AV :=
  match pv P s with
  | some v => if v.okV then some (.ofV v) else none
  | none => none

theorem pvOk_spec {s : Sem Value} {r : AV} (h : pvOk P s = some r) (w : World) : ∃ v, s.run P w = .ok v w ∧ ∀ C, Rep C r v := by
  unfold pvOk at h
  split at h
  · rename_i v hv
    split at h
    · rename_i hk
      simp only [Option.some.injEq] at h; subst h
      exact ⟨v, pv_run s v w hv, fun C => rep_ofV hk⟩
    · cases h
  · cases h

theorem aop_bin {op : BinOp} {t t' : TypeId} {x y : Operand} {ax ay r : AV} {vx vy : Value} (ho : o.op = .binOp op t x y t') (hx : evalA fr x = some ax) (hy : evalA fr y = some ay) (hvx : ax.toV = some vx) (hvy : ay.toV = some vy)
    (h : pvOk P (do eqGuard op t x y vx vy; binOp op t vx vy) = some r) : AOp P W0 o fr H r H :=
  .of_pure fun C a _ _ hr => by
    obtain ⟨v, h1, h2⟩ := pvOk_spec h C.w
    have e1 := rep_toV hvx (rep_eval (hr x (by simp [ho, Op.operands])) hx)
    have e2 := rep_toV hvy (rep_eval (hr y (by simp [ho, Op.operands])) hy)
    refine ⟨v, ?_, h2 C⟩
    simp only [execOp, ho, e1, e2]
    rw [Sem.run_bind, h1]
    rfl

theorem aop_un {op : UnOp} {t : TypeId} {x : Operand} {ax r : AV} {vx : Value} (ho : o.op = .unOp op t x) (hx : evalA fr x = some ax) (hvx : ax.toV = some vx)
    (h : pvOk P (Op.unary op vx) = some r) : AOp P W0 o fr H r H :=
  .of_pure fun C a _ _ hr => by
    obtain ⟨v, h1, h2⟩ := pvOk_spec h C.w
    have e1 := rep_toV hvx (rep_eval (hr x (by simp [ho, Op.operands])) hx)
    refine ⟨v, ?_, h2 C⟩
    simp [execOp, ho, e1, h1]

theorem aop_convert {s d : TypeId} {x : Operand} {ax r : AV} {vx : Value} (ho : o.op = .convert s d x) (hx : evalA fr x = some ax) (hvx : ax.toV = some vx)
    (h : pvOk P (convert s d vx) = some r) : AOp P W0 o fr H r H :=
  .of_pure fun C a _ _ hr => by
    obtain ⟨v, h1, h2⟩ := pvOk_spec h C.w
    have e1 := rep_toV hvx (rep_eval (hr x (by simp [ho, Op.operands])) hx)
    refine ⟨v, ?_, h2 C⟩
    simp [execOp, ho, e1, h1]

theorem aop_index {t : TypeId} {x i : Operand} {ax ai r : AV} {vx vi : Value} (ho : o.op = .index t x i) (hx : evalA fr x = some ax) (hi : evalA fr i = some ai) (hvx : ax.toV = some vx) (hvi : ai.toV = some vi)
    (h : pvOk P (Instr.index t vx vi) = some r) : AOp P W0 o fr H r H :=
  .of_pure fun C a _ _ hr => by
    obtain ⟨v, h1, h2⟩ := pvOk_spec h C.w
    have e1 := rep_toV hvx (rep_eval (hr x (by simp [ho, Op.operands])) hx)
    have e2 := rep_toV hvi (rep_eval (hr i (by simp [ho, Op.operands])) hi)
    refine ⟨v, ?_, h2 C⟩
    simp [execOp, ho, e1, e2, h1]

theorem aop_extract {x : Operand} {i : Nat} {vs : List AV} {r : AV} (ho : o.op = .extract x i) (hx : evalA fr x = some (.tuple vs)) (h : vs[i]? = some r) : AOp P W0 o fr H r H :=
  .of_pure fun C a _ _ hr => by
    have h1 := rep_eval (hr x (by simp [ho, Op.operands])) hx
    generalize hu : a.eval x = u at h1
    cases h1
    case tuple us hs hk =>
      have hlt : i < us.size := by rw [hs]; exact (List.getElem?_eq_some_iff.1 h).1
      refine ⟨us.getD i undef, ?_, hk i r h⟩
      have e := getD_of hlt
      simp only [execOp, ho, hu, Instr.extract, e]
      rfl

theorem aop_makeInterface {t : TypeId} {d : TypeDesc} {x : Operand} {ax : AV} (ho : o.op = .makeInterface t x) (hx : evalA fr x = some ax) (hd : P.underlying t = some d) (hn : ∀ ms, d ≠ .interface ms) : AOp P W0 o fr H (.ifc t ax) H :=
  .of_pure fun C a _ _ hr => by
    have h1 := rep_eval (hr x (by simp [ho, Op.operands])) hx
    refine ⟨.iface t (a.eval x), ?_, .ifc t ax _ h1⟩
    cases d <;> first
      | exact absurd rfl (hn _)
      | simp [execOp, ho, Instr.makeInterface, run_underlying hd]

theorem aop_makeFunc {fn : Fn} {caps : Array Operand} {cs : List AV} (ho : o.op = .makeFunc fn #[] caps) (hc : caps.toList.mapM (evalA fr) = some cs) : AOp P W0 o fr H (.clo fn cs) H :=
  .of_pure fun C a _ _ hr => by
    refine ⟨.func fn #[] (caps.map a.eval), by simp [execOp, ho, Instr.makeFunc], ?_⟩
    have key : ∀ (l : List Operand) (cs : List AV), l.mapM (evalA fr) = some cs → cs.length = l.length ∧ ∀ (k : Nat) (x : AV), cs[k]? = some x → ∃ y, l[k]? = some y ∧ evalA fr y = some x := by
      intro l
      induction l with
      | nil => intro cs h; simp only [List.mapM_nil, Option.pure_def, Option.some.injEq] at h; subst h; exact ⟨rfl, fun k x hk => by simp at hk⟩
      | cons y l ih =>
        intro cs h
        rw [List.mapM_cons] at h
        simp only [Option.bind_eq_bind, Option.bind_eq_some_iff, Option.pure_def, Option.some.injEq] at h
        obtain ⟨z, hz, zs, hzs, rfl⟩ := h
        obtain ⟨h1, h2⟩ := ih zs hzs
        refine ⟨by simp [h1], fun k x hk => ?_⟩
        cases k with
        | zero => simp at hk; subst hk; exact ⟨y, by simp, hz⟩
        | succ k => simp at hk; simpa using h2 k x hk
    obtain ⟨h1, h2⟩ := key _ _ hc
    refine .clo fn cs _ (by simpa using h1.symm) (fun k x hx => ?_)
    obtain ⟨y, hy, he⟩ := h2 k x hx
    have hy' : caps[k]? = some y := by simpa using hy
    have hlt : k < caps.size := (Array.getElem?_eq_some_iff.1 hy').1
    have : (caps.map a.eval).getD k undef = a.eval y := by
      have e := getD_of (vs := caps.map a.eval) (k := k) (by simpa using hlt)
      rw [Array.getElem?_map, hy'] at e
      simpa using e.symm
    rw [this]
    exact rep_eval (hr y (by simp [ho, Op.operands]; exact Array.mem_of_getElem? hy')) he

end
end Go.Av
