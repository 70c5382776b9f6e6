/- Calls: what a function does with values that it only reads. -/
import Derived.Test.YtcfogckbncfpnaaDoorAvCode
namespace Go.Av
open Go.RowKit (Below)

/-- No object of the proof's heap is named in a value. -/
inductive NoId : AV → Prop
  | any : NoId .any
  | imm (v : Value) : NoId (.imm v)
  | sl (es : List AV) : (∀ e ∈ es, NoId e) → NoId (.sl es)
  | clip (es : List AV) : (∀ e ∈ es, NoId e) → NoId (.clip es)
  | pp (fl : List AV) (j : Nat) : (∀ e ∈ fl, NoId e) → NoId (.pp fl j)
  | agg (cs : List AV) : (∀ e ∈ cs, NoId e) → NoId (.agg cs)
  | tuple (cs : List AV) : (∀ e ∈ cs, NoId e) → NoId (.tuple cs)
  | ifc (t : TypeId) (x : AV) : NoId x → NoId (.ifc t x)
  | clo (fn : Fn) (cs : List AV) : (∀ e ∈ cs, NoId e) → NoId (.clo fn cs)

@[simp] theorem noId_any : NoId .any := .any
@[simp] theorem noId_imm (v : Value) : NoId (.imm v) := .imm v
@[simp] theorem noId_sl (es : List AV) : NoId (.sl es) ↔ ∀ e ∈ es, NoId e := ⟨fun h => by cases h; assumption, .sl es⟩
@[simp] theorem noId_clip (es : List AV) : NoId (.clip es) ↔ ∀ e ∈ es, NoId e := ⟨fun h => by cases h; assumption, .clip es⟩
@[simp] theorem noId_pp (es : List AV) (j : Nat) : NoId (.pp es j) ↔ ∀ e ∈ es, NoId e := ⟨fun h => by cases h; assumption, .pp es j⟩
@[simp] theorem noId_agg (es : List AV) : NoId (.agg es) ↔ ∀ e ∈ es, NoId e := ⟨fun h => by cases h; assumption, .agg es⟩
@[simp] theorem noId_tuple (es : List AV) : NoId (.tuple es) ↔ ∀ e ∈ es, NoId e := ⟨fun h => by cases h; assumption, .tuple es⟩
@[simp] theorem noId_ifc (t : TypeId) (x : AV) : NoId (.ifc t x) ↔ NoId x := ⟨fun h => by cases h; assumption, .ifc t x⟩
@[simp] theorem noId_clo (fn : Fn) (es : List AV) : NoId (.clo fn es) ↔ ∀ e ∈ es, NoId e := ⟨fun h => by cases h; assumption, .clo fn es⟩
@[simp] theorem noId_view (a b c : Nat) : NoId (.view a b c) ↔ False := ⟨(by intro h; cases h), False.elim⟩
@[simp] theorem noId_ref (a b c : Nat) : NoId (.ref a b c) ↔ False := ⟨(by intro h; cases h), False.elim⟩

/-- A value seen from another context over the same memory, or more. -/
theorem Rep.move {C C' : Ctx} {x : AV} {v : Value} (h : Rep C x v) (hn : NoId x) (hs : C.w.heap.size ≤ C'.w.heap.size) (hk : ∀ b, b < C.w.heap.size → ¬ C.bad b → C'.w.heap[b]? = C.w.heap[b]? ∧ ¬ C'.bad b) : Rep C' x v := by
  have hh : ∀ {b o : Nat} {v : Value}, b < C.w.heap.size → ¬ C.bad b → Holds C.w b o v → Holds C'.w b o v := fun {b o v} hb hn h => by
    refine ⟨?_, h.2⟩
    rw [World.cell?_of_block (w := C.w) (a := ⟨b, o, none⟩) (hk b hb hn).1]
    exact h.1
  induction h with
  | any v => exact .any v
  | imm v hv => exact .imm v hv
  | slNil a cap => exact .slNil a cap
  | sl es b off sz cap c hb hbad hc hf hcell _ ih =>
    simp only [noId_sl] at hn
    refine .sl es b off sz cap c (Nat.lt_of_lt_of_le hb hs) (hk b hb hbad).2 hc hf (fun i j e x he hx => hh hb hbad (hcell i j e x he hx)) (fun i j e x he hx => ih i j e x he hx ?_)
    have h1 := hn e (List.mem_of_getElem? he)
    cases e <;> simp only [AV.flat] at hx
    case agg cs => simp only [noId_agg] at h1; exact h1 x (List.mem_of_getElem? hx)
    all_goals
      have := List.mem_of_getElem? hx
      simp only [List.mem_singleton] at this
      rw [this]; exact h1
  | clipNil a => exact .clipNil a
  | clip es b off sz c hb hbad hf hcell _ ih =>
    simp only [noId_clip] at hn
    refine .clip es b off sz c (Nat.lt_of_lt_of_le hb hs) (hk b hb hbad).2 hf (fun i j e x he hx => hh hb hbad (hcell i j e x he hx)) (fun i j e x he hx => ih i j e x he hx ?_)
    have h1 := hn e (List.mem_of_getElem? he)
    cases e <;> simp only [AV.flat] at hx
    case agg cs => simp only [noId_agg] at h1; exact h1 x (List.mem_of_getElem? hx)
    all_goals
      have := List.mem_of_getElem? hx
      simp only [List.mem_singleton] at this
      rw [this]; exact h1
  | view id off len v _ _ _ => simp at hn
  | ref id i j v _ _ _ => simp at hn
  | pp fl j b off c hb hbad hcell _ ih =>
    simp only [noId_pp] at hn
    exact .pp fl j b off c (Nat.lt_of_lt_of_le hb hs) (hk b hb hbad).2 (fun k x hx => hh hb hbad (hcell k x hx)) (fun k x hx => ih k x hx (hn x (List.mem_of_getElem? hx)))
  | agg cs vs hsz h1 _ ih => simp only [noId_agg] at hn; exact .agg cs vs hsz h1 (fun k x hx => ih k x hx (hn x (List.mem_of_getElem? hx)))
  | tuple cs vs hsz _ ih => simp only [noId_tuple] at hn; exact .tuple cs vs hsz (fun k x hx => ih k x hx (hn x (List.mem_of_getElem? hx)))
  | ifc t x v _ ih => simp only [noId_ifc] at hn; exact .ifc t x v (ih hn)
  | clo fn caps vs hsz _ ih => simp only [noId_clo] at hn; exact .clo fn caps vs hsz (fun k x hx => ih k x hx (hn x (List.mem_of_getElem? hx)))

/-- A value that lies in no memory. -/
inductive Dry : AV → Prop
  | any : Dry .any
  | imm (v : Value) : Dry (.imm v)
  | agg (cs : List AV) : (∀ e ∈ cs, Dry e) → Dry (.agg cs)
  | tuple (cs : List AV) : (∀ e ∈ cs, Dry e) → Dry (.tuple cs)
  | ifc (t : TypeId) (x : AV) : Dry x → Dry (.ifc t x)

@[simp] theorem dry_any : Dry .any := .any
@[simp] theorem dry_imm (v : Value) : Dry (.imm v) := .imm v
@[simp] theorem dry_agg (es : List AV) : Dry (.agg es) ↔ ∀ e ∈ es, Dry e := ⟨fun h => by cases h; assumption, .agg es⟩
@[simp] theorem dry_tuple (es : List AV) : Dry (.tuple es) ↔ ∀ e ∈ es, Dry e := ⟨fun h => by cases h; assumption, .tuple es⟩
@[simp] theorem dry_ifc (t : TypeId) (x : AV) : Dry (.ifc t x) ↔ Dry x := ⟨fun h => by cases h; assumption, .ifc t x⟩

theorem Dry.rep {C C' : Ctx} {x : AV} {v : Value} (hd : Dry x) (h : Rep C x v) : Rep C' x v := by
  induction hd generalizing v with
  | any => exact .any v
  | imm u => cases h; exact .imm _ (by assumption)
  | agg cs _ ih =>
    match h with
    | .agg _ vs h1 h2 h3 => exact .agg cs vs h1 h2 (fun k x hx => ih x (List.mem_of_getElem? hx) (h3 k x hx))
  | tuple cs _ ih =>
    match h with
    | .tuple _ vs h1 h3 => exact .tuple cs vs h1 (fun k x hx => ih x (List.mem_of_getElem? hx) (h3 k x hx))
  | ifc t x _ ih =>
    match h with
    | .ifc _ _ v h1 => exact .ifc t x v (ih h1)

/-- The function can be called. -/
def Callable (P : Program) (f : FuncId) : Prop := ∀ args w, (callFunc f args).run P w = .ok (.enter f args) w

theorem callable_of {P : Program} {f : FuncId} {fn : Func} {c : Code} (hf : P.funcs[f]? = some fn) (hn : (fn.name == "runtime.NumGoroutine") = false) (hb : fn.body = some c) : Callable P f := fun args w => by
  have hn' : ¬ fn.name = "runtime.NumGoroutine" := by simpa using hn
  simp [callFunc, hf, hn', hb]

/-- What a function does that only reads what it is given: it hands back what is nobody's own. -/
structure Fun1 (P : Program) (W0 : World) (f : FuncId) (xs : List AV) (r : AV) : Prop where
  call : Callable P f
  noid : NoId r
  runs : ∀ (C : Ctx) (vals : Array Value), Inv W0 C → C.H = .empty → vals.size = xs.length → (∀ (k : Nat) (x : AV), xs[k]? = some x → Rep C x (vals.getD k undef)) →
    Calls P f vals C.w (fun e w' => ∃ v C', e = .returned v ∧ C'.w = w' ∧ Ext C C' ∧ Inv W0 C' ∧ Rep C' r v)

section
variable {P : Program} {W0 : World} {C : Ctx} {fr : Fr} {a : Act} {H : Heap} {o : Oper} {N : Nat}

/-- The same memory, without objects. -/
def Ctx.bare (C : Ctx) (pr : Nat → Prop) : Ctx := { w := C.w, H := .empty, pl := C.pl, prot := pr }

theorem bare_own (pr : Nat → Prop) (b : Nat) : ¬ (C.bare pr).own b := by
  rintro ⟨id, es, h, _⟩
  simp [Ctx.bare, Heap.empty, Heap.get, lk] at h

theorem Inv.bare (hI : Inv W0 C) {pr : Nat → Prop} (hp : ∀ b, pr b → b < C.w.heap.size) (hp2 : ∀ b, pr b → W0.heap.size ≤ b) : Inv W0 (C.bare pr) where
  fresh id es h := by simp [Ctx.bare, Heap.empty, Heap.get, lk] at h
  nil id es h := by simp [Ctx.bare, Heap.empty, Heap.get, lk] at h
  obj id es h := by simp [Ctx.bare, Heap.empty, Heap.get, lk] at h
  sep i1 i2 e1 e2 h := by simp [Ctx.bare, Heap.empty, Heap.get, lk] at h
  prot id es h := by simp [Ctx.bare, Heap.empty, Heap.get, lk] at h
  szok id s h := by simp [Ctx.bare, Heap.empty, Heap.sz, lk] at h
  protlt := hp
  protge := hp2
  size := hI.size
  glob b h := ⟨(hI.glob b h).1, bare_own pr b⟩

theorem Inv.own_ge (hI : Inv W0 C) {b : Nat} (h : C.own b) : W0.heap.size ≤ b := by
  rcases Nat.lt_or_ge b W0.heap.size with hb | hb
  · exact absurd h (hI.glob b hb).2
  · exact hb

theorem Rep.bare {x : AV} {v : Value} (h : Rep C x v) (hn : NoId x) {pr : Nat → Prop} (hp : ∀ b, ¬ C.bad b → ¬ pr b) : Rep (C.bare pr) x v :=
  h.move hn (Nat.le_refl _) (fun b _ hb => ⟨rfl, fun h => by
    rcases h with h | h
    · exact bare_own pr b h
    · exact hp b hb h⟩)

theorem resolve_func {f : FuncId} {args : Array Operand} {tys : Array TypeId} (ho : o.op = .call { callee := .value (.func f), args := args, argTypes := tys }) (hc : Callable P f) (w : World) :
    (execOp a.eval o).run P w = .ok (.enter f (args.map a.eval)) w := by
  have h1 : a.eval (.func f) = .func (.func f) #[] #[] := rfl
  have h2 := hc (args.map a.eval) w
  simp only [execOp, ho, resolve, h1, Deferred.ofValue]
  simpa [invoke] using h2

theorem below_of_ext {C1 C2 : Ctx} (h : Ext C1 C2) (hn : ∀ b, ¬ C1.own b) : Below C1.w.heap.size C1.w C2.w :=
  ⟨h.below.os, h.below.tape, h.below.output, h.below.size, fun k hk => h.keep k hk (hn k)⟩

/-- A call of what only reads. -/
theorem aop_call1 {f : FuncId} {args : Array Operand} {tys : Array TypeId} {xs : List AV} {r : AV} (ho : o.op = .call { callee := .value (.func f), args := args, argTypes := tys }) (hxs : args.toList.mapM (evalA fr) = some xs) (hno : ∀ x ∈ xs, NoId x) (hf : Fun1 P W0 f xs r) : AOp P W0 o fr H r H := by
  intro C a hI hH hop K Q hK
  unfold Oper.wp
  rw [resolve_func ho hf.call, Oper.upon_enter]
  obtain ⟨m1, m2⟩ := mapM_eval args.toList xs hxs
  have hI1 : Inv W0 (C.bare (fun b => C.prot b ∨ C.own b)) := hI.bare (fun b hb => by
    rcases hb with h | h
    · exact hI.protlt b h
    · exact hI.own_lt h) (fun b hb => by
    rcases hb with h | h
    · exact hI.protge b h
    · exact hI.own_ge h)
  have hrep : ∀ (k : Nat) (x : AV), xs[k]? = some x → Rep (C.bare (fun b => C.prot b ∨ C.own b)) x ((args.map a.eval).getD k undef) := fun k x hx => by
    obtain ⟨y, g1, g2⟩ := m2 k x hx
    have hy : args[k]? = some y := by simpa using g1
    have hlt : k < (args.map a.eval).size := by have := (Array.getElem?_eq_some_iff.1 hy).1; simpa using this
    have e : (args.map a.eval).getD k undef = a.eval y := by
      have := getD_of hlt
      rw [Array.getElem?_map, hy] at this
      exact (Option.some.inj this).symm
    rw [e]
    have hmem : y ∈ o.op.operands := by rw [ho]; simp [Op.operands, Call.operands]; exact .inr (Array.mem_of_getElem? hy)
    exact (rep_eval (hop y hmem) g2).bare (hno x (List.mem_of_getElem? hx)) (fun b hb h => hb (h.elim .inr .inl))
  refine (hf.runs _ (args.map a.eval) hI1 rfl (by simpa using m1.symm) hrep).mono ?_
  rintro e w' ⟨v, C1, rfl, rfl, hE, hI', hr⟩
  have hB := below_of_ext hE (bare_own _)
  have hB' : Below C.w.heap.size C.w C1.w := hB
  refine hK v (C.inW C1.w) (ext_of_block hB') (hI.inW hB') hH (hr.move hf.noid (Nat.le_refl _) (fun b hb hn => ⟨rfl, fun h => hn ?_⟩))
  rcases h with h | h
  · exact .inr (by rw [hE.prot]; exact .inr h)
  · exact .inr (by rw [hE.prot]; exact .inl h)

/-- What is lent to a call: a slice of the proof's own, to be read. -/
def AV.lendCell (H : Heap) : AV → AV
  | .view id off len => match H.get id with
    | some es => .sl ((es.drop off).take len)
    | none => .any
  | x => x

def AV.lend (H : Heap) : AV → AV
  | .agg cs => .agg (cs.map (AV.lendCell H))
  | x => x.lendCell H

theorem rep_lendCell (hI : Inv W0 C) {x : AV} {v : Value} (h : Rep C x v) (hn : NoId (x.lendCell C.H)) : Rep (C.bare C.prot) (x.lendCell C.H) v := by
  have plain : NoId x → x.lendCell C.H = x → Rep (C.bare C.prot) (x.lendCell C.H) v := fun h1 h2 => by
    rw [h2]; exact h.bare h1 (fun b hb h => hb (.inr h))
  cases x with
  | view id off len =>
    simp only [AV.lendCell] at hn ⊢
    cases hg : C.H.get id with
    | none => exact .any _
    | some es =>
      simp only [hg] at hn ⊢
      obtain ⟨ad, cap, rfl, h2, h3⟩ := rep_elems hI h (es := (es.drop off).take len) (by simp [AV.elems, hg])
      simp only [noId_sl] at hn
      rcases h3 with h3 | ⟨b, o, sz, rfl, h4, h5, h6⟩
      · rw [h3]; exact .slNil _ _
      · by_cases hes : (es.drop off).take len = []
        · rw [hes]; exact .slNil _ _
        · have hne : (C.pl id).nil = false := by
            cases hq : (C.pl id).nil with
            | false => rfl
            | true => exact absurd (by rw [hI.nil id es hg hq]; simp) hes
          have hb : b = (C.pl id).blk := by
            have this : SliceAt (C.pl id) off len _ := match h with
              | .view _ _ _ _ _ hs _ => hs es hg
            unfold SliceAt at this
            rw [if_neg (by simp [hne])] at this
            obtain ⟨A, cap', h7, h8, h9, h10, h11⟩ := this
            simp only [Value.slice.injEq] at h7
            obtain ⟨h7, h12, h13⟩ := h7
            rcases h11 with h11 | h11
            · subst h11
              have : ((es.drop off).take len).length = 0 := by omega
              exact absurd (List.eq_nil_of_length_eq_zero this) hes
            · subst h11; cases h7; rfl
          -- the cells, chosen
          have hch : ∀ i j, ∃ u : Value, ∀ e x, ((es.drop off).take len)[i]? = some e → e.flat[j]? = some x → Holds C.w b (o + i * sz + j) u ∧ Rep C x u := fun i j => by
            cases he : ((es.drop off).take len)[i]? with
            | none => exact ⟨undef, fun e x h => by cases h⟩
            | some e =>
              cases hx : e.flat[j]? with
              | none => exact ⟨undef, fun e' x h hx' => by cases h; rw [hx] at hx'; cases hx'⟩
              | some x =>
                obtain ⟨u, h7, h8⟩ := h6 i j e x he hx
                exact ⟨u, fun e' x' h hx' => by cases h; rw [hx] at hx'; cases hx'; exact ⟨h7, h8⟩⟩
          refine .sl _ b o sz cap (fun i j => Classical.choose (hch i j)) h4 (fun h => ?_) h2 h5 (fun i j e x he hx => (Classical.choose_spec (hch i j) e x he hx).1) (fun i j e x he hx => ?_)
          · rcases h with h | h
            · exact bare_own _ b h
            · exact hI.prot id es hg hne (by rw [← hb]; exact h)
          · have hne' := hn e (List.mem_of_getElem? he)
            refine (Classical.choose_spec (hch i j) e x he hx).2.bare ?_ (fun b hb h => hb (.inr h))
            cases e <;> simp only [AV.flat] at hx
            case agg cs => simp only [noId_agg] at hne'; exact hne' x (List.mem_of_getElem? hx)
            all_goals
              have := List.mem_of_getElem? hx
              simp only [List.mem_singleton] at this
              rw [this]; exact hne'
  | _ => exact plain hn rfl

theorem rep_lend (hI : Inv W0 C) {x : AV} {v : Value} (h : Rep C x v) (hn : NoId (x.lend C.H)) : Rep (C.bare C.prot) (x.lend C.H) v := by
  cases x with
  | agg cs =>
    simp only [AV.lend, noId_agg] at hn ⊢
    match h with
    | .agg _ vs h1 h2 h3 =>
    refine .agg _ vs (by simpa using h1) h2 (fun k x hx => ?_)
    simp only [List.getElem?_map, Option.map_eq_some_iff] at hx
    obtain ⟨y, hy, rfl⟩ := hx
    exact rep_lendCell hI (h3 k y hy) (hn _ (List.mem_map_of_mem (List.mem_of_getElem? hy)))
  | _ => exact rep_lendCell hI h hn

/-- A call of what only reads, with what is lent to it: it hands back what lies in no memory. -/
theorem aop_call1L {f : FuncId} {args : Array Operand} {tys : Array TypeId} {ys xs : List AV} {r : AV} (ho : o.op = .call { callee := .value (.func f), args := args, argTypes := tys }) (hys : args.toList.mapM (evalA fr) = some ys) (hxs : ys.map (AV.lend H) = xs) (hno : ∀ x ∈ xs, NoId x) (hf : Fun1 P W0 f xs r) (hd : Dry r) : AOp P W0 o fr H r H := by
  intro C a hI hH hop K Q hK
  subst hH
  unfold Oper.wp
  rw [resolve_func ho hf.call, Oper.upon_enter]
  obtain ⟨m1, m2⟩ := mapM_eval args.toList ys hys
  have hI1 : Inv W0 (C.bare C.prot) := hI.bare hI.protlt hI.protge
  have hrep : ∀ (k : Nat) (x : AV), xs[k]? = some x → Rep (C.bare C.prot) x ((args.map a.eval).getD k undef) := fun k x hx => by
    rw [← hxs] at hx
    simp only [List.getElem?_map, Option.map_eq_some_iff] at hx
    obtain ⟨z, hz, rfl⟩ := hx
    obtain ⟨y, g1, g2⟩ := m2 k z hz
    have hy : args[k]? = some y := by simpa using g1
    have hlt : k < (args.map a.eval).size := by have := (Array.getElem?_eq_some_iff.1 hy).1; simpa using this
    have e : (args.map a.eval).getD k undef = a.eval y := by
      have := getD_of hlt
      rw [Array.getElem?_map, hy] at this
      exact (Option.some.inj this).symm
    rw [e]
    have hmem : y ∈ o.op.operands := by rw [ho]; simp [Op.operands, Call.operands]; exact .inr (Array.mem_of_getElem? hy)
    exact rep_lend hI (rep_eval (hop y hmem) g2) (hno _ (by rw [← hxs]; exact List.mem_map_of_mem (List.mem_of_getElem? hz)))
  refine (hf.runs _ (args.map a.eval) hI1 rfl (by rw [← hxs]; simpa using m1.symm) hrep).mono ?_
  rintro e w' ⟨v, C1, rfl, rfl, hE, hI', hr⟩
  have hB1 := below_of_ext hE (bare_own _)
  have hB : Below C.w.heap.size C.w C1.w := hB1
  exact hK v (C.inW C1.w) (ext_of_block hB) (hI.inW hB) rfl (hd.rep hr)

/-! ### From a body to what the function does -/

def argsFr : Nat → List AV → List (Nat × AV)
  | _, [] => []
  | k, x :: xs => (k, x) :: argsFr (k + 1) xs

theorem lk_argsFr : ∀ (xs : List AV) (k t : Nat) (x : AV), lk (argsFr k xs) t = some x → k ≤ t ∧ xs[t - k]? = some x
  | [], k, t, x, h => by cases h
  | y :: xs, k, t, x, h => by
    simp only [argsFr, lk] at h
    split at h
    · rename_i hk; subst hk; cases h; simp
    · rename_i hk
      obtain ⟨h1, h2⟩ := lk_argsFr xs (k + 1) t x h
      refine ⟨by omega, ?_⟩
      rw [show t - k = (t - (k + 1)) + 1 by omega]
      simpa using h2

def resOne (P : Program) (st : St) : ResultVar → Option AV
  | .tmp t => lk st.fr t
  | .cell q T => match lk st.fr q, szT P T with
    | some (.ref id i j), some (n, g) => match st.H.get id with
      | some es => match es[i]? with
        | some e => partA e.flat j n g
        | none => none
      | none => none
    | _, _ => none

def resA (P : Program) (rs : List ResultVar) (st : St) : Option AV :=
  match rs.mapM (resOne P st) with
  | some [r] => some r
  | some l => some (.tuple l)
  | none => none

def resF (tm : Array Value) : ResultVar → Sem Value
  | .tmp t => Pure.pure (tm.getD t undef)
  | .cell q t => do loadVar t (← asAddr (tm.getD q undef))

theorem run_resOne {st : St} (hr : Rel W0 N (lk st.fr) st.H C a) {x : ResultVar} {r : AV} (h : resOne P st x = some r) :
    ∃ v, (resF a.tmps x).run P C.w = .ok v C.w ∧ Rep C r v := by
  cases x with
  | tmp t => exact ⟨_, rfl, hr.rep t r h⟩
  | cell q T =>
    simp only [resOne] at h
    split at h
    · rename_i id i j n g h1 h2
      split at h
      · rename_i es h3
        split at h
        · rename_i e h4
          have h5 := hr.rep q _ h1
          have hid : C.H.get id = some es := by rw [hr.heap]; exact h3
          generalize hu : a.tmps.getD q undef = u at h5
          match h5 with
          | .ref _ _ _ _ hid' h6 _ =>
          obtain ⟨hn, hu2⟩ := h6 es hid
          subst hu2
          obtain ⟨v, h7, h8⟩ := run_loadVar_cells h2 (cellsAt_obj hr.inv hid hn h4 j) (partA_drop h)
          refine ⟨v, ?_, h8⟩
          show ((do loadVar T (← asAddr (a.tmps.getD q undef))) : Sem Value).run P C.w = _
          rw [hu]
          simp [asAddr, h7]
        · cases h
      · cases h
    · cases h

theorem run_results {st : St} (hr : Rel W0 N (lk st.fr) st.H C a) {fn : Func} {r : AV} (h : resA P fn.results.toList st = some r) : ∃ v, (results fn a.tmps).run P C.w = .ok v C.w ∧ Rep C r v := by
  have key : ∀ (l : List ResultVar) (rs : List AV), l.mapM (resOne P st) = some rs →
      ∃ vs : List Value, (l.mapM (resF a.tmps)).run P C.w = .ok vs C.w ∧ vs.length = rs.length ∧ ∀ (k : Nat) (x : AV), rs[k]? = some x → ∃ v, vs[k]? = some v ∧ Rep C x v := by
    intro l
    induction l with
    | nil =>
      intro rs h
      simp only [List.mapM_nil, Option.pure_def, Option.some.injEq] at h
      subst h
      exact ⟨[], rfl, rfl, fun k x hk => by simp at hk⟩
    | cons x l ih =>
      intro rs h
      rw [List.mapM_cons] at h
      simp only [Option.bind_eq_bind, Option.bind_eq_some_iff, Option.pure_def, Option.some.injEq] at h
      obtain ⟨z, hz, zs, hzs, rfl⟩ := h
      obtain ⟨v, g1, g2⟩ := run_resOne (P := P) hr hz
      obtain ⟨vs, g3, g4, g5⟩ := ih zs hzs
      refine ⟨v :: vs, ?_, by simp [g4], fun k x hk => ?_⟩
      · rw [List.mapM_cons, Sem.run_bind, g1]
        simp only [Result.andThen_ok]
        rw [Sem.run_bind, g3]
        rfl
      · cases k with
        | zero => simp at hk; subst hk; exact ⟨v, rfl, g2⟩
        | succ k => simp at hk; simpa using g5 k x hk
  have hra : fn.results = fn.results.toList.toArray := by simp
  have gen : ∀ (g : ResultVar → Sem Value), (∀ x, g x = resF a.tmps x) → ∀ vs : List Value, (fn.results.toList.mapM (resF a.tmps)).run P C.w = .ok vs C.w →
      (do let vs ← fn.results.mapM g; pure (if h : vs.size = 1 then vs[0] else .tuple vs) : Sem Value).run P C.w = .ok (if h : vs.toArray.size = 1 then vs.toArray[0] else .tuple vs.toArray) C.w := fun g hg vs hvs => by
    rw [funext hg, hra, List.mapM_toArray, Sem.run_bind, Sem.run_map, hvs]
    rfl
  have hrun : ∀ vs : List Value, (fn.results.toList.mapM (resF a.tmps)).run P C.w = .ok vs C.w →
      (results fn a.tmps).run P C.w = .ok (if h : vs.toArray.size = 1 then vs.toArray[0] else .tuple vs.toArray) C.w := fun vs hvs => gen _ (fun x => by cases x <;> rfl) vs hvs
  unfold resA at h
  split at h
  · rename_i r' h1
    simp only [Option.some.injEq] at h; subst h
    obtain ⟨vs, g1, g2, g3⟩ := key _ _ h1
    obtain ⟨v, g4, g5⟩ := g3 0 r' rfl
    refine ⟨v, ?_, g5⟩
    have hvs : vs = [v] := by
      cases vs with
      | nil => simp at g2
      | cons u vs => cases vs with
        | nil => simp at g4; rw [g4]
        | cons _ _ => simp at g2
    subst hvs
    rw [hrun _ g1]
    rfl
  · rename_i rs hne h1
    simp only [Option.some.injEq] at h; subst h
    obtain ⟨vs, g1, g2, g3⟩ := key _ _ h1
    have hl : vs.toArray.size ≠ 1 := fun h => by
      have : rs.length = 1 := by rw [← g2]; simpa using h
      obtain ⟨r', hr'⟩ := List.length_eq_one_iff.1 this
      exact hne r' hr'
    refine ⟨.tuple vs.toArray, ?_, .tuple rs _ (by simpa using g2) (fun k x hk => ?_)⟩
    · rw [hrun _ g1, dif_neg hl]
    · obtain ⟨v, g4, g5⟩ := g3 k x hk
      have hlt : k < vs.toArray.size := by simpa using (List.getElem?_eq_some_iff.1 g4).1
      have : vs.toArray.getD k undef = v := by
        have := getD_of hlt
        simp only [List.getElem?_toArray, g4, Option.some.injEq] at this
        exact this.symm
      rw [this]; exact g5
  · cases h

/-- What is handed back, with all that is the proof's own given up. -/
def AV.frzCell (H : Heap) : AV → AV := AV.lendCell H
def AV.frz (H : Heap) : AV → AV
  | .agg cs => .agg (cs.map (AV.lendCell H))
  | .tuple vs => .tuple (vs.map (AV.lend H))
  | x => x.lendCell H

theorem rep_frz (hI : Inv W0 C) {x : AV} {v : Value} (h : Rep C x v) (hn : NoId (x.frz C.H)) : Rep (C.bare C.prot) (x.frz C.H) v := by
  cases x with
  | tuple cs =>
    simp only [AV.frz, noId_tuple] at hn ⊢
    match h with
    | .tuple _ vs h1 h3 =>
    refine .tuple _ vs (by simpa using h1) (fun k x hx => ?_)
    simp only [List.getElem?_map, Option.map_eq_some_iff] at hx
    obtain ⟨y, hy, rfl⟩ := hx
    exact rep_lend hI (h3 k y hy) (hn _ (List.mem_map_of_mem (List.mem_of_getElem? hy)))
  | agg cs => exact rep_lend hI h hn
  | _ => exact rep_lendCell hI h hn

theorem ext_bare {C0 : Ctx} (h0 : C0.H.next = 0) (hE : Mem C0 C) : Ext C0 (C.bare C.prot) where
  below := hE.below
  keep := hE.keep
  own b _ h := absurd h (bare_own _ b)
  next := by rw [h0]; exact Nat.zero_le _
  id i es hi _ := by rw [h0] at hi; exact absurd hi (Nat.not_lt_zero _)
  prot := hE.prot

/-- A function whose body does so. -/
theorem fun1_of_awp {f : FuncId} {fn : Func} {c : Code} {xs : List AV} {r : AV} (hf : P.funcs[f]? = some fn) (hb : fn.body = some c) (hname : (fn.name == "runtime.NumGoroutine") = false) (hN : fn.ntmps = N) (hxN : xs.length ≤ N) (hno : NoId r)
    (h : AWP P W0 N c ⟨argsFr 0 xs, .empty⟩ (fun e s => (e = .normal ∨ e = .ret) ∧ ∃ q, resA P fn.results.toList s = some q ∧ q.frz s.H = r)) : Fun1 P W0 f xs r where
  call := callable_of hf hname hb
  noid := hno
  runs C vals hI hH hsz hrep := by
    refine calls_of_wp hf hb ?_
    have hrel : Rel W0 N (lk (argsFr 0 xs)) .empty C { tmps := vals ++ Array.replicate (fn.ntmps - vals.size) undef, defers := [] } := by
      refine ⟨hH, hI, by simp [hN]; omega, rfl, fun t x hx => ?_⟩
      obtain ⟨_, h2⟩ := lk_argsFr xs 0 t x hx
      have hlt : t < vals.size := by rw [hsz]; exact (List.getElem?_eq_some_iff.1 h2).1
      have := hrep t x h2
      have e : (vals ++ Array.replicate (fn.ntmps - vals.size) undef).getD t undef = vals.getD t undef := by
        rw [Array.getD_eq_getD_getElem?, Array.getElem?_append_left hlt, ← Array.getD_eq_getD_getElem?]
      rw [e]; exact this
    refine wp_mono (h C _ hrel) fun e a' w' ⟨s, C', g1, g2, g3, g4, q, g5, g6⟩ => ?_
    subst g1
    obtain ⟨v, g7, g8⟩ := run_results g3 g5
    have hpost : ∃ v' C2, Ending.returned v = .returned v' ∧ C2.w = C'.w ∧ Ext C C2 ∧ Inv W0 C2 ∧ Rep C2 r v' := by
      refine ⟨v, C'.bare C'.prot, rfl, rfl, ext_bare (by rw [hH]; rfl) g2, g3.inv.bare g3.inv.protlt g3.inv.protge, ?_⟩
      have := rep_frz g3.inv g8 (by rw [g3.heap, g6]; exact hno)
      rwa [g3.heap, g6] at this
    rcases g4 with rfl | rfl
    · exact ⟨g3.defers, v, g7, hpost⟩
    · exact ⟨g3.defers, v, g7, hpost⟩

end
end Go.Av
