/- What a proof sees of a run, and the rules by which it goes through a text. -/
import Derived.Test.YtkiiigfefobdlaaDoorBase
import Derived.RangeFuncRecord
import Derived.ScopeJumps
import Derived.Laws.StructEq
import Derived.Sort.Grow
import Derived.Lib.SlicesCompact
import Derived.KernelRfl
import Derived.RecoverIn
import Derived.Shelf.SlSortCmp.NoneTotal
import Derived.Carry
import Derived.ProofKit
import Derived.OpenShut
set_option linter.unusedSimpArgs false
set_option linter.unusedVariables false
section
/- Loops by their own rounds; functions that hand back what is their own. -/
namespace Go.Av
open Go.RowKit (Below)

section
variable {P : Program} {W0 : Base} {N : Nat} {st : St} {Q : Exit → St → Prop}

theorem awp_iter {c : Code} {σ α : Type} (b : σ → Option (σ ⊕ α)) (S : σ → St) {s0 : σ} {r : α} (h : Sh.loop b s0 = some r) (hw : Weak W0 N st (S s0))
    (round : ∀ s o, b s = some o → (∀ x, o = .inr x → x = r) → AWP P W0 N c (S s) (Then (fun s1 => ∃ s', o = .inl s' ∧ Weak W0 N s1 (S s')) Q)) : AWP P W0 N (.loop c) st Q := by
  refine awp_loopS (σ := σ × Nat) (fun p => S p.1) (fun p => Sh.iter b p.2 p.1 = some r) (fun p => p.2) (s0, Sh.FUEL) h hw ?_
  rintro ⟨s, n⟩ hn
  cases n with
  | zero => cases hn
  | succ n =>
    simp only [Sh.iter] at hn
    cases hb : b s with
    | none => simp [hb] at hn
    | some o =>
      rw [hb] at hn
      refine (round s o hb (fun x hx => ?_)).mono fun e s1 h1 => ?_
      · subst hx; simpa using hn
      · cases e with
        | normal =>
          obtain ⟨s', rfl, h2⟩ := h1
          exact ⟨(s', n), hn, Nat.lt_succ_self n, h2⟩
        | _ => exact h1


inductive Shift (ok : AV → Prop) (n : Nat) : AV → AV → Prop
  | same (x : AV) : ok x → Shift ok n x x
  | view (id off len : Nat) : Shift ok n (.view id off len) (.view (n + id) off len)
  | ref (id i j : Nat) : Shift ok n (.ref id i j) (.ref (n + id) i j)
  | agg (cs cs' : List AV) : cs.length = cs'.length → (∀ (k : Nat) (x x' : AV), cs[k]? = some x → cs'[k]? = some x' → Shift ok n x x') → Shift ok n (.agg cs) (.agg cs')
  | tuple (cs cs' : List AV) : cs.length = cs'.length → (∀ (k : Nat) (x x' : AV), cs[k]? = some x → cs'[k]? = some x' → Shift ok n x x') → Shift ok n (.tuple cs) (.tuple cs')
  | clo (fn : Fn) (cs cs' : List AV) : cs.length = cs'.length → (∀ (k : Nat) (x x' : AV), cs[k]? = some x → cs'[k]? = some x' → Shift ok n x x') → Shift ok n (.clo fn cs) (.clo fn cs')
  | ifc (t : TypeId) (x x' : AV) : Shift ok n x x' → Shift ok n (.ifc t x) (.ifc t x')

structure ShiftL (ok : AV → Prop) (n : Nat) (es es' : List AV) : Prop where
  len : es.length = es'.length
  see : ∀ (k : Nat) (e e' : AV), es[k]? = some e → es'[k]? = some e' → e.flat.length = e'.flat.length ∧ ∀ (j : Nat) (x x' : AV), e.flat[j]? = some x → e'.flat[j]? = some x' → Shift ok n x x'

def Joined (ok : AV → Prop) (n : Nat) : List (Nat × (Nat × List AV)) → List (Nat × (Nat × List AV)) → Prop
  | [], [] => True
  | (i, (s, es)) :: l, (j, (s', es')) :: l' => j = n + i ∧ s = s' ∧ ShiftL ok n es es' ∧ Joined ok n l l'
  | _, _ => False

theorem ShiftL.same {ok : AV → Prop} {n : Nat} {es : List AV} (h : ∀ e ∈ es, ∀ x ∈ e.flat, ok x) : ShiftL ok n es es :=
  ⟨rfl, fun k e e' h1 h2 => by
    rw [h1] at h2; cases h2
    exact ⟨rfl, fun j x x' h3 h4 => by rw [h3] at h4; cases h4; exact .same x (h e (List.mem_of_getElem? h1) x (List.mem_of_getElem? h3))⟩⟩

theorem Joined.at {ok : AV → Prop} {n : Nat} : ∀ {l l' : List (Nat × (Nat × List AV))}, Joined ok n l l' → ∀ {k s : Nat} {es' : List AV}, lk l' k = some (s, es') → ∃ i es, k = n + i ∧ lk l i = some (s, es) ∧ ShiftL ok n es es'
  | [], [], _, _, _, _, h => by cases h
  | (i, (s, es)) :: l, (j, (s', es')) :: l', h, k, q, es2, hk => by
    obtain ⟨rfl, rfl, h1, h2⟩ := h
    simp only [lk] at hk
    split at hk
    · rename_i e; subst e; cases hk
      exact ⟨i, es, rfl, by simp [lk], h1⟩
    · rename_i e
      obtain ⟨i', es3, rfl, h3, h4⟩ := Joined.at h2 hk
      refine ⟨i', es3, rfl, ?_, h4⟩
      simp only [lk]
      rw [if_neg (by omega)]; exact h3
  | [], _ :: _, h, _, _, _, _ => h.elim
  | _ :: _, [], h, _, _, _, _ => h.elim

theorem lk_append {α : Type} (l1 l2 : List (Nat × α)) (k : Nat) : lk (l1 ++ l2) k = match lk l1 k with | some x => some x | none => lk l2 k := by
  induction l1 with
  | nil => rfl
  | cons p l ih =>
    obtain ⟨s, u⟩ := p
    simp only [List.cons_append, lk]
    split <;> simp [*]

structure Fun2 (P : Program) (W0 : World) (f : FuncId) (xs : List AV) (r : AV) (Hr : Heap) : Prop where
  call : Callable P f
  runs : ∀ (C : Ctx) (vals : Array Value), Inv (.of W0) C → C.H = .empty → C.dfs = [] → vals.size = xs.length → (∀ (k : Nat) (x : AV), xs[k]? = some x → Rep C x (vals.getD k undef)) →
    Calls P f vals C.w (fun e w' => ∃ v C', e = .returned v ∧ C'.w = w' ∧ Ext C C' ∧ Inv (.of W0) C' ∧ C'.H = Hr ∧ Rep C' r v)

variable {C C1 : Ctx}

def Ctx.join (C C1 : Ctx) (objs' : List (Nat × (Nat × List AV))) : Ctx :=
  { w := C1.w, H := { next := C.H.next + C1.H.next, objs := C.H.objs ++ objs', lps := C.H.lps }, pl := fun k => if k < C.H.next then C.pl k else C1.pl (k - C.H.next), prot := C.prot, dfs := C.dfs, pin := C.pin }

theorem join_rules {ok : AV → Prop} {pr : Nat → Prop} {objs' : List (Nat × (Nat × List AV))} (hI : Inv W0 C) (hI1 : Inv (.of W0.w) C1) (hE : Ext (C.bare pr) C1) (hpr : ∀ b, C.prot b → pr b) (hJ : Joined ok C.H.next C1.H.objs objs')
    (hok : ∀ x v, ok x → Rep C1 x v → (∀ b, b < C1.w.heap.size → ¬ C1.bad b → ¬ (C.join C1 objs').bad b ∨ ∀ C' : Ctx, Rep C' x v) → Rep (C.join C1 objs') x v) (hbad : (∀ b, C.own b → pr b) ∨ ∀ x, ok x → Dry x) :
    Ext C (C.join C1 objs') ∧ Inv W0 (C.join C1 objs') ∧ ∀ x x' v, Shift ok C.H.next x x' → Rep C1 x v → Rep (C.join C1 objs') x' v := by
  have hkeep : ∀ b, b < C.w.heap.size → C1.w.heap[b]? = C.w.heap[b]? := fun b hb => hE.keep b hb (bare_own _ b)
  have hnew : ∀ b, C1.own b → C.w.heap.size ≤ b := fun b hb => by
    rcases Nat.lt_or_ge b C.w.heap.size with h | h
    · exact absurd (hE.own b h hb) (bare_own _ b)
    · exact h
  have hprot1 : C1.prot = pr := hE.prot
  have hold : ∀ {k : Nat} {p : Nat × List AV}, lk C.H.objs k = some p → k < C.H.next := fun {k p} h => hI.fresh k p.2 (by simp [Heap.get, h])
  -- an object of the joined heap
  have getJ : ∀ {k s : Nat} {es' : List AV}, lk (C.H.objs ++ objs') k = some (s, es') → (lk C.H.objs k = some (s, es') ∧ k < C.H.next) ∨ ∃ i es, k = C.H.next + i ∧ lk C1.H.objs i = some (s, es) ∧ ShiftL ok C.H.next es es' := fun {k s es'} h => by
    rw [lk_append] at h
    cases hk : lk C.H.objs k with
    | some p => rw [hk] at h; simp only [Option.some.injEq] at h; subst h; exact .inl ⟨rfl, hold hk⟩
    | none => rw [hk] at h; exact .inr (hJ.at h)
  have plO : ∀ {k : Nat}, k < C.H.next → (C.join C1 objs').pl k = C.pl k := fun {k} h => by simp [Ctx.join, h]
  have plN : ∀ i, (C.join C1 objs').pl (C.H.next + i) = C1.pl i := fun i => by
    have h1 : ¬ C.H.next + i < C.H.next := by omega
    have h2 : C.H.next + i - C.H.next = i := by omega
    show (if C.H.next + i < C.H.next then _ else _) = _
    rw [if_neg h1, h2]
  have getG : ∀ {k : Nat} {es' : List AV}, (C.join C1 objs').H.get k = some es' → ∃ s, lk (C.H.objs ++ objs') k = some (s, es') := fun {k es'} h => by
    simp only [Ctx.join, Heap.get, Option.map_eq_some_iff] at h
    obtain ⟨⟨s, e⟩, h1, rfl⟩ := h
    exact ⟨s, h1⟩
  have ownJ : ∀ b, (C.join C1 objs').own b → C.own b ∨ C1.own b := by
    rintro b (⟨k, es', h1, h2, h3⟩ | h)
    · obtain ⟨s, h4⟩ := getG h1
      rcases getJ h4 with ⟨h5, h6⟩ | ⟨i, es, rfl, h5, _⟩
      · rw [plO h6] at h2 h3; exact .inl (.inl ⟨k, es', by simp [Heap.get, h5], h2, h3⟩)
      · rw [plN] at h2 h3; exact .inr (.inl ⟨i, es, by simp [Heap.get, h5], h2, h3⟩)
    · exact .inl (.inr h)
  have ext : Ext C (C.join C1 objs') := {
    below := hE.below
    keep := fun b hb _ => hkeep b hb
    own := fun b hb h => by
      rcases ownJ b h with h | h
      · exact h
      · have := hnew b h; omega
    next := Nat.le_add_right _ _
    id := fun k es' hk h => by
      obtain ⟨s, h4⟩ := getG h
      rcases getJ h4 with ⟨h5, h6⟩ | ⟨i, es, rfl, _, _⟩
      · exact ⟨⟨es', by simp [Heap.get, h5]⟩, plO h6⟩
      · omega
    prot := rfl
    dfs := rfl
    pin := rfl }
  have badJ : ∀ b, b < C1.w.heap.size → ¬ C1.bad b → ∀ (x : AV) (v : Value), ok x → Rep C1 x v → ¬ (C.join C1 objs').bad b ∨ ∀ C' : Ctx, Rep C' x v := fun b _ hb x v hx hr => by
    rcases hbad with h | h
    · left
      rintro (h1 | h1)
      · rcases ownJ b h1 with h2 | h2
        · exact hb (.inr (by rw [hprot1]; exact h b h2))
        · exact hb (.inl h2)
      · exact hb (.inr (by rw [hprot1]; exact hpr b h1))
    · right; intro C'; exact (h x hx).rep hr
  have repJ : ∀ x x' v, Shift ok C.H.next x x' → Rep C1 x v → Rep (C.join C1 objs') x' v := by
    intro x x' v hs
    induction hs generalizing v with
    | same x hx => intro h; exact hok x v hx h (fun b hb hn => badJ b hb hn x v hx h)
    | view id off len =>
      intro h
      match h with
      | .view _ _ _ _ h1 h2 h3 =>
      refine .view _ _ _ _ (by show C.H.next + id < C.H.next + C1.H.next; omega) (fun es' he => ?_) h3
      obtain ⟨s, h4⟩ := getG he
      rw [plN]
      rcases getJ h4 with ⟨h5, h6⟩ | ⟨i, es, h5, h6, _⟩
      · omega
      · have : i = id := by omega
        subst this; exact h2 es (by simp [Heap.get, h6])
    | ref id i j =>
      intro h
      match h with
      | .ref _ _ _ _ h1 h2 h3 =>
      refine .ref _ _ _ _ (by show C.H.next + id < C.H.next + C1.H.next; omega) (fun es' he => ?_) h3
      obtain ⟨s, h4⟩ := getG he
      rw [plN]
      rcases getJ h4 with ⟨h5, h6⟩ | ⟨i, es, h5, h6, _⟩
      · omega
      · have : i = id := by omega
        subst this; exact h2 es (by simp [Heap.get, h6])
    | agg cs cs' hl _ ih =>
      intro h
      match h with
      | .agg _ vs h1 h2 h3 =>
      refine .agg cs' vs (h1.trans hl) h2 (fun k x' hx' => ?_)
      have hk : k < cs.length := by rw [hl]; exact (List.getElem?_eq_some_iff.1 hx').1
      exact ih k cs[k] x' (List.getElem?_eq_getElem hk) hx' _ (h3 k _ (List.getElem?_eq_getElem hk))
    | tuple cs cs' hl _ ih =>
      intro h
      match h with
      | .tuple _ vs h1 h3 =>
      refine .tuple cs' vs (h1.trans hl) (fun k x' hx' => ?_)
      have hk : k < cs.length := by rw [hl]; exact (List.getElem?_eq_some_iff.1 hx').1
      exact ih k cs[k] x' (List.getElem?_eq_getElem hk) hx' _ (h3 k _ (List.getElem?_eq_getElem hk))
    | clo fn cs cs' hl _ ih =>
      intro h
      match h with
      | .clo _ _ vs h1 h3 =>
      refine .clo fn cs' vs (h1.trans hl) (fun k x' hx' => ?_)
      have hk : k < cs.length := by rw [hl]; exact (List.getElem?_eq_some_iff.1 hx').1
      exact ih k cs[k] x' (List.getElem?_eq_getElem hk) hx' _ (h3 k _ (List.getElem?_eq_getElem hk))
    | ifc t x x' _ ih =>
      intro h
      match h with
      | .ifc _ _ v h1 => exact .ifc t x' v (ih v h1)
  refine ⟨ext, ?_, repJ⟩
  have obj1 : ∀ {i s : Nat} {es es' : List AV}, lk C1.H.objs i = some (s, es) → ShiftL ok C.H.next es es' → (C1.pl i).nil = false → ObjOK (C.join C1 objs') (C1.pl i) es' := fun {i s es es'} h hS hn => by
    have hO := hI1.obj i es (by simp [Heap.get, h]) hn
    have back : ∀ {q : Nat} {e' : AV}, es'[q]? = some e' → ∃ e, es[q]? = some e ∧ e.flat.length = e'.flat.length ∧ ∀ (j : Nat) (x x' : AV), e.flat[j]? = some x → e'.flat[j]? = some x' → Shift ok C.H.next x x' := fun {q e'} hq => by
      have hk : q < es.length := by rw [hS.len]; exact (List.getElem?_eq_some_iff.1 hq).1
      exact ⟨es[q], List.getElem?_eq_getElem hk, hS.see q _ e' (List.getElem?_eq_getElem hk) hq⟩
    refine ⟨hO.n.trans hS.len, hO.cap, hO.blk, hO.one, fun q e' he' => ?_, fun q j e' x' v he' hx' hv => ?_⟩
    · obtain ⟨e, h1, h2, _⟩ := back he'
      rw [← h2]; exact hO.flat q e h1
    · obtain ⟨e, h1, h2, h3⟩ := back he'
      have hj : j < e.flat.length := by rw [h2]; exact (List.getElem?_eq_some_iff.1 hx').1
      exact repJ _ _ _ (h3 j _ x' (List.getElem?_eq_getElem hj) hx') (hO.cell q j e _ v h1 (List.getElem?_eq_getElem hj) hv)
  exact {
    fresh := fun k es' h => by
      obtain ⟨s, h4⟩ := getG h
      show k < C.H.next + C1.H.next
      rcases getJ h4 with ⟨h5, h6⟩ | ⟨i, es, rfl, h5, _⟩
      · omega
      · have := hI1.fresh i es (by simp [Heap.get, h5]); omega
    nil := fun k es' h hn => by
      obtain ⟨s, h4⟩ := getG h
      rcases getJ h4 with ⟨h5, h6⟩ | ⟨i, es, rfl, h5, h6⟩
      · rw [plO h6] at hn; exact hI.nil k es' (by simp [Heap.get, h5]) hn
      · rw [plN] at hn
        have := hI1.nil i es (by simp [Heap.get, h5]) hn
        subst this
        exact List.eq_nil_of_length_eq_zero h6.len.symm
    obj := fun k es' h hn => by
      obtain ⟨s, h4⟩ := getG h
      rcases getJ h4 with ⟨h5, h6⟩ | ⟨i, es, rfl, h5, h6⟩
      · rw [plO h6] at hn ⊢
        have hg : C.H.get k = some es' := by simp [Heap.get, h5]
        exact (hI.obj k es' hg hn).ext ext (hkeep _ (hI.lt hg hn))
      · rw [plN] at hn ⊢; exact obj1 h5 h6 hn
    sep := fun k1 k2 e1 e2 h1 h2 n1 n2 hb => by
      obtain ⟨s1, g1⟩ := getG h1
      obtain ⟨s2, g2⟩ := getG h2
      rcases getJ g1 with ⟨a1, a2⟩ | ⟨i1, es1, rfl, a1, _⟩ <;> rcases getJ g2 with ⟨b1, b2⟩ | ⟨i2, es2, rfl, b1, _⟩
      · rw [plO a2] at n1 hb; rw [plO b2] at n2 hb
        exact hI.sep k1 k2 e1 e2 (by simp [Heap.get, a1]) (by simp [Heap.get, b1]) n1 n2 hb
      · rw [plO a2] at n1 hb; rw [plN] at n2 hb
        have h3 := hI.lt (id := k1) (es := e1) (by simp [Heap.get, a1]) n1
        have h4 := hnew (C1.pl i2).blk (.inl ⟨i2, es2, by simp [Heap.get, b1], n2, rfl⟩)
        omega
      · rw [plN] at n1 hb; rw [plO b2] at n2 hb
        have h3 := hI.lt (id := k2) (es := e2) (by simp [Heap.get, b1]) n2
        have h4 := hnew (C1.pl i1).blk (.inl ⟨i1, es1, by simp [Heap.get, a1], n1, rfl⟩)
        omega
      · rw [plN] at n1 n2 hb; rw [plN] at hb
        have := hI1.sep i1 i2 es1 es2 (by simp [Heap.get, a1]) (by simp [Heap.get, b1]) n1 n2 hb
        omega
    prot := fun k es' h hn => by
      obtain ⟨s, h4⟩ := getG h
      rcases getJ h4 with ⟨h5, h6⟩ | ⟨i, es, rfl, h5, h6⟩
      · rw [plO h6] at hn ⊢; exact hI.prot k es' (by simp [Heap.get, h5]) hn
      · rw [plN] at hn ⊢
        have := hI1.prot i es (by simp [Heap.get, h5]) hn
        rw [hprot1] at this
        exact fun hp => this (hpr _ hp)
    szok := fun k s h hn => by
      simp only [Ctx.join, Heap.sz, Option.map_eq_some_iff] at h
      obtain ⟨⟨s', es'⟩, h1, rfl⟩ := h
      rcases getJ h1 with ⟨h5, h6⟩ | ⟨i, es, rfl, h5, _⟩
      · rw [plO h6] at hn ⊢; exact hI.szok k _ (by simp [Heap.sz, h5]) hn
      · rw [plN] at hn ⊢; exact hI1.szok i _ (by simp [Heap.sz, h5]) hn
    protlt := fun b hb => Nat.lt_of_lt_of_le (hI.protlt b hb) hE.below.size
    protge := hI.protge
    size := hI1.size
    glob := fun b hb => ⟨(hI1.glob b hb).1, fun ho => by
      rcases ownJ b ho with h | h
      · exact (hI.glob b hb).2 h
      · exact (hI1.glob b hb).2 h⟩
    lps := fun l r h => by
      have h1 := hI.lps l r h
      rw [← h1]; exact hkeep l (Array.getElem?_eq_some_iff.1 h1).1
    dfs := fun d h => by
      have h1 := hI.dfs d h
      rw [← h1]; exact hkeep d (Array.getElem?_eq_some_iff.1 h1).1
    dnd := hI.dnd
    rod := hI.rod
    spprot := hI.spprot
    pinB := hI.pinB
    pinlt := Nat.le_trans hI.pinlt (Nat.le_add_right _ _)
    gh := W0.st C _ ext.mem hI.pinlt hI.gh }

variable {fr : Fr} {a : Act} {H : Heap} {o : Oper}

theorem Shift.mono {ok ok' : AV → Prop} {n : Nat} {x x' : AV} (h : Shift ok n x x') (hk : ∀ x, ok x → ok' x) : Shift ok' n x x' := by
  induction h with
  | same x hx => exact .same x (hk x hx)
  | view id off len => exact .view id off len
  | ref id i j => exact .ref id i j
  | agg cs cs' hl _ ih => exact .agg cs cs' hl ih
  | tuple cs cs' hl _ ih => exact .tuple cs cs' hl ih
  | clo fn cs cs' hl _ ih => exact .clo fn cs cs' hl ih
  | ifc t x x' _ ih => exact .ifc t x x' ih

theorem args_rep {args : Array Operand} {ys : List AV} (hop : ∀ y ∈ args.toList, RepO C fr a y) (hys : args.toList.mapM (evalA fr) = some ys) : (args.map a.eval).size = ys.length ∧ ∀ t x, lk (argsFr 0 ys) t = some x → Rep C x ((args.map a.eval).getD t undef) := by
  obtain ⟨m1, m2⟩ := mapM_eval args.toList ys hys
  refine ⟨by simpa using m1.symm, fun t x hx => ?_⟩
  obtain ⟨_, h2⟩ := lk_argsFr ys 0 t x hx
  rw [Nat.sub_zero] at h2
  obtain ⟨y, g1, g2⟩ := m2 t x h2
  have hy : args[t]? = some y := by simpa using g1
  have hlt : t < (args.map a.eval).size := by have := (Array.getElem?_eq_some_iff.1 hy).1; simpa using this
  have e : (args.map a.eval).getD t undef = a.eval y := by
    have := getD_of hlt
    rw [Array.getElem?_map, hy] at this
    exact (Option.some.inj this).symm
  rw [e]
  exact rep_eval (hop y (List.mem_of_getElem? g1)) g2

theorem Rep.sub {C' : Ctx} {x : AV} {v : Value} (h : Rep C x v) (hw : C'.w = C.w) (hn : C.H.next ≤ C'.H.next) (hg : ∀ id es, id < C.H.next → C'.H.get id = some es → ∃ es0, C.H.get id = some es0) (hpl : ∀ id, id < C.H.next → C'.pl id = C.pl id) (hb : ∀ b, C'.bad b → C.bad b) : Rep C' x v := by
  induction h with
  | any v => exact .any v
  | imm v hv => exact .imm v hv
  | slNil a cap => exact .slNil a cap
  | sl es b off sz cap c hlt hbad hc hf hcell _ ih => exact .sl es b off sz cap c (by rw [hw]; exact hlt) (fun h => hbad (hb b h)) hc hf (fun i j e x he hx => by rw [hw]; exact hcell i j e x he hx) ih
  | clipNil a => exact .clipNil a
  | clip es b off sz c hlt hbad hf hcell _ ih => exact .clip es b off sz c (by rw [hw]; exact hlt) (fun h => hbad (hb b h)) hf (fun i j e x he hx => by rw [hw]; exact hcell i j e x he hx) ih
  | view id off len v hid hs h1 =>
    refine .view id off len v (by omega) (fun es he => ?_) h1
    obtain ⟨es0, h0⟩ := hg id es hid he
    rw [hpl id hid]; exact hs es0 h0
  | ref id i j v hid hs h1 =>
    refine .ref id i j v (by omega) (fun es he => ?_) h1
    obtain ⟨es0, h0⟩ := hg id es hid he
    rw [hpl id hid]; exact hs es0 h0
  | pp fl j b off c hlt hbad hcell _ ih => exact .pp fl j b off c (by rw [hw]; exact hlt) (fun h => hbad (hb b h)) (fun k x hx => by rw [hw]; exact hcell k x hx) ih
  | agg cs vs hs h1 _ ih => exact .agg cs vs hs h1 ih
  | tuple cs vs hs _ ih => exact .tuple cs vs hs ih
  | ifc t x v _ ih => exact .ifc t x v ih
  | clo fn caps vs hs _ ih => exact .clo fn caps vs hs ih

def Ctx.plain (C : Ctx) : Ctx := { C with H := { C.H with lps := [] }, dfs := [], pin := 0 }

theorem plain_own {b : Nat} (h : C.plain.own b) : C.own b := by
  rcases h with ⟨id, es, h1, h2, h3⟩ | ⟨r, h⟩ | h
  · exact .inl ⟨id, es, h1, h2, h3⟩
  · simp [Ctx.plain, lk] at h
  · simp [Ctx.plain] at h

theorem Rep.plain {x : AV} {v : Value} (h : Rep C x v) : Rep C.plain x v :=
  h.sub rfl (Nat.le_refl _) (fun id es _ h => ⟨es, h⟩) (fun _ _ => rfl) (fun b h => h.imp plain_own id)

theorem Inv.plain (hI : Inv W0 C) : Inv (.of W0.w) C.plain where
  fresh := hI.fresh
  nil := hI.nil
  obj id es h hn := by
    have hO := hI.obj id es h hn
    exact ⟨hO.n, hO.cap, hO.blk, hO.one, hO.flat, fun i j e x v h1 h2 h3 => (hO.cell i j e x v h1 h2 h3).plain⟩
  sep := hI.sep
  prot := hI.prot
  szok := hI.szok
  protlt := hI.protlt
  protge := hI.protge
  size := hI.size
  glob b h := ⟨(hI.glob b h).1, fun ho => (hI.glob b h).2 (plain_own ho)⟩
  lps l r h := by simp [Ctx.plain, lk] at h
  dfs d h := by simp [Ctx.plain] at h
  dnd := .nil
  rod := fun _ _ => rfl
  spprot b h := by
    rcases h with ⟨r, h⟩ | h
    · simp [Ctx.plain, lk] at h
    · simp [Ctx.plain] at h
  pinB := rfl
  pinlt := Nat.zero_le _
  gh := trivial

theorem rel_args {vals : Array Value} {xs : List AV} {n : Nat} {H : Heap} (h : Rel W0 n (lk (argsFr 0 xs)) H C { tmps := vals, defers := [] }) : ∀ (k : Nat) (x : AV), xs[k]? = some x → Rep C x (vals.getD k undef) := by
  have key : ∀ (xs : List AV) (q k : Nat) (x : AV), xs[k]? = some x → lk (argsFr q xs) (q + k) = some x := by
    intro xs
    induction xs with
    | nil => intro q k x h; simp at h
    | cons y ys ih =>
      intro q k x hk
      cases k with
      | zero => simp at hk; subst hk; simp [argsFr, lk]
      | succ k =>
        simp at hk
        simp only [argsFr, lk]
        rw [if_neg (by omega)]
        have := ih (q + 1) k x hk
        rwa [show q + 1 + k = q + (k + 1) by omega] at this
  intro k x hx
  have := key xs 0 k x hx
  rw [Nat.zero_add] at this
  exact h.rep k x this

theorem rel_bare {vals : Array Value} {ys : List AV} {pr : Nat → Prop} (hsz : vals.size = ys.length) (h : ∀ t x, lk (argsFr 0 ys) t = some x → Rep C x (vals.getD t undef)) (hno : ∀ y ∈ ys, NoId y) (hI1 : Inv (.of W0.w) (C.bare pr)) (hp : ∀ b, ¬ C.bad b → ¬ pr b) : Rel (.of W0.w) ys.length (lk (argsFr 0 ys)) .empty (C.bare pr) { tmps := vals, defers := [] } :=
  ⟨rfl, hI1, hsz, rfl, fun t x hx => by
    obtain ⟨_, h2⟩ := lk_argsFr ys 0 t x hx
    exact (h t x hx).bare (hno x (List.mem_of_getElem? h2)) hp⟩
theorem dfs_nil {n : Nat} {f : Fr} {vals : Array Value} (h : Rel W0 n f H C { tmps := vals, defers := W0.dx }) : C.dfs = [] := by
  have := congrArg List.length h.defers
  simp only [List.length_append, List.length_map] at this
  exact List.eq_nil_of_length_eq_zero (by omega)

theorem call_ops {f : FuncId} {args : Array Operand} {tys : Array TypeId} (ho : o.op = .call { callee := .value (.func f), args := args, argTypes := tys }) (hop : ∀ x ∈ o.op.operands, RepO C fr a x) : ∀ y ∈ args.toList, RepO C fr a y := fun y hy =>
  hop y (by rw [ho]; simp [Op.operands, Call.operands]; exact .inr (by simpa using hy))

def Enters (P : Program) (o : Oper) (fr : Fr) (f : FuncId) (ys : List AV) : Prop :=
  ∀ (C : Ctx) (a : Act), (∀ x ∈ o.op.operands, RepO C fr a x) → ∃ vals : Array Value, (∀ w, (execOp a.eval o).run P w = .ok (.enter f vals) w) ∧ vals.size = ys.length ∧ ∀ t x, lk (argsFr 0 ys) t = some x → Rep C x (vals.getD t undef)

theorem Enters.func {f : FuncId} {args : Array Operand} {tys : Array TypeId} {ys : List AV} (ho : o.op = .call { callee := .value (.func f), args := args, argTypes := tys }) (hys : args.toList.mapM (evalA fr) = some ys) (hc : Callable P f) : Enters P o fr f ys := fun C a hop =>
  ⟨args.map a.eval, fun w => resolve_func ho hc w, args_rep (call_ops ho hop) hys⟩

theorem inv_bare2 (hI : Inv W0 C) : Inv (.of W0.w) (C.bare (fun b => C.prot b ∨ C.own b)) := hI.bare (fun b hb => by
    rcases hb with h | h
    · exact hI.protlt b h
    · exact hI.own_lt h) (fun b hb => by
    rcases hb with h | h
    · exact hI.protge b h
    · exact hI.own_ge h)

theorem aop_callNE {f : FuncId} {ys xs : List AV} {r : AV} (he : Enters P o fr f ys) (hw : Weak (.of W0.w) ys.length ⟨argsFr 0 ys, .empty⟩ ⟨argsFr 0 xs, .empty⟩) (hl : xs.length = ys.length) (hno : ∀ y ∈ ys, NoId y)
    (hf : Fun1 P W0.w f xs r) : AOp P W0 o fr H r H := by
  intro C a hI hH hop K Q hK
  obtain ⟨vals, hrun, hr0⟩ := he C a hop
  unfold Oper.wp
  rw [hrun, Oper.upon_enter]
  have hr1 := rel_bare (pr := fun b => C.prot b ∨ C.own b) hr0.1 hr0.2 hno (inv_bare2 hI) (fun b hb h => hb (h.elim .inr .inl))
  obtain ⟨C0, q1, q2, q3⟩ := hw _ _ hr1
  have hw0 : C0.w = C.w := q1
  have hsz : vals.size = xs.length := by rw [hl]; exact q3.size
  have := hf.runs C0 vals q3.inv q3.heap (dfs_nil q3) hsz (rel_args q3)
  rw [hw0] at this
  refine this.mono ?_
  rintro e w' ⟨v, C1, rfl, rfl, hE, hI', hr⟩
  have hn0 : ∀ b, ¬ C0.own b := own_none q3.heap (dfs_nil q3)
  have hB' : RowKit.Below C.w.heap.size C.w C1.w := by have := below_of_ext hE hn0; rwa [hw0] at this
  have hp1 : C1.prot = fun b => C.prot b ∨ C.own b := by rw [hE.prot]; exact q2.prot
  refine hK v (C.inW C1.w) (ext_of_block hB') (hI.inW hB') hH (hr.move hf.noid (Nat.le_refl _) (fun b hb hn => ⟨rfl, fun h => hn ?_⟩))
  refine .inr ?_
  rw [hp1]
  rcases h with h | h
  · exact .inr h
  · exact .inl h
theorem aop_callN {f : FuncId} {args : Array Operand} {tys : Array TypeId} {ys xs : List AV} {r : AV} (ho : o.op = .call { callee := .value (.func f), args := args, argTypes := tys }) (hys : args.toList.mapM (evalA fr) = some ys) (hw : Weak (.of W0.w) ys.length ⟨argsFr 0 ys, .empty⟩ ⟨argsFr 0 xs, .empty⟩) (hl : xs.length = ys.length) (hno : ∀ y ∈ ys, NoId y)
    (hf : Fun1 P W0.w f xs r) : AOp P W0 o fr H r H :=
  aop_callNE (.func ho hys hf.call) hw hl hno hf

def ShiftAll (ok : AV → Prop) (n : Nat) : List AV → List AV → Prop
  | [], [] => True
  | x :: l, y :: m => Shift ok n x y ∧ ShiftAll ok n l m
  | _, _ => False

theorem ShiftAll.spec {ok : AV → Prop} {n : Nat} : ∀ {l m : List AV}, ShiftAll ok n l m → l.length = m.length ∧ ∀ (k : Nat) (x x' : AV), l[k]? = some x → m[k]? = some x' → Shift ok n x x'
  | [], [], _ => ⟨rfl, fun k x x' h => by simp at h⟩
  | x :: l, y :: m, h => by
    obtain ⟨h1, h2⟩ := ShiftAll.spec h.2
    refine ⟨by simp [h1], fun k u v hu hv => ?_⟩
    cases k with
    | zero => simp at hu hv; subst hu hv; exact h.1
    | succ k => simp at hu hv; exact h2 k u v hu hv
  | [], _ :: _, h => h.elim
  | _ :: _, [], h => h.elim
theorem Shift.ag {ok : AV → Prop} {n : Nat} {cs cs' : List AV} (h : ShiftAll ok n cs cs') : Shift ok n (.agg cs) (.agg cs') := .agg cs cs' h.spec.1 h.spec.2
theorem Shift.tp {ok : AV → Prop} {n : Nat} {cs cs' : List AV} (h : ShiftAll ok n cs cs') : Shift ok n (.tuple cs) (.tuple cs') := .tuple cs cs' h.spec.1 h.spec.2

theorem ext_from {C0 : Ctx} {pr : Nat → Prop} (hw : C0.w = C.w) (hp : C0.prot = pr) (hd0 : C0.dfs = []) (hp0 : C0.pin = 0) (hn0 : ∀ b, ¬ C0.own b) (hE : Ext C0 C1) : Ext (C.bare pr) C1 where
  below := by have := hE.below; rw [hw] at this; exact this
  keep b hb _ := by have := hE.keep b (by rw [hw]; exact hb) (hn0 b); rw [this, hw]; rfl
  own b hb h := absurd (hE.own b (by rw [hw]; exact hb) h) (hn0 b)
  next := Nat.zero_le _
  id i es hi _ := absurd hi (Nat.not_lt_zero _)
  prot := hE.prot.trans hp
  dfs := hE.dfs.trans hd0
  pin := hE.pin.trans hp0

theorem aop_call2NE {f : FuncId} {ys xs : List AV} {r : AV} {Hr : Heap} (r' : AV) (objs' : List (Nat × (Nat × List AV))) (he : Enters P o fr f ys) (hw : Weak (.of W0.w) ys.length ⟨argsFr 0 ys, .empty⟩ ⟨argsFr 0 xs, .empty⟩) (hl : xs.length = ys.length) (hno : ∀ y ∈ ys, NoId y)
    (hf : Fun2 P W0.w f xs r Hr) (hr : Shift NoId H.next r r') (hJ : Joined NoId H.next Hr.objs objs') : AOp P W0 o fr H r' { next := H.next + Hr.next, objs := H.objs ++ objs', lps := H.lps } := by
  intro C a hI hH hop K Q hK
  subst hH
  obtain ⟨vals, hrun, hr0⟩ := he C a hop
  unfold Oper.wp
  rw [hrun, Oper.upon_enter]
  have hr1 := rel_bare (pr := fun b => C.prot b ∨ C.own b) hr0.1 hr0.2 hno (inv_bare2 hI) (fun b hb h => hb (h.elim .inr .inl))
  obtain ⟨C0, q1, q2, q3⟩ := hw _ _ hr1
  have hw0 : C0.w = C.w := q1
  have hsz : vals.size = xs.length := by rw [hl]; exact q3.size
  have := hf.runs C0 vals q3.inv q3.heap (dfs_nil q3) hsz (rel_args q3)
  rw [hw0] at this
  refine this.mono ?_
  rintro e w' ⟨v, C1, rfl, rfl, hE0, hI', hH1, hr1⟩
  subst hH1
  have hn0 : ∀ b, ¬ C0.own b := own_none q3.heap (dfs_nil q3)
  have hE := ext_from (C := C) (pr := fun b => C.prot b ∨ C.own b) hw0 q2.prot (dfs_nil q3) q3.inv.pinB hn0 hE0
  obtain ⟨h1, h2, h3⟩ := join_rules (ok := NoId) (pr := fun b => C.prot b ∨ C.own b) hI hI' hE (fun b h => .inl h) hJ (fun x v hx hrx hb => by
    by_cases hd : ∃ b, b < C1.w.heap.size ∧ ¬ C1.bad b ∧ (C.join C1 objs').bad b
    · obtain ⟨b, q1, q2, q3⟩ := hd
      rcases hb b q1 q2 with h | h
      · exact absurd q3 h
      · exact h _
    · exact hrx.move hx (Nat.le_refl _) (fun b q1 q2 => ⟨rfl, fun q3 => hd ⟨b, q1, q2, q3⟩⟩)) (.inl fun b h => .inr h)
  exact hK v (C.join C1 objs') h1 h2 rfl (h3 r r' v hr hr1)
theorem aop_call2N {f : FuncId} {args : Array Operand} {tys : Array TypeId} {ys xs : List AV} {r : AV} {Hr : Heap} (r' : AV) (objs' : List (Nat × (Nat × List AV))) (ho : o.op = .call { callee := .value (.func f), args := args, argTypes := tys }) (hys : args.toList.mapM (evalA fr) = some ys) (hw : Weak (.of W0.w) ys.length ⟨argsFr 0 ys, .empty⟩ ⟨argsFr 0 xs, .empty⟩) (hl : xs.length = ys.length) (hno : ∀ y ∈ ys, NoId y)
    (hf : Fun2 P W0.w f xs r Hr) (hr : Shift NoId H.next r r') (hJ : Joined NoId H.next Hr.objs objs') : AOp P W0 o fr H r' { next := H.next + Hr.next, objs := H.objs ++ objs', lps := H.lps } :=
  aop_call2NE r' objs' (.func ho hys hf.call) hw hl hno hf hr hJ


theorem rel_one {W0 : Base} {C : Ctx} {q : AV} {v : Value} (hI : Inv W0 C) (hd : C.dfs = []) (h : Rep C q v) : Rel W0 1 (lk [(0, q)]) C.H C { tmps := #[v], defers := W0.dx } :=
  ⟨rfl, hI, rfl, by simp [hd], fun t x hx => by
    simp only [lk] at hx
    split at hx
    · rename_i ht; subst ht; cases hx; exact h
    · cases hx⟩

theorem rel_start {W0 : Base} {C : Ctx} {fn : Func} {xs : List AV} {vals : Array Value} {H : Heap} {N : Nat} (hI : Inv W0 C) (hH : C.H = H) (hd : C.dfs = []) (hN : fn.ntmps = N) (hxN : xs.length ≤ N) (hsz : vals.size = xs.length) (hrep : ∀ (k : Nat) (x : AV), xs[k]? = some x → Rep C x (vals.getD k undef)) (hdx : W0.dx = []) :
    Rel W0 N (lk (argsFr 0 xs)) H C { tmps := vals ++ Array.replicate (fn.ntmps - vals.size) undef, defers := [] } := by
  refine ⟨hH, hI, by simp [hN]; omega, by simp [hd, hdx], fun t x hx => ?_⟩
  obtain ⟨_, h2⟩ := lk_argsFr xs 0 t x hx
  have hlt : t < vals.size := by rw [hsz]; exact (List.getElem?_eq_some_iff.1 h2).1
  have := hrep t x h2
  have e : (vals ++ Array.replicate (fn.ntmps - vals.size) undef).getD t undef = vals.getD t undef := by
    rw [Array.getD_eq_getD_getElem?, Array.getElem?_append_left hlt, ← Array.getD_eq_getD_getElem?]
  rw [e]; exact this

theorem drain {W0 : Base} {fn : Func} {tmps : Array Value} {R : Ending → World → Prop} {H : Heap} {Q : Ctx → Prop} {u : FrameMode} (hu : u ≠ .run) {ds : List Deferred} (hQ : ∀ C2, Q C2 → C2.dfs = [] → LeavesInM Fence.wide 0 P fn tmps R ds u C2.w) :
    ∀ (l : List Nat) (C : Ctx), C.dfs = l → Inv W0 C → C.H = H → (∀ C2, C2.H = C.H → C2.pl = C.pl → Mem C C2 → Inv W0 C2 → C2.dfs = [] → (∀ x v, Rep C x v → Rep C2 x v) → Q C2) →
      LeavesInM Fence.wide 0 P fn tmps R ((l.map fun d => { target := .collected d, args := #[] }) ++ ds) u C.w
  | [], C, hl, hI, hH, hq => hQ C (hq C rfl rfl (.refl C) hI hl (fun _ _ h => h)) hl
  | d :: l, C, hl, hI, hH, hq => by
    have hd : C.w.heap[d]? = some (.deferred (some [])) := hI.dfs d (by rw [hl]; exact List.mem_cons_self ..)
    have hdlt : d < C.w.heap.size := (Array.getElem?_eq_some_iff.1 hd).1
    have hnd : d ∉ l := by have := hI.dnd; rw [hl] at this; exact (List.nodup_cons.1 this).1
    refine ⟨hu, .inl ⟨d, C.w.putObj d (.deferred none), rfl, run_takeDeferred hd, ?_⟩⟩
    -- the context behind it
    let C1 : Ctx := { C with w := C.w.putObj d (.deferred none), dfs := l }
    have hne : ∀ b, b ≠ d → C1.w.heap[b]? = C.w.heap[b]? := fun b hb => World.putObj_heap_other hb
    have hcell : ∀ {b : Nat} {arr : Array Value} {el : TypeId} {fz : Nat × Nat}, C.w.heap[b]? = some (.cells arr el fz) → b ≠ d := fun {b arr el fz} h hb => by
      subst hb; rw [hd] at h; cases h
    have hown : ∀ b, C1.own b → C.own b := by
      rintro b (⟨id, es, h1, h2, h3⟩ | h | h)
      · exact .inl ⟨id, es, h1, h2, h3⟩
      · exact .inr (.inl h)
      · exact .inr (.inr (by rw [hl]; exact List.mem_cons_of_mem _ h))
    have hM : Mem C C1 := ⟨⟨rfl, rfl, rfl, by simp [C1], fun k hk => absurd hk (Nat.not_lt_zero k)⟩, fun b _ hb => hne b (fun h => hb (.inr (.inr (by rw [h, hl]; exact List.mem_cons_self ..)))), fun b _ h => hown b h, rfl, rfl, fun hp => ⟨hp, fun k es' _ hg => ⟨⟨es', hg⟩, rfl⟩⟩⟩
    have hholds : ∀ {b o : Nat} {v : Value}, Holds C.w b o v → Holds C1.w b o v := fun {b o v} h => by
      refine ⟨?_, h.2⟩
      have hb : b ≠ d := fun hb => by
        subst hb
        have := h.1
        simp [World.cell?, hd] at this
      rw [World.cell?_of_block (w := C.w) (a := ⟨b, o, none⟩) (hne b hb)]
      exact h.1
    have hrep : ∀ x v, Rep C x v → Rep C1 x v := by
      intro x v h
      induction h with
      | any v => exact .any v
      | imm v hv => exact .imm v hv
      | slNil a cap => exact .slNil a cap
      | sl es b off sz cap c hlt hbad hc hf hcell _ ih => exact .sl es b off sz cap c (by simpa [C1] using hlt) (fun h => hbad (h.imp (hown b) id)) hc hf (fun i j e x he hx => hholds (hcell i j e x he hx)) ih
      | clipNil a => exact .clipNil a
      | clip es b off sz c hlt hbad hf hcell _ ih => exact .clip es b off sz c (by simpa [C1] using hlt) (fun h => hbad (h.imp (hown b) id)) hf (fun i j e x he hx => hholds (hcell i j e x he hx)) ih
      | view id off len v hid hs h1 => exact .view id off len v hid hs h1
      | ref id i j v hid hs h1 => exact .ref id i j v hid hs h1
      | pp fl j b off c hlt hbad hcell _ ih => exact .pp fl j b off c (by simpa [C1] using hlt) (fun h => hbad (h.imp (hown b) id)) (fun k x hx => hholds (hcell k x hx)) ih
      | agg cs vs hs h1 _ ih => exact .agg cs vs hs h1 ih
      | tuple cs vs hs _ ih => exact .tuple cs vs hs ih
      | ifc t x v _ ih => exact .ifc t x v ih
      | clo fn caps vs hs _ ih => exact .clo fn caps vs hs ih
    have hI1 : Inv W0 C1 := {
      fresh := hI.fresh
      nil := hI.nil
      obj := fun id es h hn => by
        have hO := hI.obj id es h hn
        obtain ⟨arr, el, h1, h2⟩ := hO.blk
        have hb := hcell h1
        have hc : ∀ o, C1.w.cell? ⟨(C.pl id).blk, o, none⟩ = C.w.cell? ⟨(C.pl id).blk, o, none⟩ := fun o => World.cell?_of_block (w := C.w) (a := ⟨_, o, none⟩) (hne _ hb)
        exact ⟨hO.n, hO.cap, ⟨arr, el, by rw [← h1]; exact hne _ hb, h2⟩, fun o v hv => hO.one o v (by rw [← hc o]; exact hv), hO.flat, fun i j e x v h1 h2 h3 => hrep _ _ (hO.cell i j e x v h1 h2 (by rw [← hc]; exact h3))⟩
      sep := hI.sep
      prot := hI.prot
      szok := hI.szok
      protlt := fun b h => by simpa [C1] using hI.protlt b h
      protge := hI.protge
      size := by simpa [C1] using hI.size
      glob := fun b h => ⟨by
        rw [← (hI.glob b h).1]
        exact hne b (fun hb => (hI.glob b h).2 (.inr (.inr (by rw [hb, hl]; exact List.mem_cons_self ..)))), fun ho => (hI.glob b h).2 (hown b ho)⟩
      lps := fun q r h => by
        rw [← hI.lps q r h]
        refine hne q (fun hq => ?_)
        have := hI.lps q r h
        rw [hq, hd] at this; cases this
      dfs := fun q h => by
        rw [← hI.dfs q (by rw [hl]; exact List.mem_cons_of_mem _ h)]
        exact hne q (fun hq => hnd (hq ▸ h))
      dnd := by have := hI.dnd; rw [hl] at this; exact (List.nodup_cons.1 this).2
      rod := fun q h => by have := hI.rod q h; rw [hl] at this; cases this
      spprot := fun b h => hI.spprot b (by
        rcases h with h | h
        · exact .inl h
        · exact .inr (by rw [hl]; exact List.mem_cons_of_mem _ h))
      pinB := hI.pinB
      pinlt := hI.pinlt
      gh := W0.st C C1 hM hI.pinlt hI.gh }
    exact drain hu hQ l C1 rfl hI1 hH (fun C2 h1 h2 h3 h4 h5 h6 => hq C2 h1 h2 (hM.trans h3) h4 h5 (fun x v h => h6 x v (hrep x v h)))

theorem calls_of_awp {W0 : Base} {N : Nat} {f : FuncId} {fn : Func} {c : Code} {xs : List AV} {r : AV} {Hin Hr : Heap} (hf : P.funcs[f]? = some fn) (hb : fn.body = some c) (hN : fn.ntmps = N) (hxN : xs.length ≤ N) (hro : W0.ro = none)
    (h : AWP P W0 N c ⟨argsFr 0 xs, Hin⟩ (fun e s => (e = .normal ∨ e = .ret) ∧ ∃ q, resA P fn.results.toList s = some q ∧ Weak W0 1 ⟨[(0, q)], s.H⟩ ⟨[(0, r)], Hr⟩))
    (C : Ctx) (vals : Array Value) (hI : Inv W0 C) (hH : C.H = Hin) (hd : C.dfs = []) (hsz : vals.size = xs.length) (hrep : ∀ (k : Nat) (x : AV), xs[k]? = some x → Rep C x (vals.getD k undef)) (hdx : W0.dx = [] := by rfl) :
    Calls P f vals C.w (fun e w' => ∃ v C', e = .returned v ∧ C'.w = w' ∧ Mem C C' ∧ Inv W0 C' ∧ C'.H = Hr ∧ C'.dfs = [] ∧ Rep C' r v) := by
  refine (callsIn_wide (n := 0)).1 (callsIn_of_wp_marks hf hb trivial ?_)
  have hrel := rel_start (W0 := W0) hI hH hd hN hxN hsz hrep hdx
  have key := h C _ hrel
  rw [hro, fw_none] at key
  refine wpIn_mono key fun e a' w' ⟨s, C', g1, g2, g3, g4, q, g5, g6⟩ => ?_
  subst g1
  have main : LeavesInM Fence.wide 0 P fn a'.tmps (fun e w' => ∃ v C', e = .returned v ∧ C'.w = w' ∧ Mem C C' ∧ Inv W0 C' ∧ C'.H = Hr ∧ C'.dfs = [] ∧ Rep C' r v) a'.defers .returning C'.w := by
    rw [g3.defers, hdx]
    refine drain (W0 := W0) (u := .returning) (by simp) (ds := []) (Q := fun C2 => Rel W0 N (lk s.fr) s.H C2 { tmps := a'.tmps, defers := [] } ∧ Mem C C2) (fun C2 hq hd2 => ?_) C'.dfs C' rfl g3.inv g3.heap (fun C2 h1 h2 h3 h4 h5 h6 => ⟨⟨h1.trans g3.heap, h4, g3.size, by simp [h5, hdx], fun t x hx => h6 x _ (g3.rep t x hx)⟩, g2.trans h3⟩)
    obtain ⟨hq, hm⟩ := hq
    obtain ⟨v, g7, g8⟩ := run_results hq g5
    have g9 := rel_one hq.inv hd2 g8
    rw [hq.heap] at g9
    obtain ⟨C3, q1, q2, q3⟩ := g6 C2 _ g9
    exact ⟨v, g7, v, C3, rfl, q1, hm.trans q2, q3.inv, q3.heap, dfs_nil q3, q3.rep 0 r rfl⟩
  rcases g4 with rfl | rfl
  · exact main
  · exact main

theorem fun2_of_awp {W0 : World} {N : Nat} {f : FuncId} {fn : Func} {c : Code} {xs : List AV} {r : AV} {Hr : Heap} (hf : P.funcs[f]? = some fn) (hb : fn.body = some c) (hname : (fn.name == "runtime.NumGoroutine") = false) (hN : fn.ntmps = N) (hxN : xs.length ≤ N)
    (h : AWP P (.of W0) N c ⟨argsFr 0 xs, .empty⟩ (fun e s => (e = .normal ∨ e = .ret) ∧ ∃ q, resA P fn.results.toList s = some q ∧ Weak (.of W0) 1 ⟨[(0, q)], s.H⟩ ⟨[(0, r)], Hr⟩)) : Fun2 P W0 f xs r Hr where
  call := callable_of hf hname hb
  runs C vals hI hH hd hsz hrep := (calls_of_awp hf hb hN hxN rfl h C vals hI hH hd hsz hrep).mono fun e w' ⟨v, C', h1, h2, h3, h4, h5, h6, h7⟩ =>
    ⟨v, C', h1, h2, ⟨h3.below, h3.keep, h3.own, by rw [hH]; exact Nat.zero_le _, fun id es hi _ => by rw [hH] at hi; exact absurd hi (Nat.not_lt_zero _), h3.prot, h6.trans hd.symm, h3.pin⟩, h4, h5, h7⟩

theorem Fun2.give {W0 : World} {f : FuncId} {xs : List AV} {r r' : AV} {Hr : Heap} (h : Fun2 P W0 f xs r Hr) (hw : Weak (.of W0) 1 ⟨[(0, r)], Hr⟩ ⟨[(0, r')], .empty⟩) (hn : NoId r') : Fun1 P W0 f xs r' where
  call := h.call
  noid := hn
  runs C vals hI hH hd hsz hrep := (h.runs C vals hI hH hd hsz hrep).mono fun e w' ⟨v, C', h1, h2, h3, h4, h5, h6⟩ => by
    have g := rel_one h4 (h3.dfs.trans hd) h6
    rw [h5] at g
    obtain ⟨C2, q1, q2, q3⟩ := hw C' _ g
    refine ⟨v, C2, h1, q1.trans h2, ?_, q3.inv, q3.rep 0 r' rfl⟩
    have hm := h3.mem.trans q2
    refine ⟨hm.below, hm.keep, hm.own, by rw [hH]; exact Nat.zero_le _, fun id es hi _ => ?_, hm.prot, (dfs_nil q3).trans hd.symm, hm.pin⟩
    rw [hH] at hi; exact absurd hi (Nat.not_lt_zero _)

theorem Fun1.two {W0 : World} {f : FuncId} {xs : List AV} {r : AV} (h : Fun2 P W0 f xs r .empty) (hn : NoId r) : Fun1 P W0 f xs r := h.give (Weak.refl _) hn
end
end Go.Av
end

section
/- Sets of numbers as bits: plain facts on 64 bits. -/
namespace Bv

theorem odd_part : ∀ x : Nat, 0 < x → ∃ k m, x = 2 ^ k * (2 * m + 1) := by
  intro x
  induction x using Nat.strongRecOn with
  | _ x ih =>
    intro hx
    rcases Nat.mod_two_eq_zero_or_one x with h | h
    · obtain ⟨k, m, hk⟩ := ih (x / 2) (by omega) (by omega)
      refine ⟨k + 1, m, ?_⟩
      rw [Nat.pow_succ, Nat.mul_assoc, Nat.mul_comm 2, ← Nat.mul_assoc, ← hk]; omega
    · exact ⟨0, x / 2, by simp; omega⟩

theorem tb (k a b i : Nat) (hb : b < 2 ^ k) : (2 ^ k * a + b).testBit i = if i < k then b.testBit i else a.testBit (i - k) := Nat.testBit_two_pow_mul_add a hb i

theorem tb_odd (k m i : Nat) : (2 ^ k * (2 * m + 1)).testBit i = if i < k then false else if i = k then true else m.testBit (i - k - 1) := by
  have h := tb k (2 * m + 1) 0 i (Nat.two_pow_pos k)
  rw [Nat.add_zero] at h
  rw [h]
  by_cases h1 : i < k
  · simp [h1]
  · rw [if_neg h1, if_neg h1]
    by_cases h2 : i = k
    · subst h2; simp
    · rw [if_neg h2]
      have h3 := tb 1 m 1 (i - k) (by decide)
      rw [Nat.pow_one] at h3
      rw [h3, if_neg (by omega)]

theorem low (x : Nat) (hx : 0 < x) (hlt : x < 2 ^ 64) : ∃ k, k < 64 ∧ x.testBit k = true ∧ (∀ i, i < k → x.testBit i = false) ∧ (∀ i, (x &&& (x - 1)).testBit i = (x.testBit i && decide (i ≠ k))) ∧ x &&& (2 ^ 64 - x) = 2 ^ k := by
  obtain ⟨k, m, rfl⟩ := odd_part x hx
  have hk : k < 64 := by
    rcases Nat.lt_or_ge k 64 with h | h
    · exact h
    · have : 2 ^ 64 ≤ 2 ^ k := Nat.pow_le_pow_right (by decide) h
      have : 2 ^ k * 1 ≤ 2 ^ k * (2 * m + 1) := Nat.mul_le_mul_left _ (by omega)
      omega
  refine ⟨k, hk, by rw [tb_odd]; simp, fun i hi => by rw [tb_odd, if_pos hi], fun i => ?_, ?_⟩
  · have h1 : 2 ^ k * (2 * m + 1) - 1 = 2 ^ k * (2 * m) + (2 ^ k - 1) := by
      have := Nat.two_pow_pos k
      rw [Nat.mul_add, Nat.mul_one]; omega
    rw [Nat.testBit_and, h1, tb k (2 * m) (2 ^ k - 1) i (by have := Nat.two_pow_pos k; omega), tb_odd]
    by_cases h2 : i < k
    · simp [h2]
    · rw [if_neg h2, if_neg h2]
      by_cases h3 : i = k
      · subst h3; simp
      · rw [if_neg h3]
        have h4 := tb 1 m 0 (i - k) (by decide)
        rw [Nat.pow_one, Nat.add_zero] at h4
        rw [h4, if_neg (by omega)]
        simp [h3]
  · have hle : 2 * m + 1 ≤ 2 ^ (64 - k) := by
      rcases Nat.lt_or_ge (2 ^ (64 - k)) (2 * m + 1) with h | h
      · have h5 : 2 ^ k * 2 ^ (64 - k) < 2 ^ k * (2 * m + 1) := Nat.mul_lt_mul_of_pos_left h (Nat.two_pow_pos k)
        rw [← Nat.pow_add, show k + (64 - k) = 64 by omega] at h5
        omega
      · exact h
    have h1 : 2 ^ 64 - 2 ^ k * (2 * m + 1) = 2 ^ k * (2 ^ (64 - k) - (2 * m + 1)) := by
      rw [Nat.mul_sub, ← Nat.pow_add, show k + (64 - k) = 64 by omega]
    rw [h1]
    apply Nat.eq_of_testBit_eq
    intro i
    rw [Nat.testBit_and, tb_odd, Nat.testBit_two_pow]
    have h2 := tb k (2 ^ (64 - k) - (2 * m + 1)) 0 i (Nat.two_pow_pos k)
    rw [Nat.add_zero] at h2
    rw [h2]
    by_cases h3 : i < k
    · rw [if_pos h3, if_pos h3]; simp; omega
    · rw [if_neg h3, if_neg h3]
      have h4 : (2 ^ (64 - k) - (2 * m + 1)).testBit (i - k) = (decide (i - k < 64 - k) && !(2 * m).testBit (i - k)) := Nat.testBit_two_pow_sub_succ (by omega) _
      rw [h4]
      by_cases h5 : i = k
      · subst h5
        simp
        omega
      · rw [if_neg h5]
        have h6 := tb 1 m 0 (i - k) (by decide)
        rw [Nat.pow_one, Nat.add_zero] at h6
        rw [h6, if_neg (by omega)]
        have : ¬ k = i := fun h => h5 h.symm
        simp [this]
        exact fun h _ => h

def list (s : BitVec 64) : List Nat := (List.range 64).filter fun i => s.getLsbD i

def has (s : BitVec 64) (i : Int) : Bool := decide (0 ≤ i) && decide (i < 64) && s.getLsbD i.toNat
def bit (i : Int) : BitVec 64 := if 0 ≤ i ∧ i < 64 then 1#64 <<< i.toNat else 0#64
def least (s : BitVec 64) : Int := match list s with | [] => -1 | i :: _ => i
def ctz (s : BitVec 64) : Nat := match list s with | [] => 64 | i :: _ => i

theorem mem_list {s : BitVec 64} {i : Nat} : i ∈ list s ↔ s.getLsbD i = true := by
  simp only [list, List.mem_filter, List.mem_range]
  constructor
  · exact fun h => h.2
  · intro h
    refine ⟨?_, h⟩
    rcases Nat.lt_or_ge i 64 with h1 | h1
    · exact h1
    · rw [BitVec.getLsbD_of_ge _ _ h1] at h; cases h

theorem list_sorted (s : BitVec 64) : (list s).Pairwise (· < ·) := (List.pairwise_lt_range).filter _

theorem list_zero : list 0#64 = [] := by decide

theorem sorted_ext : ∀ {l m : List Nat}, l.Pairwise (· < ·) → m.Pairwise (· < ·) → (∀ i, i ∈ l ↔ i ∈ m) → l = m
  | [], [], _, _, _ => rfl
  | [], y :: m, _, _, h => by have := (h y).2 (List.mem_cons_self ..); cases this
  | x :: l, [], _, _, h => by have := (h x).1 (List.mem_cons_self ..); cases this
  | x :: l, y :: m, hl, hm, h => by
    rw [List.pairwise_cons] at hl hm
    have hxy : x = y := by
      have h1 := (h x).1 (List.mem_cons_self ..)
      have h2 := (h y).2 (List.mem_cons_self ..)
      rcases List.mem_cons.1 h1 with h1 | h1
      · exact h1
      · rcases List.mem_cons.1 h2 with h2 | h2
        · exact h2.symm
        · have := hl.1 y h2; have := hm.1 x h1; omega
    subst hxy
    rw [sorted_ext hl.2 hm.2 (fun i => ?_)]
    constructor
    · intro hi
      rcases List.mem_cons.1 ((h i).1 (List.mem_cons_of_mem _ hi)) with rfl | h1
      · exact absurd (hl.1 i hi) (Nat.lt_irrefl _)
      · exact h1
    · intro hi
      rcases List.mem_cons.1 ((h i).2 (List.mem_cons_of_mem _ hi)) with rfl | h1
      · exact absurd (hm.1 i hi) (Nat.lt_irrefl _)
      · exact h1

theorem low_bv (s : BitVec 64) (h : s ≠ 0#64) : ∃ k, k < 64 ∧ s.getLsbD k = true ∧ (∀ i, i < k → s.getLsbD i = false) ∧ (∀ i, (s &&& (s - 1#64)).getLsbD i = (s.getLsbD i && decide (i ≠ k))) ∧ s &&& -s = 1#64 <<< k := by
  have hx : 0 < s.toNat := by
    rcases Nat.eq_zero_or_pos s.toNat with h1 | h1
    · exact absurd (BitVec.eq_of_toNat_eq (by simpa using h1)) h
    · exact h1
  obtain ⟨k, h1, h2, h3, h4, h5⟩ := low s.toNat hx s.isLt
  have e1 : (s - 1#64).toNat = s.toNat - 1 := by
    rw [BitVec.toNat_sub]
    have := s.isLt
    simp
    omega
  refine ⟨k, h1, by rw [← BitVec.testBit_toNat]; exact h2, fun i hi => by rw [← BitVec.testBit_toNat]; exact h3 i hi, fun i => ?_, ?_⟩
  · rw [← BitVec.testBit_toNat, BitVec.toNat_and, e1, h4, BitVec.testBit_toNat]
  · apply BitVec.eq_of_toNat_eq
    have e2 : (-s).toNat = 2 ^ 64 - s.toNat := by
      rw [BitVec.toNat_neg, Nat.mod_eq_of_lt (by omega)]
    rw [BitVec.toNat_and, e2, h5]
    have : 2 ^ k < 2 ^ 64 := Nat.pow_lt_pow_right (by decide) h1
    simp [Nat.shiftLeft_eq]
    omega

theorem list_cons (s : BitVec 64) (h : s ≠ 0#64) : list s = ctz s :: list (s &&& (s - 1#64)) ∧ ctz s < 64 ∧ s &&& -s = 1#64 <<< ctz s := by
  obtain ⟨k, h1, h2, h3, h4, h5⟩ := low_bv s h
  have key : list s = k :: list (s &&& (s - 1#64)) := by
    refine sorted_ext (list_sorted s) ?_ (fun i => ?_)
    · rw [List.pairwise_cons]
      refine ⟨fun i hi => ?_, list_sorted _⟩
      rw [mem_list, h4] at hi
      simp only [Bool.and_eq_true, decide_eq_true_eq] at hi
      rcases Nat.lt_or_ge i k with h6 | h6
      · rw [h3 i h6] at hi; cases hi.1
      · omega
    · rw [mem_list, List.mem_cons, mem_list, h4]
      simp only [Bool.and_eq_true, decide_eq_true_eq]
      constructor
      · intro hi
        by_cases hik : i = k
        · exact .inl hik
        · exact .inr ⟨hi, hik⟩
      · rintro (rfl | hi)
        · exact h2
        · exact hi.1
  have hc : ctz s = k := by simp [ctz, key]
  exact ⟨by rw [hc]; exact key, by rw [hc]; exact h1, by rw [hc]; exact h5⟩

theorem least_ctz (s : BitVec 64) (h : s ≠ 0#64) : least s = ctz s := by
  have := (list_cons s h).1
  unfold least
  rw [this]

theorem list_length_le (s : BitVec 64) : (list s).length ≤ 64 := by
  have := List.length_filter_le (fun i => s.getLsbD i) (List.range 64)
  simpa [list] using this

theorem ext {s t : BitVec 64} (h : ∀ i, i < 64 → s.getLsbD i = t.getLsbD i) : s = t := BitVec.eq_of_getLsbD_eq (fun i hi => h i hi)

def dB : BitVec 64 := 0x03f79d71b4ca8b09#64
def tab : List Nat := [0, 1, 56, 2, 57, 49, 28, 3, 61, 58, 42, 50, 38, 29, 17, 4, 62, 47, 59, 36, 45, 43, 51, 22, 53, 39, 33, 30, 24, 18, 12, 5, 63, 55, 48, 27, 60, 41, 37, 16, 46, 35, 44, 21, 52, 32, 23, 11, 54, 26, 40, 15, 34, 20, 31, 10, 25, 14, 19, 9, 13, 8, 7, 6]
theorem tab_ok : ∀ k : Fin 64, tab[(((1#64 <<< k.val) * dB) >>> 58).toNat]? = some k.val := by decide

end Bv
end

section
/- The table of math/bits, as numbers. -/
namespace Go.Sh
def tab8 : List Int := Bv.tab.map fun (k : Nat) => (k : Int)
end Go.Sh
end

section
/- The rules once more, over lists of plain data. -/
namespace Go.Av
abbrev w64 (n : Int) : Int := IntKind.i64.wrap n
abbrev kA (k : IntKind) (n : Int) : AV := .imm (.int k n)
abbrev arA {α : Type} (enc : α → AV) (l : List α) : AV := .agg (l.map enc)
abbrev slA {α : Type} (enc : α → AV) (l : List α) : AV := .sl (l.map enc)

section
variable {P : Program} {W0 : Base} {fr : Fr} {H : Heap} {o : Oper} {α : Type} {enc : α → AV} {l : List α} {i : Int} {x : α} {ki : IntKind}

theorem getM {k : Nat} (h : l[k]? = some x) : (l.map enc)[k]? = some (enc x) := by simp [h]

theorem t_index_sl {t e : TypeId} {s by' : Nat} {xo io : Operand} {k : Nat} (enc : α → AV) (l : List α) (hi : i = k) (hl : l[k]? = some x) (ho : o.op = .indexAddr t xo io) (hx : evalA fr xo = some (.sl (l.map enc))) (hio : evalA fr io = some (.imm (.int ki i)))
    (ht : elT P t = some (e, s, by')) (hs : (enc x).flat.length = s) : AOp P W0 o fr H (.pp (enc x).flat 0) H :=
  aop_index_sl ho hx (.inl rfl) hio ht hi (getM hl) hs
theorem t_index_view {t e : TypeId} {s by' id n : Nat} {xo io : Operand} {k : Nat} (enc : α → AV) (l : List α) (hi : i = k) (hl : l[k]? = some x) (hn : n = (l.map enc).length) (ho : o.op = .indexAddr t xo io) (hx : evalA fr xo = some (.view id 0 n)) (hid : H.get id = some (l.map enc)) (hio : evalA fr io = some (.imm (.int ki i)))
    (ht : elT P t = some (e, s, by')) (hs : (enc x).flat.length = s) : AOp P W0 o fr H (.ref id k 0) H := by
  subst hn
  have hk : k < (l.map enc).length := by have := (List.getElem?_eq_some_iff.1 hl).1; simpa using this
  have := aop_index_view (P := P) (W0 := W0) (o := o) (fr := fr) (H := H) ho hx hid hio ht hi hk (el := enc x) (by rw [Nat.zero_add]; exact getM hl) hs
  rwa [Nat.zero_add] at this
theorem t_load_el {t : TypeId} {xo : Operand} {id k j n : Nat} {g : Bool} {r : AV} (enc : α → AV) (l : List α) (hl : l[k]? = some x) (ho : o.op = .load t xo) (hx : evalA fr xo = some (.ref id k j)) (hid : H.get id = some (l.map enc))
    (ht : szT P t = some (n, g)) (hr : partA (enc x).flat j n g = some r) : AOp P W0 o fr H r H := aop_load_ref ho hx hid (getM hl) ht hr
theorem t_store_el {t : TypeId} {xo yo : Operand} {id k j n : Nat} {g : Bool} {ay : AV} (enc : α → AV) (l : List α) (x' : α) (hi : i = k) (hl : l[k]? = some x) (ho : o.op = .store t xo yo) (hx : evalA fr xo = some (.ref id k j)) (hy : evalA fr yo = some ay) (hsol : ay.solid = true)
    (hid : H.get id = some (l.map enc)) (ht : szT P t = some (n, g)) (hn : ay.flat.length = n) (hj : j + n ≤ (enc x).flat.length) (he' : (enc x').flat = (enc x).flat.take j ++ ay.flat ++ (enc x).flat.drop (j + n)) :
    AOp P W0 o fr H .any (H.set id ((Sh.set l i x').map enc)) := by
  have := aop_store (P := P) (W0 := W0) (o := o) (fr := fr) (H := H) ho hx hy hsol hid (getM hl) ht hn hj he'
  have e : (Sh.set l i x').map enc = (l.map enc).set k (enc x') := by subst hi; simp [Sh.set, List.map_set]
  rw [e]; exact this

theorem t_len_sl {t e : TypeId} {s by' : Nat} {xo : Operand} (enc : α → AV) (l : List α) (ho : o.op = .call { callee := .builtin .len, args := #[xo], argTypes := #[t] }) (hx : evalA fr xo = some (.sl (l.map enc))) (ht : elT P t = some (e, s, by')) : AOp P W0 o fr H (i64 (Sh.len l)) H :=
  (aop_len ho hx rfl ht).conv (by simp [Sh.len])
theorem t_len_view {t e : TypeId} {s by' id off n : Nat} {es : List AV} {xo : Operand} (enc : α → AV) (l : List α) (hn : n = (l.map enc).length) (ho : o.op = .call { callee := .builtin .len, args := #[xo], argTypes := #[t] }) (hx : evalA fr xo = some (.view id off n)) (hid : H.get id = some es) (ht : elT P t = some (e, s, by')) : AOp P W0 o fr H (i64 (Sh.len l)) H := by
  subst hn
  exact (aop_len_view ho hx hid ht).conv (by simp [Sh.len])

theorem flat_map {s : Nat} (h : ∀ x : α, (enc x).flat.length = s) (l : List α) : ∀ y ∈ l.map enc, y.flat.length = s := fun y hy => by
  obtain ⟨x, _, rfl⟩ := List.mem_map.1 hy; exact h x
theorem t_app_view {t ty e : TypeId} {s by' id n : Nat} {z : Value} {xo yo : Operand} {ay : AV} (enc : α → AV) (l m L : List α) (hL : Sh.app by' l m = some L) (hn : n = (l.map enc).length) (hT : ElT P t e s by' z) (hfl : ∀ x : α, (enc x).flat.length = s) (ho : o.op = .call { callee := .builtin .append, args := #[xo, yo], argTypes := #[t, t] }) (hty : o.type = ty)
    (hx : evalA fr xo = some (.view id 0 n)) (hid : H.get id = some (l.map enc)) (hs : H.sz id = some s) (hy : evalA fr yo = some ay) (hys : ay.elems H = some (m.map enc)) : AOp P W0 o fr H (.view H.next 0 (L.map enc).length) ((H.del id).push s (L.map enc)) := by
  subst hn
  obtain ⟨h1, rfl⟩ := Sh.app_some hL
  have := aop_append_view (P := P) (W0 := W0) (o := o) (fr := fr) (H := H) hT ho hty hx hid hs hy hys (flat_map hfl l) (flat_map hfl m) (by simpa using h1)
  simpa using this
theorem t_make {t e : TypeId} {s by' : Nat} {xo yo : Operand} {kl kc : IntKind} {nl nc : Int} {z : Value} (enc : α → AV) (zx : α) (L : List α) (hL : Sh.mk by' nl nc zx = some L) (ho : o.op = .makeSlice t xo yo) (hx : evalA fr xo = some (.imm (.int kl nl))) (hy : evalA fr yo = some (.imm (.int kc nc)))
    (ht : elT P t = some (e, s, by')) (hz : zrT P e = some z) (hk : z.okV = true) (hs : (AV.ofV z).flat.length = s) (hzx : enc zx = AV.ofV z) : AOp P W0 o fr H (.view H.next 0 (L.map enc).length) (H.push s (L.map enc)) := by
  obtain ⟨m, c, h1, h2, h3, h4, h5, rfl⟩ := Sh.mk_some hL
  have := aop_makeSlice (P := P) (W0 := W0) (o := o) (fr := fr) (H := H) ho hx hy h1 h2 h3 ht h4 h5 hz hk hs
  simpa [hzx] using this

theorem t_shl {t t' : TypeId} {x y : Operand} {a r : BitVec 64} {k' : IntKind} {n : Int} (h : Sh.shl a n = some r) (ho : o.op = .binOp .shl t x y t') (hx : evalA fr x = some (u64 a)) (hy : evalA fr y = some (.imm (.int k' n))) : AOp P W0 o fr H (u64 r) H := by
  obtain ⟨h0, rfl⟩ := Sh.shl_some h
  rcases Int.lt_or_le n 64 with h64 | h64
  · exact aop_shl64 ho hx hy h0 h64
  · have e : a <<< n.toNat = 0#64 := BitVec.shiftLeft_eq_zero (by omega)
    rw [e]
    exact aop_shift ho hx hy (fun w => by
      have hn : ¬ n < 0 := by omega
      have hm : min n.toNat 64 = 64 := by omega
      simp only [binOp, Op.shift, hn, if_false, IntKind.bits, hm, wrapu]
      show Result.ok _ w = Result.ok _ w
      congr 4
      apply BitVec.eq_of_toNat_eq
      rw [BitVec.toNat_ofInt]
      simp) rfl

theorem t_shr {t t' : TypeId} {x y : Operand} {a r : BitVec 64} {k' : IntKind} {n : Int} (h : Sh.shr a n = some r) (ho : o.op = .binOp .shr t x y t') (hx : evalA fr x = some (u64 a)) (hy : evalA fr y = some (.imm (.int k' n))) : AOp P W0 o fr H (u64 r) H := by
  obtain ⟨h0, rfl⟩ := Sh.shr_some h
  rcases Int.lt_or_le n 64 with h64 | h64
  · exact aop_shr64 ho hx hy h0 h64
  · have e : a >>> n.toNat = 0#64 := BitVec.ushiftRight_eq_zero (by omega)
    rw [e]
    exact aop_shift ho hx hy (fun w => by
      have hn : ¬ n < 0 := by omega
      have hm : min n.toNat 64 = 64 := by omega
      simp only [binOp, Op.shift, hn, if_false, IntKind.bits, hm]
      show Result.ok _ w = Result.ok _ w
      have h2 : (a.toNat : Int).fdiv (2 ^ 64) = 0 := by
        have := a.isLt
        rw [Int.fdiv_eq_ediv_of_nonneg _ (by decide)]
        omega
      rw [h2]; rfl) rfl
end

def TabAt (W0 : World) (g : Nat) : Prop := ∀ (j : Nat) (v : Value), (Bv.tab.map fun (k : Nat) => Value.int .u8 (k : Int))[j]? = some v → W0.cell? ⟨g, j, none⟩ = some v ∧ v.oneCell' = true
theorem t_index_glob {P : Program} {W0 : Base} {fr : Fr} {H : Heap} {o : Oper} {t : TypeId} {gl k : Nat} {io : Operand} {ki : IntKind} {i x : Int} (hi : i = k) (hl : (Sh.tab8)[k]? = some x) (ho : o.op = .indexAddr t (.global gl) io) (hio : evalA fr io = some (.imm (.int ki i))) (ht : arT P t = some (64, 1)) (hT : TabAt W0.w gl) :
    AOp P W0 o fr H (.pp ((Bv.tab.map fun (k : Nat) => Value.int .u8 (k : Int)).map .imm) k) H :=
  aop_index_glob ho hio ht hi (by have := Sh.get_lt hl; simpa [Sh.tab8, Bv.tab] using this) rfl hT (by decide)
theorem tab_get {k : Nat} {x : Int} (h : Sh.tab8[k]? = some x) : partA ((Bv.tab.map fun (k : Nat) => Value.int .u8 (k : Int)).map .imm) k 1 false = some (kA .u8 x) := by
  show ((Bv.tab.map _).map _)[k]? = _
  simp only [Sh.tab8, List.getElem?_map, Option.map_eq_some_iff] at h
  obtain ⟨q, h1, rfl⟩ := h
  simp [h1]
section
variable {W0 : Base} {N : Nat} {H : Heap} {g : List (Nat × Nat)} {nw : List Nat}

def SeeAll (H : Heap) (g : List (Nat × Nat)) (nw : List Nat) : List AV → List AV → Prop
  | [], [] => True
  | x :: l, y :: m => See H g nw x y ∧ SeeAll H g nw l m
  | _, _ => False

theorem SeeAll.spec : ∀ {l m : List AV}, SeeAll H g nw l m → l.length = m.length ∧ ∀ (k : Nat) (x x' : AV), l[k]? = some x → m[k]? = some x' → See H g nw x x'
  | [], [], _ => ⟨rfl, fun k x x' h => by simp at h⟩
  | x :: l, y :: m, h => by
    obtain ⟨h1, h2⟩ := SeeAll.spec h.2
    refine ⟨by simp [h1], fun k u v hu hv => ?_⟩
    cases k with
    | zero => simp at hu hv; subst hu hv; exact h.1
    | succ k => simp at hu hv; exact h2 k u v hu hv
  | [], _ :: _, h => h.elim
  | _ :: _, [], h => h.elim

theorem See.ag {cs cs' : List AV} (h : SeeAll H g nw cs cs') : See H g nw (.agg cs) (.agg cs') := .agg cs cs' h.spec.1 h.spec.2
theorem See.tp {cs cs' : List AV} (h : SeeAll H g nw cs cs') : See H g nw (.tuple cs) (.tuple cs') := .tuple cs cs' h.spec.1 h.spec.2
theorem See.lendAll {id : Nat} {es : List AV} (h1 : H.get id = some es) (h2 : g.all (fun p => p.2 != id) = true) (h3 : ∀ e ∈ es, NoId e) : See H g nw (.view id 0 es.length) (.sl es) :=
  .lend h1 (fun p hp => by have := List.all_eq_true.1 h2 p hp; simpa using this) (by simp) h3
theorem See.lendL {id n : Nat} {es : List AV} (h1 : H.get id = some es) (h2 : g.all (fun p => p.2 != id) = true) (hn : n = es.length) (h3 : ∀ e ∈ es, NoId e) : See H g nw (.view id 0 n) (.sl es) := by
  subst hn; exact .lendAll h1 h2 h3
theorem SeeL.one {x x' : AV} (h : See H g nw x x') (hl : x.flat.length = x'.flat.length) : SeeL H g nw [x] [x'] :=
  ⟨rfl, fun k e e' h1 h2 => by
    cases k with
    | zero => simp at h1 h2; subst h1 h2; exact ⟨h, hl⟩
    | succ k => simp at h1⟩
theorem Held.cons {n old s next : Nat} {es es' : List AV} {r : List (Nat × (Nat × List AV))} (h1 : lk g n = some old) (h2 : lk H.objs old = some (s, es)) (h3 : SeeL H g nw es es') (h4 : n < next) (h5 : Held H g nw next r) : Held H g nw next ((n, (s, es')) :: r) :=
  ⟨.inl ⟨old, es, h1, h2, h3⟩, h4, h5⟩
theorem Held.fresh {n s next : Nat} {r : List (Nat × (Nat × List AV))} (h1 : n ∈ nw) (h4 : n < next) (h5 : Held H g nw next r) : Held H g nw next ((n, (s, [])) :: r) :=
  ⟨.inr ⟨h1, rfl⟩, h4, h5⟩
end

section
variable {P : Program} {W0 : Base} {N : Nat} {st : St} {Q : Exit → St → Prop}

theorem awp_seqJ {x y : Code} {ι : Type} (S : ι → St) (ok : ι → Prop) (hJ : ∀ i, ok i → AWP P W0 N y (S i) Q) (h : ∀ K : St → Prop, (∀ i s, ok i → Weak W0 N s (S i) → K s) → AWP P W0 N x st (Then K Q)) : AWP P W0 N (.seq x y) st Q :=
  awp_seq (h _ fun i _ hi hw => AWP.weak hw (hJ i hi))

def OnGoto (l : Nat) (K : St → Prop) (Q : Exit → St → Prop) : Exit → St → Prop
  | .goto l', s => l' = l ∧ K s
  | e, s => Q e s

theorem awp_scope {c rest : Code} {σ α : Type} (l : Nat) (b : σ → Option (σ ⊕ α)) (S : σ → St) (r : α) (hf : findLabel c l = some rest)
    (first : AWP P W0 N c st (OnGoto l (fun s => ∃ s0, Sh.loop b s0 = some r ∧ Weak W0 N s (S s0)) Q))
    (round : ∀ s o, b s = some o → (∀ x, o = .inr x → x = r) → AWP P W0 N rest (S s) (OnGoto l (fun s1 => ∃ s', o = .inl s' ∧ Weak W0 N s1 (S s')) Q)) (hro : W0.ro = none := by rfl) : AWP P W0 N (.scope c) st Q := fun C a hr => by
  classical
  have toWp : ∀ {c : Code} {Q : Exit → Act → World → Prop} {a : Act} {w : World}, c.wpIn (Fw W0.ro) 0 P Q a w → c.wp P Q a w := fun {c Q a w} h => by rw [hro, fw_none] at h; exact wpIn_wide.1 h
  rw [hro, fw_none]
  refine wpIn_wide.2 ?_
  let Fit : Act → World → Nat → Prop := fun a' w' n => ∃ s C', C'.w = w' ∧ Mem C C' ∧ Rel W0 N (lk (S s).fr) (S s).H C' a' ∧ Sh.iter b n s = some r
  let m : Act → World → Nat := fun a' w' => if h : ∃ k, Fit a' w' k then Classical.choose (exists_least _ h) else 0
  have fit : ∀ {s1 : St} {C1 : Ctx} {a1 : Act} {s0 : σ} {n : Nat}, Mem C C1 → Rel W0 N (lk s1.fr) s1.H C1 a1 → Weak W0 N s1 (S s0) → Sh.iter b n s0 = some r → Fit a1 C1.w n := fun {s1 C1 a1 s0 n} hm hrel hw hn => by
    obtain ⟨C3, p1, p2, p3⟩ := hw C1 a1 hrel
    exact ⟨s0, C3, p1, hm.trans p2, p3, hn⟩
  refine wp_scope_jumps l (fun a' w' => ∃ k, Fit a' w' k) m hf (wp_mono (toWp (first C a hr)) fun e a2 w2 hp => ?_) (fun a' w' hI => ?_)
  · obtain ⟨s1, C2, q1, q2, q3, q4⟩ := hp
    subst q1
    cases e with
    | goto l' =>
      obtain ⟨rfl, s0, h1, h2⟩ := q4
      exact ⟨rfl, _, fit q2 q3 h2 h1⟩
    | _ => exact ⟨s1, C2, rfl, q2, q3, q4⟩
  · obtain ⟨s, C', g1, g2, g3, g4⟩ := (Classical.choose_spec (exists_least _ hI)).1
    subst g1
    have hm : m a' C'.w = Classical.choose (exists_least _ hI) := dif_pos hI
    generalize Classical.choose (exists_least _ hI) = n at g4 hm
    cases n with
    | zero => cases g4
    | succ n =>
      simp only [Sh.iter] at g4
      cases hb : b s with
      | none => simp [hb] at g4
      | some o =>
        rw [hb] at g4
        refine wp_mono (toWp (AWP.at (round s o hb (fun x hx => by subst hx; simpa using g4)) g2 g3)) fun e a2 w2 hp => ?_
        obtain ⟨s1, C2, q1, q2, q3, q4⟩ := hp
        subst q1
        cases e with
        | goto l' =>
          obtain ⟨rfl, s', rfl, h2⟩ := q4
          have hf' := fit q2 q3 h2 g4
          refine ⟨rfl, ⟨_, hf'⟩, ?_⟩
          rw [hm]
          have : m a2 C2.w ≤ n := by
            show (if h : ∃ k, Fit a2 C2.w k then Classical.choose (exists_least _ h) else 0) ≤ n
            rw [dif_pos ⟨_, hf'⟩]
            exact (Classical.choose_spec (exists_least _ ⟨_, hf'⟩)).2 _ hf'
          omega
        | _ => exact ⟨s1, C2, rfl, q2, q3, q4⟩
end
end Go.Av
end

section
/- Regions in whatever order is drawn: what writes stands where it must; what only computes may stand elsewhere. -/
namespace Go.Av
open Go.RowKit (Below)

abbrev Flags := List (Bool × Bool)
def Flags.calm (fs : Flags) (i : Nat) : Bool := (fs.getD i (false, true)).1 && !(fs.getD i (false, true)).2
def Flags.loud (fs : Flags) (i : Nat) : Bool := (fs.getD i (false, true)).2

def calmB (md : Region.Mode) (ops : Array Oper) (fs : Flags) (listed : Array Bool) (i : Nat) : Bool :=
  (List.range ops.size).all fun j => j == i || listed.getD j true || match ops[j]? with
    | some oj => oj.after.any (fun e => Region.binds md e && e.on == i) || ((!fs.loud j || fs.calm i) && (!fs.loud i || fs.calm j))
    | none => true

def behindL (md : Region.Mode) (ops : Array Oper) (i : Nat) : Nat → List Bool
  | 0 => []
  | k + 1 => (behindL md ops i k) ++ [match ops[k]? with
    | some o => o.after.any fun e => Region.binds md e && (e.on == i || (behindL md ops i k).getD e.on false)
    | none => false]
def calmT (md : Region.Mode) (ops : Array Oper) (fs : Flags) (listed : Array Bool) (i : Nat) : Bool :=
  (fun B : List Bool => (List.range ops.size).all fun j => j == i || (if listed.getD j true then !B.getD j false else B.getD j false || ((!fs.loud j || fs.calm i) && (!fs.loud i || fs.calm j)))) (behindL md ops i ops.size)

def lexH (md : Region.Mode) (ops : Array Oper) (fs : Flags) (stop : Option Nat) : Nat → Nat → Array Bool → Bool
  | 0, _, listed => (Region.ready md ops listed).isEmpty
  | f + 1, k, listed => stop == some k || ((match ops[k]? with
      | some _ => decide (Region.ready md ops listed = [k]) || ((Region.ready md ops listed).contains k && Region.free md ops listed k && (calmB md ops fs listed k || calmT md ops fs listed k))
      | none => false) && lexH md ops fs stop f (k + 1) (listed.setIfInBounds k true))

def drawB (fs : Flags) (stop : Option Nat) (ops : Array Oper) : Bool := lexH .any ops fs stop ops.size 0 (Array.replicate ops.size false)
def lst (n : Nat) : Nat → Array Bool
  | 0 => Array.replicate n false
  | k + 1 => (lst n k).setIfInBounds k true

section
variable {P : Program} {W0 : Base} {N : Nat} {C : Ctx} {fr : Fr} {a : Act} {H : Heap} {ops : Array Oper} {md : Region.Mode} {fs : Flags}

def YieldsH (P : Program) (W0 : Base) (ops : Array Oper) (fs : Flags) (i : Nat) (o : Oper) (r : AV) (H1 : Heap) (fr : Fr) (H : Heap) : Prop :=
  (wantA ops fr o = some true ∧ AOp P W0 o fr H r H1 ∧ (fs.loud i = false → H1 = H) ∧ (fs.calm i = true → ∀ H', AOp P W0 o fr H' r H')) ∨ (wantA ops fr o = some false ∧ r = .tuple [] ∧ H1 = H)

theorem YieldsH.quiet {i : Nat} {o : Oper} {r : AV} {H1 : Heap} (h : YieldsH P W0 ops fs i o r H1 fr H) (hq : fs.loud i = false) : H1 = H := by
  rcases h with ⟨_, _, h, _⟩ | ⟨_, _, h⟩
  · exact h hq
  · exact h

theorem calm_quiet {i : Nat} (h : fs.calm i = true) : fs.loud i = false := by
  simp only [Flags.calm, Bool.and_eq_true, Bool.not_eq_true'] at h
  exact h.2

theorem YieldsH.dry {i : Nat} {o : Oper} {r : AV} {H1 : Heap} (h : YieldsH P W0 ops fs i o r H1 fr H) (hd : fs.calm i = true) (H' : Heap) : YieldsH P W0 ops fs i o r H' fr H' := by
  rcases h with ⟨h1, _, _, h2⟩ | ⟨h1, h2, _⟩
  · exact .inl ⟨h1, h2 hd H', fun _ => rfl, h2⟩
  · exact .inr ⟨h1, h2, rfl⟩

theorem aop_put {o : Oper} {r : AV} {H1 : Heap} {dst : Option Nat} {s : AV} (hd : ∀ d, dst = some d → d ∉ o.looksAt ops) : AOp P W0 o (fr.put dst s) H r H1 ↔ AOp P W0 o fr H r H1 := by
  have hR : ∀ C (a : Act) (x : Operand), x ∈ o.op.operands → (RepO C (fr.put dst s) a x ↔ RepO C fr a x) := fun C a x hx => by
    unfold RepO
    constructor
    · intro h t ht av hav
      subst ht
      exact h t rfl av (by rw [Fr.put_other (fun he => hd t he (mem_looksAt_tmp hx))]; exact hav)
    · intro h t ht av hav
      subst ht
      rw [Fr.put_other (fun he => hd t he (mem_looksAt_tmp hx))] at hav
      exact h t rfl av hav
  unfold AOp
  constructor
  · exact fun h2 C a hI hH hx => h2 C a hI hH (fun x hm => (hR C a x hm).2 (hx x hm))
  · exact fun h2 C a hI hH hx => h2 C a hI hH (fun x hm => (hR C a x hm).1 (hx x hm))

theorem wantA_put {o : Oper} {dst : Option Nat} {s : AV} (hd : ∀ d, dst = some d → d ∉ o.looksAt ops) : wantA ops (fr.put dst s) o = wantA ops fr o := by
  unfold wantA
  cases hg : o.guard with
  | none => rfl
  | some p =>
    obtain ⟨j, b⟩ := p
    simp only
    cases hj : (ops[j]?).bind (·.dst) with
    | none => rfl
    | some d =>
      simp only
      rw [Fr.put_other]
      intro he
      exact hd d he (by unfold Oper.looksAt; exact List.mem_append_right _ (by simp [hg, hj]))

theorem YieldsH.put {i : Nat} {o : Oper} {r : AV} {H1 : Heap} {dst : Option Nat} {s : AV} (hd : ∀ d, dst = some d → d ∉ o.looksAt ops) : YieldsH P W0 ops fs i o r H1 (fr.put dst s) H ↔ YieldsH P W0 ops fs i o r H1 fr H := by
  unfold YieldsH
  rw [wantA_put hd, aop_put hd]
  have : (∀ H', AOp P W0 o (fr.put dst s) H' r H') ↔ ∀ H', AOp P W0 o fr H' r H' := forall_congr' fun H' => aop_put hd
  rw [this]

def AStH (P : Program) (W0 : Base) (ops : Array Oper) (fs : Flags) (i : Nat) (K : Fr → Heap → Prop) (fr : Fr) (H : Heap) : Prop :=
  match ops[i]? with
  | none => K fr H
  | some o => ∃ r H1, YieldsH P W0 ops fs i o r H1 fr H ∧ K (fr.put o.dst r) H1

theorem AStH.of {i : Nat} {o : Oper} {r : AV} {H1 : Heap} {K : Fr → Heap → Prop} (hi : ops[i]? = some o) (hy : YieldsH P W0 ops fs i o r H1 fr H) (h : K (fr.put o.dst r) H1) : AStH P W0 ops fs i K fr H := by
  unfold AStH
  simp only [hi]
  exact ⟨r, H1, hy, h⟩

def AAnyH (P : Program) (W0 : Base) (md : Region.Mode) (ops : Array Oper) (fs : Flags) (L : Fr → Heap → Prop) : Nat → Array Bool → Fr → Heap → Prop
  | 0, listed, fr, H => Region.ready md ops listed = [] ∧ L fr H
  | f + 1, listed, fr, H => Region.ready md ops listed ≠ [] ∧ ∀ i ∈ Region.ready md ops listed, AStH P W0 ops fs i (AAnyH P W0 md ops fs L f (listed.setIfInBounds i true)) fr H

theorem wantA_mono {o : Oper} {fr0 : Fr} {b : Bool} (hk : ∀ t x, fr0 t = some x → fr t = some x) (h : wantA ops fr0 o = some b) : wantA ops fr o = some b := by
  unfold wantA at *
  split at h
  · assumption
  · split at h
    · split at h
      · rename_i hc; simp only [hk _ _ hc]; exact h
      · rename_i hc; simp only [hk _ _ hc]; exact h
      · cases h
    · cases h

theorem AOp.mono {o : Oper} {fr0 : Fr} {r : AV} {H1 : Heap} (hk : ∀ t x, fr0 t = some x → fr t = some x) (h : AOp P W0 o fr0 H r H1) : AOp P W0 o fr H r H1 :=
  fun C a hI hH hx => h C a hI hH (fun x hm t ht av hav => hx x hm t ht av (hk t av hav))

theorem YieldsH.mono {i : Nat} {o : Oper} {fr0 : Fr} {r : AV} {H1 : Heap} (hk : ∀ t x, fr0 t = some x → fr t = some x) (h : YieldsH P W0 ops fs i o r H1 fr0 H) : YieldsH P W0 ops fs i o r H1 fr H := by
  rcases h with ⟨h1, h2, h3, h4⟩ | ⟨h1, h2⟩
  · exact .inl ⟨wantA_mono hk h1, h2.mono hk, h3, fun hd H' => (h4 hd H').mono hk⟩
  · exact .inr ⟨wantA_mono hk h1, h2⟩

theorem put_mono {fr0 : Fr} {dst : Option Nat} {r : AV} (hk : ∀ t x, fr0 t = some x → fr t = some x) : ∀ t x, fr0.put dst r t = some x → fr.put dst r t = some x := by
  cases dst with
  | none => exact hk
  | some d =>
    intro t x h
    simp only [Fr.put] at *
    split at h
    · rename_i ht; rw [if_pos ht]; exact h
    · rename_i ht; rw [if_neg ht]; exact hk t x h

theorem AAnyH.mono {L : Fr → Heap → Prop} (hL : ∀ fr0 fr H, (∀ t x, fr0 t = some x → fr t = some x) → L fr0 H → L fr H) : ∀ (f : Nat) (listed : Array Bool) (fr0 fr : Fr) (H : Heap), (∀ t x, fr0 t = some x → fr t = some x) → AAnyH P W0 md ops fs L f listed fr0 H → AAnyH P W0 md ops fs L f listed fr H
  | 0, _, _, _, _, hk, h => ⟨h.1, hL _ _ _ hk h.2⟩
  | f + 1, listed, fr0, fr, H, hk, h => ⟨h.1, fun i hi => by
    have h1 := h.2 i hi
    unfold AStH at *
    split
    · rename_i ho; simp only [ho] at h1; exact AAnyH.mono hL f _ _ _ _ hk h1
    · rename_i o ho
      simp only [ho] at h1
      obtain ⟨r, H1, hy, hK⟩ := h1
      exact ⟨r, H1, hy.mono hk, AAnyH.mono hL f _ _ _ _ (put_mono hk) hK⟩⟩

theorem AAnyH_first {i : Nat} {oi : Oper} {v : AV} {L : Fr → Heap → Prop} (B B' : Nat → Bool) (hBB : ∀ j, B' j = true → B j = true)
    (hB : ∀ j oj, ops[j]? = some oj → B j = true → ∃ e ∈ oj.after, Region.binds md e = true ∧ (e.on = i ∨ B' e.on = true)) (hi : ops[i]? = some oi) :
    ∀ (f : Nat) (listed : Array Bool) (fr : Fr) (H H1 : Heap), (∀ j, B' j = true → listed.getD j true = false) →
      (∀ j oj, ops[j]? = some oj → j ≠ i → listed.getD j true = false → B j = false → oi.apart ops oj = true ∧ (fs.loud j = true → fs.calm i = true) ∧ (fs.loud i = true → fs.calm j = true)) →
      i ∈ Region.ready md ops listed → YieldsH P W0 ops fs i oi v H1 fr H →
      AAnyH P W0 md ops fs L f (listed.setIfInBounds i true) (fr.put oi.dst v) H1 → AAnyH P W0 md ops fs L (f + 1) listed fr H := by
  intro f
  induction f with
  | zero =>
    intro listed fr H H1 _ _ hr hy HL
    refine ⟨fun h => (by rw [h] at hr; cases hr), fun j hjr => ?_⟩
    by_cases hji : j = i
    · subst hji; exact .of hi hy HL
    · have h1 := ready_mono hjr hji
      rw [HL.1] at h1; cases h1
  | succ f ih =>
    intro listed fr H H1 hBl hfree hr hy HL
    have hun := (mem_ready.1 hr).1
    refine ⟨fun h => (by rw [h] at hr; cases hr), fun j hjr => ?_⟩
    by_cases hji : j = i
    · subst hji; exact .of hi hy HL
    · have h1 := HL.2 j (ready_mono hjr hji)
      obtain ⟨hjun, oj, hoj, hall⟩ := mem_ready.1 hjr
      have hnot : B j = false := by
        cases hbj : B j with
        | false => rfl
        | true =>
          obtain ⟨e, he, hb, heq⟩ := hB j oj hoj hbj
          have h2 := hall e he hb
          rcases heq with heq | heq
          · rw [heq, getD_both hun] at h2
            cases h2
          · rw [getD_both (hBl _ heq)] at h2
            cases h2
      have hBl2 : ∀ k, B' k = true → (listed.setIfInBounds j true).getD k true = false := fun k hk => by
        have hjk : j ≠ k := fun e => by subst e; rw [hBB _ hk] at hnot; cases hnot
        rw [getD_set_ne true hjk]; exact hBl k hk
      obtain ⟨hap, hdr, hdr2⟩ := hfree j oj hoj hji hjun hnot
      obtain ⟨a1, a2, a3⟩ := Oper.apart_spec hap
      unfold AStH at h1
      simp only [hoj] at h1
      obtain ⟨s, H2, hs, hK⟩ := h1
      rw [YieldsH.put a1] at hs
      have rest : ∀ k ok, ops[k]? = some ok → k ≠ i → (listed.setIfInBounds j true).getD k true = false → B k = false → oi.apart ops ok = true ∧ (fs.loud k = true → fs.calm i = true) ∧ (fs.loud i = true → fs.calm k = true) := fun k ok hk hki hku hno => by
        refine hfree k ok hk hki ?_ hno
        by_cases hjk : j = k
        · subst hjk; exact hjun
        · rw [getD_set_ne true hjk] at hku; exact hku
      cases hli : fs.loud i with
      | true =>
        -- what turns the heap stays where it is; the other one does the same in any heap
        have hcj := hdr2 hli
        have hH2 := hs.quiet (calm_quiet hcj)
        subst hH2
        refine .of hoj (hs.dry hcj H) (ih (listed.setIfInBounds j true) (fr.put oj.dst s) H H2 hBl2 rest (ready_mono hr (Ne.symm hji)) ((YieldsH.put a3).2 hy) ?_)
        rw [Array.setIfInBounds_comm _ _ hji, ← Fr.put_comm fr v s a2]
        exact hK
      | false =>
        have hH1 := hy.quiet hli
        subst hH1
        have hy' : YieldsH P W0 ops fs i oi v H2 fr H2 := by
          cases hl : fs.loud j with
          | true => exact hy.dry (hdr hl) H2
          | false => rw [hs.quiet hl]; exact hy
        refine .of hoj hs (ih (listed.setIfInBounds j true) (fr.put oj.dst s) H2 H2 hBl2 rest (ready_mono hr (Ne.symm hji)) ((YieldsH.put a3).2 hy') ?_)
        rw [Array.setIfInBounds_comm _ _ hji, ← Fr.put_comm fr v s a2]
        exact hK

inductive ARunH (P : Program) (W0 : Base) (ops : Array Oper) (fs : Flags) (stop : Option Nat) (L : Fr → Heap → Prop) : Nat → List Oper → Fr → Heap → Prop
  | nil (k : Nat) (fr : Fr) (H : Heap) : L fr H → ARunH P W0 ops fs stop L k [] fr H
  | op {k : Nat} {o : Oper} {rest : List Oper} {fr : Fr} {H H1 : Heap} {r : AV} : (stop == some k) = false → YieldsH P W0 ops fs k o r H1 fr H → ARunH P W0 ops fs stop L (k + 1) rest (fr.put o.dst r) H1 → ARunH P W0 ops fs stop L k (o :: rest) fr H
  | drop {k : Nat} {l : List Oper} {fr fr0 : Fr} {H : Heap} : (∀ t x, fr0 t = some x → fr t = some x) → ARunH P W0 ops fs stop L k l fr0 H → ARunH P W0 ops fs stop L k l fr H
  | fork {k : Nat} {l : List Oper} {fr : Fr} {H : Heap} : AAnyH P W0 .any ops fs L l.length (lst ops.size k) fr H → ARunH P W0 ops fs stop L k l fr H

theorem calm_spec {i : Nat} {listed : Array Bool} (h : calmB md ops fs listed i = true) (j : Nat) (oj : Oper)
    (hj : ops[j]? = some oj) (hne : j ≠ i) (hun : listed.getD j true = false) (hno : ∀ e ∈ oj.after, Region.binds md e = true → e.on ≠ i) : (fs.loud j = true → fs.calm i = true) ∧ (fs.loud i = true → fs.calm j = true) := by
  simp only [calmB, List.all_eq_true, List.mem_range] at h
  have h1 := h j (Array.getElem?_eq_some_iff.1 hj).1
  simp only [hj, Bool.or_eq_true, beq_iff_eq, hne, false_or, hun, Bool.false_eq_true] at h1
  rcases h1 with h1 | h1
  · obtain ⟨e, he, hb⟩ := Array.any_eq_true'.1 h1
    simp only [Bool.and_eq_true, beq_iff_eq] at hb
    exact absurd hb.2 (hno e he hb.1)
  · simp only [Bool.and_eq_true, Bool.or_eq_true, Bool.not_eq_true'] at h1
    refine ⟨fun h => ?_, fun h => ?_⟩
    · rcases h1.1 with h2 | h2
      · rw [h] at h2; cases h2
      · exact h2
    · rcases h1.2 with h2 | h2
      · rw [h] at h2; cases h2
      · exact h2

def direct (md : Region.Mode) (ops : Array Oper) (i j : Nat) : Bool := match ops[j]? with
  | some oj => oj.after.any fun e => Region.binds md e && e.on == i
  | none => false
theorem direct_no {i j : Nat} {oj : Oper} (hj : ops[j]? = some oj) (h : direct md ops i j = false) : ∀ e ∈ oj.after, Region.binds md e = true → e.on ≠ i := by
  unfold direct at h
  simp only [hj] at h
  intro e he hb heq
  have : (oj.after.any fun e => Region.binds md e && e.on == i) = true := Array.any_eq_true'.2 ⟨e, he, by simp [hb, heq]⟩
  rw [h] at this; cases this
theorem direct_is {i j : Nat} {oj : Oper} (hj : ops[j]? = some oj) (h : direct md ops i j = true) : ∃ e ∈ oj.after, Region.binds md e = true ∧ e.on = i := by
  unfold direct at h
  simp only [hj] at h
  obtain ⟨e, he, hb⟩ := Array.any_eq_true'.1 h
  simp only [Bool.and_eq_true, beq_iff_eq] at hb
  exact ⟨e, he, hb.1, hb.2⟩
theorem behind_len (i : Nat) : ∀ k, (behindL md ops i k).length = k
  | 0 => rfl
  | k + 1 => by simp [behindL, behind_len i k]
theorem behind_at (i : Nat) : ∀ k j, j < k → (behindL md ops i k).getD j false = (behindL md ops i (j + 1)).getD j false := by
  intro k
  induction k with
  | zero => intro j h; omega
  | succ k ih =>
    intro j h
    by_cases hj : j = k
    · subst hj; rfl
    · rw [← ih j (by omega)]
      have hl := behind_len (md := md) (ops := ops) i k
      simp only [behindL, List.getD]
      rw [List.getElem?_append_left (by omega)]
theorem behind_self (i j : Nat) {oj : Oper} (hj : ops[j]? = some oj) : (behindL md ops i (j + 1)).getD j false = oj.after.any fun e => Region.binds md e && (e.on == i || (behindL md ops i j).getD e.on false) := by
  have hl := behind_len (md := md) (ops := ops) i j
  simp only [behindL, hj, List.getD]
  rw [List.getElem?_append_right (by omega), hl]
  simp
theorem behind_is {i j : Nat} {oj : Oper} (hj : ops[j]? = some oj) (h : (behindL md ops i ops.size).getD j false = true) : ∃ e ∈ oj.after, Region.binds md e = true ∧ (e.on = i ∨ (behindL md ops i ops.size).getD e.on false = true) := by
  have hlt : j < ops.size := (Array.getElem?_eq_some_iff.1 hj).1
  rw [behind_at i _ j hlt, behind_self i j hj] at h
  obtain ⟨e, he, hb⟩ := Array.any_eq_true'.1 h
  simp only [Bool.and_eq_true, Bool.or_eq_true, beq_iff_eq] at hb
  refine ⟨e, he, hb.1, hb.2.imp id fun h2 => ?_⟩
  have hej : e.on < j := by
    rcases Nat.lt_or_ge e.on j with h3 | h3
    · exact h3
    · have hl := behind_len (md := md) (ops := ops) i j
      simp only [List.getD] at h2
      rw [List.getElem?_eq_none (by omega)] at h2
      cases h2
  rw [behind_at i _ _ hej] at h2
  rw [behind_at i _ _ (show e.on < ops.size by omega)]
  exact h2
theorem behind_direct {i j : Nat} {oj : Oper} (hj : ops[j]? = some oj) (h : (behindL md ops i ops.size).getD j false = false) : ∀ e ∈ oj.after, Region.binds md e = true → e.on ≠ i := by
  have hlt : j < ops.size := (Array.getElem?_eq_some_iff.1 hj).1
  rw [behind_at i _ j hlt, behind_self i j hj] at h
  intro e he hb heq
  have : (oj.after.any fun e => Region.binds md e && (e.on == i || (behindL md ops i j).getD e.on false)) = true := Array.any_eq_true'.2 ⟨e, he, by simp [hb, heq]⟩
  rw [h] at this; cases this
theorem calmT_spec {i : Nat} {listed : Array Bool} (h : calmT md ops fs listed i = true) : (∀ j, (behindL md ops i ops.size).getD j false = true → j = i ∨ listed.getD j true = false) ∧
    ∀ j oj, ops[j]? = some oj → j ≠ i → listed.getD j true = false → (behindL md ops i ops.size).getD j false = false → (fs.loud j = true → fs.calm i = true) ∧ (fs.loud i = true → fs.calm j = true) := by
  simp only [calmT, List.all_eq_true, List.mem_range] at h
  constructor
  · intro j hj
    have hlt : j < ops.size := by
      rcases Nat.lt_or_ge j ops.size with h3 | h3
      · exact h3
      · have hl := behind_len (md := md) (ops := ops) i ops.size
        simp only [List.getD] at hj
        rw [List.getElem?_eq_none (by omega)] at hj
        cases hj
    have h1 := h j hlt
    rw [hj] at h1
    simp only [Bool.or_eq_true, beq_iff_eq] at h1
    rcases h1 with h1 | h1
    · exact .inl h1
    · right
      cases hl : listed.getD j true with
      | false => rfl
      | true => rw [hl] at h1; simp at h1
  · intro j oj hj hne hl hb
    have h1 := h j (Array.getElem?_eq_some_iff.1 hj).1
    rw [hl, hb] at h1
    simp only [Bool.or_eq_true, beq_iff_eq, hne, false_or, Bool.false_eq_true, if_false, Bool.and_eq_true, Bool.not_eq_true'] at h1
    refine ⟨fun h => ?_, fun h => ?_⟩
    · rcases h1.1 with h2 | h2
      · rw [h] at h2; cases h2
      · exact h2
    · rcases h1.2 with h2 | h2
      · rw [h] at h2; cases h2
      · exact h2

theorem AAnyH_lex {L : Fr → Heap → Prop} {stop : Option Nat} (hL : ∀ fr0 fr H, (∀ t x, fr0 t = some x → fr t = some x) → L fr0 H → L fr H) {k : Nat} {l : List Oper} {fr : Fr} {H : Heap} (h : ARunH P W0 ops fs stop L k l fr H) : (∀ j, j < l.length → l[j]? = ops[k + j]?) → lexH .any ops fs stop l.length k (lst ops.size k) = true →
      AAnyH P W0 .any ops fs L l.length (lst ops.size k) fr H := by
  induction h with
  | nil k fr H hQ => intro _ hc; exact ⟨by simpa [lexH] using hc, hQ⟩
  | drop hk _ ih => intro hl hc; exact AAnyH.mono hL _ _ _ _ _ hk (ih hl hc)
  | fork h => intro _ _; exact h
  | @op k o l fr H H1 r hs hy h' ih =>
    intro hl hc
    have h0 : ops[k]? = some o := by simpa using (hl 0 (by simp)).symm
    simp only [List.length_cons, lexH, h0, hs, Bool.false_or, Bool.and_eq_true] at hc
    obtain ⟨hc1, hc2⟩ := hc
    have rest := ih (fun j hjl => by have := hl (j + 1) (by simp; omega); simpa [Nat.add_assoc, Nat.add_comm 1 j] using this) hc2
    simp only [Bool.or_eq_true, decide_eq_true_eq, Bool.and_eq_true] at hc1
    rcases hc1 with hc1 | ⟨⟨g1, g2⟩, g3⟩
    · refine ⟨fun he => (by rw [hc1] at he; cases he), fun j hj => ?_⟩
      rw [hc1] at hj
      have : j = k := by simpa using hj
      subst this
      exact .of h0 hy rest
    · have hr : k ∈ Region.ready .any ops (lst ops.size k) := by simpa using g1
      have hun := (mem_ready.1 hr).1
      rcases g3 with g3 | g3
      · exact AAnyH_first (direct .any ops k) (fun _ => false) (fun _ h => by cases h) (fun j oj hj h => by
          obtain ⟨e, h1, h2, h3⟩ := direct_is hj h
          exact ⟨e, h1, h2, .inl h3⟩) h0 l.length (lst ops.size k) fr _ _ (fun _ h => by cases h) (fun j oj hj hne hun hno => ⟨Region.free_spec h0 g2 j oj hj hne hun (direct_no hj hno), calm_spec g3 j oj hj hne hun (direct_no hj hno)⟩) hr hy rest
      · obtain ⟨c1, c2⟩ := calmT_spec g3
        exact AAnyH_first (fun j => (behindL .any ops k ops.size).getD j false) (fun j => (behindL .any ops k ops.size).getD j false) (fun _ h => h) (fun j oj hj h => behind_is hj h) h0 l.length (lst ops.size k) fr _ _ (fun j h => (c1 j h).elim (fun e => by rw [e]; exact hun) id) (fun j oj hj hne hun hno => ⟨Region.free_spec h0 g2 j oj hj hne hun (behind_direct hj hno), c2 j oj hj hne hun hno⟩) hr hy rest

theorem wpAny_of_AAnyH {L : Fr → Heap → Prop} {Q : Exit → Act → World → Prop} (hN : ∀ o ∈ ops, dstOk N o = true) :
    ∀ (f : Nat) (listed : Array Bool) (fr : Fr) (H : Heap) (C : Ctx) (a : Act), Rel W0 N fr H C a →
      (∀ fr H C' a', Ext C C' → Rel W0 N fr H C' a' → L fr H → Q .normal a' C'.w) → AAnyH P W0 md ops fs L f listed fr H → wpAny P md ops Q f listed a C.w
  | 0, listed, fr, H, C, a, hr, hL, h => ⟨h.1, hL _ _ C a (.refl C) hr h.2⟩
  | f + 1, listed, fr, H, C, a, hr, hL, h => by
    refine ⟨fun h0 => absurd h0 h.1, fun i hi => ?_⟩
    have h1 := h.2 i hi
    obtain ⟨_, o, ho, _⟩ := mem_ready.1 hi
    unfold AStH at h1
    simp only [ho] at h1
    obtain ⟨r, H1, hy, hK⟩ := h1
    have hd : ∀ d, o.dst = some d → d < N := dstOk.lt (hN o (Array.mem_of_getElem? ho))
    unfold wpOp
    simp only [ho]
    rcases hy with ⟨hw, hop, _, _⟩ | ⟨hw, rfl, rfl⟩
    · rw [wantA_spec hr.rep hw]
      simp only [if_true]
      refine .inl (hop C a hr.inv hr.heap (fun x _ t _ av hav => hr.rep t av hav) _ _ (fun v C' he hi' hH hv => ?_))
      exact wpAny_of_AAnyH hN f _ _ _ C' _ (hr.put he hi' hH hv hd) (fun f2 H2 C2 a2 h2 => hL f2 H2 C2 a2 (he.trans h2)) hK
    · rw [wantA_spec hr.rep hw]
      simp only [Bool.false_eq_true, if_false]
      exact wpAny_of_AAnyH hN f _ _ _ C _ (hr.put (.refl C) hr.inv hr.heap rep_skip hd) hL hK

def LK (K : List (Nat × AV) → Heap → Prop) (f : Fr) (g : Heap) : Prop := ∃ frl, (∀ t x, lk frl t = some x → f t = some x) ∧ K frl g
theorem LK.mono {K : List (Nat × AV) → Heap → Prop} (fr0 fr : Fr) (H : Heap) (hk : ∀ t x, fr0 t = some x → fr t = some x) (h : LK K fr0 H) : LK K fr H := by
  obtain ⟨frl, h1, h2⟩ := h
  exact ⟨frl, fun t x h => hk t x (h1 t x h), h2⟩

def ARH (P : Program) (W0 : Base) (ops : Array Oper) (fs : Flags) (stop : Option Nat) (k : Nat) (l : List Oper) (fr : List (Nat × AV)) (H : Heap) (K : List (Nat × AV) → Heap → Prop) : Prop :=
  ARunH P W0 ops fs stop (LK K) k l (lk fr) H

variable {Q : Exit → St → Prop} {frl : List (Nat × AV)} {K : List (Nat × AV) → Heap → Prop} {o : Oper} {rest : List Oper} {k : Nat} {stop : Option Nat}

theorem ARH.nil (h : K frl H) : ARH P W0 ops fs stop k [] frl H K := ARunH.nil _ _ _ ⟨frl, fun _ _ h => h, h⟩
theorem ARH.drop {l : List Oper} {frx : List (Nat × AV)} (h : Keeps frl frx) (h2 : ARH P W0 ops fs stop k l frx H K) : ARH P W0 ops fs stop k l frl H K := ARunH.drop (Keeps.lk h) h2
theorem ARH.keep (ts : List Nat) {l : List Oper} {frx : List (Nat × AV)} (h : pick frl ts = some frx) (h2 : ARH P W0 ops fs stop k l frx H K) : ARH P W0 ops fs stop k l frl H K := ARH.drop (pick_keeps h) h2
theorem ARH.step {r : AV} {H1 : Heap} (h : YieldsH P W0 ops fs k o r H1 (lk frl) H) (h2 : ARH P W0 ops fs stop (k + 1) rest (putL frl o.dst r) H1 K) (hs : (stop == some k) = false := by rfl) : ARH P W0 ops fs stop k (o :: rest) frl H K := by
  unfold ARH at h2
  rw [lk_putL] at h2
  exact ARunH.op hs h h2
theorem ARH.skip (hw : wantA ops (lk frl) o = some false) (h2 : ARH P W0 ops fs stop (k + 1) rest (putL frl o.dst (.tuple [])) H K) (hs : (stop == some k) = false := by rfl) : ARH P W0 ops fs stop k (o :: rest) frl H K := .step (.inr ⟨hw, rfl, rfl⟩) h2 hs
theorem ARH.dry {r : AV} (hw : wantA ops (lk frl) o = some true) (h : ∀ H', AOp P W0 o (lk frl) H' r H') (h2 : ARH P W0 ops fs stop (k + 1) rest (putL frl o.dst r) H K) (hs : (stop == some k) = false := by rfl) : ARH P W0 ops fs stop k (o :: rest) frl H K :=
  .step (.inl ⟨hw, h H, fun _ => rfl, fun _ => h⟩) h2 hs
theorem ARH.op {r : AV} (hw : wantA ops (lk frl) o = some true) (hd : fs.calm k = false) (h : AOp P W0 o (lk frl) H r H) (h2 : ARH P W0 ops fs stop (k + 1) rest (putL frl o.dst r) H K) (hs : (stop == some k) = false := by rfl) : ARH P W0 ops fs stop k (o :: rest) frl H K :=
  .step (.inl ⟨hw, h, fun _ => rfl, fun he => by rw [hd] at he; cases he⟩) h2 hs
theorem yields_loud {r : AV} {H1 : Heap} (hw : wantA ops (lk frl) o = some true) (hl : fs.loud k = true) (h : AOp P W0 o (lk frl) H r H1) : YieldsH P W0 ops fs k o r H1 (lk frl) H :=
  .inl ⟨hw, h, (fun he => by rw [hl] at he; cases he), (fun he => by have := calm_quiet he; rw [hl] at this; cases this)⟩
theorem ARH.loud {r : AV} {H1 : Heap} (hw : wantA ops (lk frl) o = some true) (hl : fs.loud k = true) (h : AOp P W0 o (lk frl) H r H1) (h2 : ARH P W0 ops fs stop (k + 1) rest (putL frl o.dst r) H1 K) (hs : (stop == some k) = false := by rfl) : ARH P W0 ops fs stop k (o :: rest) frl H K :=
  .step (yields_loud hw hl h) h2 hs

def AF (P : Program) (W0 : Base) (ops : Array Oper) (fs : Flags) (f : Nat) (listed : Array Bool) (fr : List (Nat × AV)) (H : Heap) (K : List (Nat × AV) → Heap → Prop) : Prop :=
  AAnyH P W0 .any ops fs (LK K) f listed (lk fr) H
def AF1 (P : Program) (W0 : Base) (ops : Array Oper) (fs : Flags) (f : Nat) (listed : Array Bool) (fr : List (Nat × AV)) (H : Heap) (K : List (Nat × AV) → Heap → Prop) (i : Nat) : Prop :=
  AStH P W0 ops fs i (AAnyH P W0 .any ops fs (LK K) f (listed.setIfInBounds i true)) (lk fr) H
def AFs (P : Program) (W0 : Base) (ops : Array Oper) (fs : Flags) (f : Nat) (listed : Array Bool) (fr : List (Nat × AV)) (H : Heap) (K : List (Nat × AV) → Heap → Prop) : List Nat → Prop
  | [] => True
  | i :: l => AF1 P W0 ops fs f listed fr H K i ∧ AFs P W0 ops fs f listed fr H K l
theorem AFs.spec {f : Nat} {listed : Array Bool} : ∀ {l : List Nat}, AFs P W0 ops fs f listed frl H K l → ∀ i ∈ l, AF1 P W0 ops fs f listed frl H K i
  | i :: l, h, j, hj => by
    rcases List.mem_cons.1 hj with rfl | hj
    · exact h.1
    · exact AFs.spec h.2 j hj
theorem ARH.fork {l : List Oper} (h : AF P W0 ops fs l.length (lst ops.size k) frl H K) : ARH P W0 ops fs stop k l frl H K := ARunH.fork h
theorem AF.done {listed : Array Bool} (hr : (Region.ready .any ops listed).isEmpty = true) (h : K frl H) : AF P W0 ops fs 0 listed frl H K := ⟨by simpa using hr, frl, fun _ _ h => h, h⟩
theorem AF.many {f : Nat} {listed : Array Bool} (i : Nat) (is : List Nat) (hr : Region.ready .any ops listed = i :: is) (h : AFs P W0 ops fs f listed frl H K (i :: is)) : AF P W0 ops fs (f + 1) listed frl H K :=
  ⟨by rw [hr]; simp, fun j hj => by rw [hr] at hj; exact AFs.spec h j hj⟩
theorem AF1.loud {f i : Nat} {listed : Array Bool} {r : AV} {H1 : Heap} (o : Oper) (ho : ops[i]? = some o) (hw : wantA ops (lk frl) o = some true) (hl : fs.loud i = true) (h : AOp P W0 o (lk frl) H r H1) (h2 : AF P W0 ops fs f (listed.setIfInBounds i true) (putL frl o.dst r) H1 K) : AF1 P W0 ops fs f listed frl H K i := by
  refine .of ho (yields_loud hw hl h) ?_
  unfold AF at h2
  rw [lk_putL] at h2
  exact h2

theorem AF.keep (ts : List Nat) {f : Nat} {listed : Array Bool} {frx : List (Nat × AV)} (h : pick frl ts = some frx) (h2 : AF P W0 ops fs f listed frx H K) : AF P W0 ops fs f listed frl H K := AAnyH.mono LK.mono _ _ _ _ _ (Keeps.lk (pick_keeps h)) h2
theorem AF.dry {f : Nat} {listed : Array Bool} {r : AV} (i : Nat) {o : Oper} (ho : ops[i]? = some o) (hc : ((Region.ready .any ops listed).contains i && Region.free .any ops listed i && (fs.calm i && (calmB .any ops fs listed i || calmT .any ops fs listed i))) = true) (hw : wantA ops (lk frl) o = some true) (h : ∀ H', AOp P W0 o (lk frl) H' r H')
    (h2 : AF P W0 ops fs f (listed.setIfInBounds i true) (putL frl o.dst r) H K) : AF P W0 ops fs (f + 1) listed frl H K := by
  simp only [Bool.and_eq_true, Bool.or_eq_true] at hc
  obtain ⟨⟨g1, g2⟩, _, g3⟩ := hc
  have hr : i ∈ Region.ready .any ops listed := by simpa using g1
  have hun := (mem_ready.1 hr).1
  unfold AF at h2
  rw [lk_putL] at h2
  have hy : YieldsH P W0 ops fs i o r H (lk frl) H := .inl ⟨hw, h H, fun _ => rfl, fun _ => h⟩
  rcases g3 with g3 | g3
  · exact AAnyH_first (direct .any ops i) (fun _ => false) (fun _ h => by cases h) (fun j oj hj h => by
      obtain ⟨e, h1, h2, h3⟩ := direct_is hj h
      exact ⟨e, h1, h2, .inl h3⟩) ho f listed (lk frl) _ _ (fun _ h => by cases h) (fun j oj hj hne hun hno => ⟨Region.free_spec ho g2 j oj hj hne hun (direct_no hj hno), calm_spec g3 j oj hj hne hun (direct_no hj hno)⟩) hr hy h2
  · obtain ⟨c1, c2⟩ := calmT_spec g3
    exact AAnyH_first (fun j => (behindL .any ops i ops.size).getD j false) (fun j => (behindL .any ops i ops.size).getD j false) (fun _ h => h) (fun j oj hj h => behind_is hj h) ho f listed (lk frl) _ _ (fun j h => (c1 j h).elim (fun e => by rw [e]; exact hun) id) (fun j oj hj hne hun hno => ⟨Region.free_spec ho g2 j oj hj hne hun (behind_direct hj hno), c2 j oj hj hne hun hno⟩) hr hy h2

theorem awp_anyF (fs : Flags) (stop : Option Nat) {id : Nat} {l : List Oper} (hm : P.follows .mixedOrders = true) (hB : drawB fs stop l.toArray = true) (hN : l.all (dstOk N) = true) (h : ARH P W0 l.toArray fs stop 0 l frl H (fun f g => Q .normal ⟨f, g⟩)) (hro : W0.ro = none := by rfl) : AWP P W0 N (.region id l.toArray true) ⟨frl, H⟩ Q := fun C a hr => by
  obtain ⟨hE, hR⟩ := rel_drew hr
  rw [hro, fw_none]
  refine wpIn_wide.2 (wp_region_any hm ?_)
  have hB' : lexH .any l.toArray fs stop l.length 0 (lst l.toArray.size 0) = true := by simpa [drawB, lst] using hB
  have key := AAnyH_lex (P := P) (W0 := W0) (ops := l.toArray) LK.mono h (fun j _ => by simp) hB'
  have := wpAny_of_AAnyH (P := P) (Q := Post W0 N C Q) (fun o ho => List.all_eq_true.1 hN o (by simpa using ho)) _ _ _ _ _ _ hR (fun f g C' a' he hrel hL => by
    obtain ⟨fr', hk, hq⟩ := hL
    exact ⟨⟨fr', g⟩, C', rfl, (hE.trans he).mem, ⟨hrel.heap, hrel.inv, hrel.size, hrel.defers, fun t x hx => hrel.rep t x (hk t x hx)⟩, hq⟩) key
  simpa [Ctx.inW, lst] using this
theorem awp_any (fs : Flags) {id : Nat} {l : List Oper} (hm : P.follows .mixedOrders = true) (hB : drawB fs none l.toArray = true) (hN : l.all (dstOk N) = true) (h : ARH P W0 l.toArray fs none 0 l frl H (fun f g => Q .normal ⟨f, g⟩)) (hro : W0.ro = none := by rfl) : AWP P W0 N (.region id l.toArray true) ⟨frl, H⟩ Q := awp_anyF fs none hm hB hN h hro

theorem awp_seqKW {x y : Code} {st : St} (h : ∀ K : St → Prop, (∀ s s', Weak W0 N s s' → K s' → K s) → (∀ s, AWP P W0 N y s Q → K s) → AWP P W0 N x st (Then K Q)) : AWP P W0 N (.seq x y) st Q :=
  awp_seq (h _ (fun _ _ hw h => AWP.weak hw h) fun _ h => h)
end
end Go.Av
end

section
/- Structs of numbers, held against each other. -/
namespace Go.Av
open Go

section
variable {P : Program} {W0 : Base} {fr : Fr} {H : Heap} {o : Oper}

end
end Go.Av
end

section
/- Sorting numbers, and leaving out what comes twice: by what is known of the library's functions. -/
namespace Go.Av
open Go.RowKit (Below)

structure SortFn (P : Program) (f : FuncId) : Prop where
  call : Callable P f
  no : ∀ (p : Option Addr) (cap : Nat) (w : World), Calls P f #[.slice p 0 cap] w fun e w' => e = .returned (.tuple #[]) ∧ w' = w
  is : ∀ (blk off cap : Nat) (zs : List Int) (w : World), Sort.Holds (Value.int .i64) w blk off zs.toArray → blk < w.heap.size → zs.length < 4611686018427387904 →
    Calls P f #[.slice (some ⟨blk, off, none⟩) zs.length cap] w fun e w' =>
      e = .returned (.tuple #[]) ∧ ∃ n os, w' = Sort.grow (Sort.putRow (Value.int .i64) (Sort.ahead w n) blk off (zs.mergeSort fun x y => decide (x ≤ y)).toArray) os

def Sh.put (x : Int) : List Int → List Int
  | [] => [x]
  | y :: l => if x ≤ y then x :: y :: l else y :: Sh.put x l
def Sh.isort : List Int → List Int
  | [] => []
  | x :: l => Sh.put x (Sh.isort l)
theorem Sh.put_perm (x : Int) : ∀ l : List Int, (Sh.put x l).Perm (x :: l)
  | [] => .refl _
  | y :: l => by
    unfold Sh.put
    split
    · exact .refl _
    · exact ((Sh.put_perm x l).cons y).trans (.swap x y l)
theorem Sh.isort_perm : ∀ l : List Int, (Sh.isort l).Perm l
  | [] => .refl _
  | x :: l => (Sh.put_perm x _).trans ((Sh.isort_perm l).cons x)
theorem Sh.put_sorted (x : Int) : ∀ l : List Int, l.Pairwise (· ≤ ·) → (Sh.put x l).Pairwise (· ≤ ·)
  | [], _ => by simp [Sh.put]
  | y :: l, h => by
    unfold Sh.put
    rw [List.pairwise_cons] at h
    split
    · rename_i hxy
      rw [List.pairwise_cons, List.pairwise_cons]
      refine ⟨fun z hz => ?_, h⟩
      rcases List.mem_cons.1 hz with rfl | hz
      · exact hxy
      · exact Int.le_trans hxy (h.1 z hz)
    · rename_i hxy
      rw [List.pairwise_cons]
      refine ⟨fun z hz => ?_, Sh.put_sorted x l h.2⟩
      rcases List.mem_cons.1 ((Sh.put_perm x l).mem_iff.1 hz) with rfl | hz
      · omega
      · exact h.1 z hz
theorem Sh.isort_sorted : ∀ l : List Int, (Sh.isort l).Pairwise (· ≤ ·)
  | [] => .nil
  | x :: l => Sh.put_sorted x _ (Sh.isort_sorted l)
theorem Sh.sorted_one : ∀ {a b : List Int}, a.Perm b → a.Pairwise (· ≤ ·) → b.Pairwise (· ≤ ·) → a = b
  | [], b, h, _, _ => (List.nil_perm.1 h).symm
  | x :: a, [], h, _, _ => absurd h.symm (by simp)
  | x :: a, y :: b, h, ha, hb => by
    have ha' := List.pairwise_cons.1 ha
    have hb' := List.pairwise_cons.1 hb
    have hxy : x = y := by
      have h1 : y ≤ x := by
        rcases List.mem_cons.1 (h.mem_iff.1 (List.mem_cons_self ..)) with e | e
        · omega
        · exact hb'.1 x e
      have h2 : x ≤ y := by
        rcases List.mem_cons.1 (h.mem_iff.2 (List.mem_cons_self ..)) with e | e
        · omega
        · exact ha'.1 y e
      omega
    subst hxy
    rw [Sh.sorted_one (List.perm_cons x |>.1 h) ha'.2 hb'.2]
theorem Sh.isort_eq (l : List Int) : Sh.isort l = l.mergeSort fun x y => decide (x ≤ y) := by
  have h := List.pairwise_mergeSort (le := fun x y : Int => decide (x ≤ y)) (fun a b c h1 h2 => by simp at h1 h2 ⊢; omega) (fun a b => by simp; omega) l
  exact Sh.sorted_one ((Sh.isort_perm l).trans (List.mergeSort_perm l _).symm) (Sh.isort_sorted l) (h.imp fun {a b} hab => by simpa using hab)
def Sh.sort (l : List Int) : Option (List Int) := if l.length < 4611686018427387904 then some (Sh.isort l) else none
theorem Sh.sort_some {l L : List Int} (h : Sh.sort l = some L) : l.length < 4611686018427387904 ∧ L = l.mergeSort fun x y => decide (x ≤ y) := by
  unfold Sh.sort at h
  split at h
  · cases h; exact ⟨by assumption, Sh.isort_eq l⟩
  · cases h
theorem Sh.sort_len {l L : List Int} (h : Sh.sort l = some L) : L.length = l.length := by rw [(Sh.sort_some h).2]; simp
section
variable {P : Program} {W0 : Base} {C : Ctx} {fr : Fr} {a : Act} {H : Heap} {o : Oper} {N : Nat}

theorem set_none (hI : Inv W0 C) {id : Nat} (hid : C.H.get id = some []) : Ext C { C with H := C.H.set id [] } ∧ Inv W0 { C with H := C.H.set id [] } := by
  have hg : ∀ k e, (C.H.set id []).get k = some e → C.H.get k = some e := fun k e h => by
    rw [Heap.get_set] at h
    split at h
    · rename_i hk; subst hk; cases h; exact hid
    · exact h
  have ho' : ∀ b, Ctx.own { C with H := C.H.set id [] } b → C.own b := by
    rintro b (⟨k, e, h1, h2, h3⟩ | h)
    · exact .inl ⟨k, e, hg k e h1, h2, h3⟩
    · exact .inr h
  have hE : Ext C { C with H := C.H.set id [] } := ⟨.refl _ _, fun _ _ _ => rfl, fun b _ h => ho' b h, Nat.le_refl _, fun k e _ h => ⟨⟨e, hg k e h⟩, rfl⟩, rfl, rfl, rfl⟩
  exact ⟨hE, {
    fresh := fun k e h => hI.fresh k e (hg k e h)
    nil := fun k e h => hI.nil k e (hg k e h)
    obj := fun k e h hn => (hI.obj k e (hg k e h) hn).ext hE rfl
    sep := fun p q ep eq hp hq => hI.sep p q ep eq (hg _ _ hp) (hg _ _ hq)
    prot := fun k e h => hI.prot k e (hg k e h)
    szok := fun k s' h => hI.szok k s' (by rw [← Heap.sz_set C.H id [] [] hid k]; exact h)
    protlt := hI.protlt
    protge := hI.protge
    size := hI.size
    glob := fun b h => ⟨(hI.glob b h).1, fun hh => (hI.glob b h).2 (ho' b hh)⟩
    lps := hI.lps
    dfs := hI.dfs
    dnd := hI.dnd
    rod := hI.rod
    spprot := hI.spprot
    pinB := hI.pinB
    pinlt := hI.pinlt
    gh := W0.st C _ hE.mem hI.pinlt hI.gh }⟩

theorem ints_hold (hI : Inv W0 C) {id : Nat} {l : List Int} (hid : C.H.get id = some (l.map i64)) (hn : (C.pl id).nil = false) (hs : (C.pl id).sz = 1) :
    Sort.Holds (Value.int .i64) C.w (C.pl id).blk 0 l.toArray := by
  intro j hj
  have hj' : j < l.length := by simpa using hj
  obtain ⟨arr, el, harr, _⟩ := (hI.obj id _ hid hn).blk
  obtain ⟨v, h1, h2⟩ := holds_obj hI hid hn (i := j) (j := 0) (e := i64 l[j]) (x := i64 l[j]) (by simp [hj']) rfl
  refine ⟨?_, by simp [World.frozen?, harr]⟩
  have hv : v = .int .i64 l[j] := rep_toV rfl h2
  rw [hs] at h1
  have h3 := h1.1
  rw [Nat.mul_one, Nat.add_zero] at h3
  rw [Nat.zero_add, h3, hv]
  simp [hj']

theorem put_ints (hI : Inv W0 C) {id : Nat} {l L : List Int} (hid : C.H.get id = some (l.map i64)) (hn : (C.pl id).nil = false) (hs : (C.pl id).sz = 1) (hl : L.length = l.length) (n : Nat) (os : Array Obj) :
    ∃ C', C'.w = Sort.grow (Sort.putRow (Value.int .i64) (Sort.ahead C.w n) (C.pl id).blk 0 L.toArray) os ∧ Ext C C' ∧ Inv W0 C' ∧ C'.H = C.H.set id (L.map i64) ∧ C'.pl = C.pl := by
  have hO := hI.obj id _ hid hn
  obtain ⟨arr, el, harr, hcap⟩ := hO.blk
  have hlen : l.length ≤ arr.size := by
    have h1 := hO.n; have h2 := hO.cap
    rw [hs] at hcap; simp at h1; omega
  have hone : ∀ v ∈ arr, v.oneCell' = true := fun v hv => by
    obtain ⟨k, hk⟩ := Array.getElem?_of_mem hv
    exact hO.one k v (by rw [cell_cells harr]; exact hk)
  obtain ⟨hE, hI'⟩ := write_object hI hid hn harr (Sort.putCells (Value.int .i64) 0 L.toArray arr) (by simp [Sort.putCells]) (L.map i64) (by simp [hl]) (fun v hv => by
    obtain ⟨k, hk⟩ := Array.getElem?_of_mem hv
    simp only [Sort.putCells, Array.getElem?_mapIdx, Option.map_eq_some_iff] at hk
    obtain ⟨u, hu, rfl⟩ := hk
    split
    · rfl
    · exact hone u (Array.mem_of_getElem? hu)) (fun i e h => by
      simp only [List.getElem?_map, Option.map_eq_some_iff] at h
      obtain ⟨z, _, rfl⟩ := h
      rw [hs]; rfl) (fun i j e x v h1 h2 h3 => by
      simp only [List.getElem?_map, Option.map_eq_some_iff] at h1
      obtain ⟨z, hz, rfl⟩ := h1
      have hj : j = 0 ∧ x = i64 z := by
        cases j with
        | zero => simp [AV.flat] at h2; exact ⟨rfl, h2.symm⟩
        | succ j => simp [AV.flat] at h2
      obtain ⟨rfl, rfl⟩ := hj
      rw [hs, Nat.mul_one, Nat.add_zero] at h3
      simp only [Sort.putCells, Array.getElem?_mapIdx, Option.map_eq_some_iff] at h3
      obtain ⟨u, hu, rfl⟩ := h3
      have hi : i < L.length := (List.getElem?_eq_some_iff.1 hz).1
      have e2 : L.toArray[i - 0]! = z := by
        have : L[i] = z := by have := List.getElem?_eq_getElem hi; rw [hz] at this; exact (Option.some.inj this).symm
        simp [hi, this]
      rw [if_pos ⟨Nat.zero_le _, by simpa using hi⟩, e2]
      exact .imm _ rfl)
  have hw : C.w.setRow (C.pl id).blk (Sort.putCells (Value.int .i64) 0 L.toArray arr) = Sort.putRow (Value.int .i64) C.w (C.pl id).blk 0 L.toArray := by
    unfold Sort.putRow Sort.mapBlock World.setRow
    congr 1
    apply Array.ext_getElem?
    intro k
    simp only [Array.getElem?_modify]
    split
    · rename_i hk; subst hk; rw [harr]; rfl
    · rfl
  rw [hw] at hE hI'
  have hB : Below (Sort.putRow (Value.int .i64) C.w (C.pl id).blk 0 L.toArray).heap.size (Sort.putRow (Value.int .i64) C.w (C.pl id).blk 0 L.toArray) (Sort.grow (Sort.putRow (Value.int .i64) (Sort.ahead C.w n) (C.pl id).blk 0 L.toArray) os) :=
    ⟨rfl, rfl, rfl, by rw [Sort.size_grow]; exact Nat.le_add_right _ _, fun k hk => Sort.heap_grow_old (Sort.putRow (Value.int .i64) (Sort.ahead C.w n) (C.pl id).blk 0 L.toArray) os hk⟩
  refine ⟨(C.write id (Sort.putRow (Value.int .i64) C.w (C.pl id).blk 0 L.toArray) (L.map i64)).inW (Sort.grow (Sort.putRow (Value.int .i64) (Sort.ahead C.w n) (C.pl id).blk 0 L.toArray) os), rfl, hE.trans (ext_of_block hB), hI'.inW hB, rfl, rfl⟩

theorem eval_view {id n : Nat} {x : Operand} {es : List AV} (hI : Inv W0 C) (hx : evalA fr x = some (.view id 0 n)) (hop : RepO C fr a x) (hid : C.H.get id = some es) (hn : n = es.length) (hs : C.H.sz id = some 1) :
    (es = [] ∧ ∃ p cap, a.eval x = .slice p 0 cap) ∨ ((C.pl id).nil = false ∧ (C.pl id).sz = 1 ∧ ∃ cap, es.length ≤ cap ∧ cap ≤ (C.pl id).cap ∧ a.eval x = .slice (some ⟨(C.pl id).blk, 0, none⟩) es.length cap) := by
  have hr := rep_eval hop hx
  subst hn
  generalize hux : a.eval x = ux at hr
  match hr with
  | .view _ _ _ _ h1 h2 h3 =>
  have h6 := h2 es hid
  unfold SliceAt at h6
  split at h6
  · rename_i hnil
    obtain ⟨_, hl, ad, rfl⟩ := h6
    have : es = [] := List.eq_nil_of_length_eq_zero hl
    subst this
    exact .inl ⟨rfl, _, _, rfl⟩
  · rename_i hnil
    have hnil' : (C.pl id).nil = false := by simpa using hnil
    obtain ⟨A, cap, rfl, g1, g2, g3, g4⟩ := h6
    have hsz := hI.szok id 1 hs hnil'
    rcases g4 with g4 | rfl
    · subst g4
      have : es = [] := List.eq_nil_of_length_eq_zero (by omega)
      subst this
      exact .inl ⟨rfl, _, _, rfl⟩
    · refine .inr ⟨hnil', hsz, cap, g3, by omega, ?_⟩
      simp

theorem aop_sort {f : FuncId} {tys : Array TypeId} {xo : Operand} {id n : Nat} (hf : SortFn P f) (l L : List Int) (hL : Sh.sort l = some L) (hn : n = (l.map i64).length) (ho : o.op = .call { callee := .value (.func f), args := #[xo], argTypes := tys }) (hx : evalA fr xo = some (.view id 0 n)) (hid : H.get id = some (l.map i64)) (hs : H.sz id = some 1) :
    AOp P W0 o fr H (.tuple []) (H.set id (L.map i64)) := by
  intro C a hI hH hop K Q hK
  subst hH
  obtain ⟨hlt, rfl⟩ := Sh.sort_some hL
  unfold Oper.wp
  rw [resolve_func ho hf.call, Oper.upon_enter]
  have hea : (#[xo].map a.eval) = #[a.eval xo] := by simp
  rw [hea]
  rcases eval_view hI hx (hop xo (by simp [ho, Op.operands, Call.operands])) hid hn hs with ⟨h0, p, cap, he⟩ | ⟨h1, h2, cap, _, _, he⟩
  · have hl0 : l = [] := List.map_eq_nil_iff.1 h0
    subst hl0
    rw [he]
    refine (hf.no p cap C.w).mono ?_
    rintro e w' ⟨rfl, rfl⟩
    have hset := set_none hI hid
    exact hK _ { C with H := C.H.set id [] } hset.1 hset.2 (by simp) (.tuple [] #[] rfl (fun k x h => by simp at h))
  · rw [he]
    have hh := ints_hold hI hid h1 h2
    have hc := hf.is (C.pl id).blk 0 cap l C.w hh (hI.lt hid h1) hlt
    rw [List.length_map]
    refine hc.mono ?_
    rintro e w' ⟨rfl, n, os, rfl⟩
    obtain ⟨C', q1, q2, q3, q4, _⟩ := put_ints hI hid h1 h2 (L := l.mergeSort fun x y => decide (x ≤ y)) (by simp) n os
    rw [← q1]
    exact hK _ C' q2 q3 q4 (.tuple [] #[] rfl (fun k x h => by simp at h))

end
end Go.Av
end

section
/- Rows of numbers are sorted by their first ones, where they lie: by what is known of the library's function. -/
namespace Go.Av
open Go.RowKit (Below)

structure SortFirstFn (P : Program) (f g : FuncId) : Prop where
  call : Callable P f
  no : ∀ (p : Option Addr) (cap : Nat) (w : World), Calls P f #[.slice p 0 cap, .func (.func g) #[] #[]] w fun e w' => e = .returned (.tuple #[]) ∧ w' = w
  is : ∀ (blk off cap m : Nat) (v : Fin (m + 1) → Value) (k : Fin (m + 1) → Int) (w : World), (∀ i, (v i).oneCell' = true) → (∀ i j, k i = k j → i = j) →
    (∀ i, ∃ b o l c, v i = .slice (some ⟨b, o, none⟩) l c ∧ 0 < l ∧ b ≠ blk ∧ b < w.heap.size ∧ w.cell? ⟨b, o, none⟩ = some (.int .i64 (k i))) →
    Sort.Holds v w blk off (List.finRange (m + 1)).toArray → blk < w.heap.size → m + 1 < 4611686018427387904 →
    Calls P f #[.slice (some ⟨blk, off, none⟩) (m + 1) cap, .func (.func g) #[] #[]] w fun e w' =>
      e = .returned (.tuple #[]) ∧ ∃ n os, ∃ d : List (Fin (m + 1)), d.Perm (List.finRange (m + 1)) ∧ d.Pairwise (fun a b => k a ≤ k b) ∧ w' = Sort.grow (Sort.putRow v (Sort.ahead w n) blk off d.toArray) os

@[simp] theorem all_bools (p q : Prop) (R : AV → Prop) : (∀ e : AV, p ∧ bl false = e ∨ q ∧ bl true = e → R e) ↔ (p → R (bl false)) ∧ (q → R (bl true)) := ⟨fun h => ⟨fun hp => h _ (.inl ⟨hp, rfl⟩), fun hq => h _ (.inr ⟨hq, rfl⟩)⟩, fun ⟨h1, h2⟩ e h => by rcases h with ⟨hp, rfl⟩ | ⟨hq, rfl⟩; exact h1 hp; exact h2 hq⟩
def Sh.first (l : List Int) : Int := l.headD 0
def Sh.putF (x : List Int) : List (List Int) → List (List Int)
  | [] => [x]
  | y :: l => if Sh.first x ≤ Sh.first y then x :: y :: l else y :: Sh.putF x l
def Sh.fsort : List (List Int) → List (List Int)
  | [] => []
  | x :: l => Sh.putF x (Sh.fsort l)
def Sh.sortFirst (l : List (List Int)) : Option (List (List Int)) := if l.length < 4611686018427387904 ∧ (∀ r ∈ l, r ≠ []) ∧ (l.map Sh.first).Nodup then some (Sh.fsort l) else none
theorem Sh.putF_perm (x : List Int) : ∀ l : List (List Int), (Sh.putF x l).Perm (x :: l)
  | [] => .refl _
  | y :: l => by
    unfold Sh.putF
    split
    · exact .refl _
    · exact ((Sh.putF_perm x l).cons y).trans (.swap x y l)
theorem Sh.fsort_perm : ∀ l : List (List Int), (Sh.fsort l).Perm l
  | [] => .refl _
  | x :: l => (Sh.putF_perm x _).trans ((Sh.fsort_perm l).cons x)
theorem Sh.putF_sorted (x : List Int) : ∀ l : List (List Int), l.Pairwise (fun a b => Sh.first a ≤ Sh.first b) → (Sh.putF x l).Pairwise (fun a b => Sh.first a ≤ Sh.first b)
  | [], _ => by simp [Sh.putF]
  | y :: l, h => by
    unfold Sh.putF
    rw [List.pairwise_cons] at h
    split
    · rename_i hxy
      rw [List.pairwise_cons, List.pairwise_cons]
      refine ⟨fun z hz => ?_, h⟩
      rcases List.mem_cons.1 hz with rfl | hz
      · exact hxy
      · exact Int.le_trans hxy (h.1 z hz)
    · rename_i hxy
      rw [List.pairwise_cons]
      refine ⟨fun z hz => ?_, Sh.putF_sorted x l h.2⟩
      rcases List.mem_cons.1 ((Sh.putF_perm x l).mem_iff.1 hz) with rfl | hz
      · omega
      · exact h.1 z hz
theorem Sh.fsort_sorted : ∀ l : List (List Int), (Sh.fsort l).Pairwise (fun a b => Sh.first a ≤ Sh.first b)
  | [] => .nil
  | x :: l => Sh.putF_sorted x _ (Sh.fsort_sorted l)
theorem Sh.fsort_one : ∀ {a b : List (List Int)}, a.Perm b → (a.map Sh.first).Nodup → a.Pairwise (fun x y => Sh.first x ≤ Sh.first y) → b.Pairwise (fun x y => Sh.first x ≤ Sh.first y) → a = b
  | [], b, h, _, _, _ => (List.nil_perm.1 h).symm
  | x :: a, [], h, _, _, _ => absurd h.symm (by simp)
  | x :: a, y :: b, h, hn, ha, hb => by
    have ha' := List.pairwise_cons.1 ha
    have hb' := List.pairwise_cons.1 hb
    simp only [List.map_cons, List.nodup_cons] at hn
    have hxy : x = y := by
      rcases List.mem_cons.1 (h.mem_iff.1 (List.mem_cons_self ..)) with e | e
      · exact e
      · have h1 := hb'.1 x e
        rcases List.mem_cons.1 (h.mem_iff.2 (List.mem_cons_self (a := y) (l := b))) with e2 | e2
        · exact e2.symm
        · have h2 := ha'.1 y e2
          have : Sh.first x = Sh.first y := by omega
          exact absurd (List.mem_map.2 ⟨y, e2, this.symm⟩) hn.1
    subst hxy
    rw [Sh.fsort_one (List.perm_cons x |>.1 h) hn.2 ha'.2 hb'.2]
theorem Sh.sortFirst_some {l L : List (List Int)} (h : Sh.sortFirst l = some L) : (l.length < 4611686018427387904 ∧ (∀ r ∈ l, r ≠ []) ∧ (l.map Sh.first).Nodup) ∧ L = Sh.fsort l := by
  unfold Sh.sortFirst at h
  split at h
  · cases h; exact ⟨by assumption, rfl⟩
  · cases h
theorem Sh.sortFirst_len {l L : List (List Int)} (h : Sh.sortFirst l = some L) : L.length = l.length := by rw [(Sh.sortFirst_some h).2]; exact (Sh.fsort_perm l).length_eq

section
variable {P : Program} {W0 : Base} {C : Ctx} {fr : Fr} {a : Act} {H : Heap} {o : Oper} {N : Nat}

theorem put_vals (hI : Inv W0 C) {id m : Nat} {es es' : List AV} (hid : C.H.get id = some es) (hn : (C.pl id).nil = false) (hs : (C.pl id).sz = 1) (v : Fin (m + 1) → Value) (d : List (Fin (m + 1))) (hd : d.length = es.length) (hl : es'.length = es.length)
    (h1 : ∀ i, (v i).oneCell' = true) (hf : ∀ e ∈ es', e.flat = [e]) (hv : ∀ (i : Nat) (j : Fin (m + 1)) (e : AV), d[i]? = some j → es'[i]? = some e → Rep C e (v j)) (n : Nat) (os : Array Obj) :
    ∃ C', C'.w = Sort.grow (Sort.putRow v (Sort.ahead C.w n) (C.pl id).blk 0 d.toArray) os ∧ Ext C C' ∧ Inv W0 C' ∧ C'.H = C.H.set id es' ∧ C'.pl = C.pl := by
  have hO := hI.obj id _ hid hn
  obtain ⟨arr, el, harr, hcap⟩ := hO.blk
  have hlen : es.length ≤ arr.size := by
    have h1 := hO.n; have h2 := hO.cap
    rw [hs] at hcap; omega
  have hone : ∀ u ∈ arr, u.oneCell' = true := fun u hu => by
    obtain ⟨k, hk⟩ := Array.getElem?_of_mem hu
    exact hO.one k u (by rw [cell_cells harr]; exact hk)
  obtain ⟨hE, hI'⟩ := write_object hI hid hn harr (Sort.putCells v 0 d.toArray arr) (by simp [Sort.putCells]) es' hl (fun u hu => by
    obtain ⟨k, hk⟩ := Array.getElem?_of_mem hu
    simp only [Sort.putCells, Array.getElem?_mapIdx, Option.map_eq_some_iff] at hk
    obtain ⟨x, hx, rfl⟩ := hk
    split
    · exact h1 _
    · exact hone x (Array.mem_of_getElem? hx)) (fun i e h => by
      rw [hs, hf e (List.mem_of_getElem? h)]; rfl) (fun i j e x u g1 g2 g3 => by
      rw [hf e (List.mem_of_getElem? g1)] at g2
      have hj : j = 0 ∧ x = e := by
        cases j with
        | zero => simp at g2; exact ⟨rfl, g2.symm⟩
        | succ j => simp at g2
      obtain ⟨rfl, rfl⟩ := hj
      rw [hs, Nat.mul_one] at g3
      replace g3 : (Sort.putCells v 0 d.toArray arr)[i]? = some u := g3
      simp only [Sort.putCells, Array.getElem?_mapIdx, Option.map_eq_some_iff] at g3
      obtain ⟨y, hy, rfl⟩ := g3
      have hi : i < d.length := by rw [hd, ← hl]; exact (List.getElem?_eq_some_iff.1 g1).1
      have e2 : d.toArray[i - 0]! = d[i] := by simp [hi]
      rw [if_pos ⟨Nat.zero_le _, by simpa using hi⟩, e2]
      exact hv i d[i] x (List.getElem?_eq_getElem hi) g1)
  have hw : C.w.setRow (C.pl id).blk (Sort.putCells v 0 d.toArray arr) = Sort.putRow v C.w (C.pl id).blk 0 d.toArray := by
    unfold Sort.putRow Sort.mapBlock World.setRow
    congr 1
    apply Array.ext_getElem?
    intro k
    simp only [Array.getElem?_modify]
    split
    · rename_i hk; subst hk; rw [harr]; rfl
    · rfl
  rw [hw] at hE hI'
  have hB : Below (Sort.putRow v C.w (C.pl id).blk 0 d.toArray).heap.size (Sort.putRow v C.w (C.pl id).blk 0 d.toArray) (Sort.grow (Sort.putRow v (Sort.ahead C.w n) (C.pl id).blk 0 d.toArray) os) :=
    ⟨rfl, rfl, rfl, by rw [Sort.size_grow]; exact Nat.le_add_right _ _, fun k hk => Sort.heap_grow_old (Sort.putRow v (Sort.ahead C.w n) (C.pl id).blk 0 d.toArray) os hk⟩
  refine ⟨(C.write id (Sort.putRow v C.w (C.pl id).blk 0 d.toArray) es').inW (Sort.grow (Sort.putRow v (Sort.ahead C.w n) (C.pl id).blk 0 d.toArray) os), rfl, hE.trans (ext_of_block hB), hI'.inW hB, rfl, rfl⟩

theorem aop_sortFirst {f g : FuncId} {tys : Array TypeId} {xo yo : Operand} {id n : Nat} (hf : SortFirstFn P f g) (l L : List (List Int)) (hL : Sh.sortFirst l = some L) (hn : n = (l.map (slA i64)).length)
    (ho : o.op = .call { callee := .value (.func f), args := #[xo, yo], argTypes := tys }) (hx : evalA fr xo = some (.view id 0 n)) (hy : evalA fr yo = some (.clo (.func g) [])) (hid : H.get id = some (l.map (slA i64))) (hs : H.sz id = some 1) :
    AOp P W0 o fr H (.tuple []) (H.set id (L.map (slA i64))) := by
  intro C a hI hH hop K Q hK
  subst hH
  obtain ⟨⟨hlt, hne, hnd⟩, rfl⟩ := Sh.sortFirst_some hL
  unfold Oper.wp
  rw [resolve_func ho hf.call, Oper.upon_enter]
  have hea : (#[xo, yo].map a.eval) = #[a.eval xo, a.eval yo] := by simp
  have hfy : a.eval yo = .func (.func g) #[] #[] := by
    have h := rep_eval (hop yo (by simp [ho, Op.operands, Call.operands])) hy
    generalize a.eval yo = u at h
    match h with
    | .clo _ _ vs h1 _ =>
      have : vs = #[] := Array.eq_empty_of_size_eq_zero (by simpa using h1)
      rw [this]
  rw [hea, hfy]
  rcases eval_view hI hx (hop xo (by simp [ho, Op.operands, Call.operands])) hid hn hs with ⟨h0, p, cap, he⟩ | ⟨h1, h2, cap, _, _, he⟩
  · have hl0 : l = [] := List.map_eq_nil_iff.1 h0
    subst hl0
    rw [he]
    refine (hf.no p cap C.w).mono ?_
    rintro e w' ⟨rfl, rfl⟩
    have hset := set_none hI hid
    exact hK _ { C with H := C.H.set id [] } hset.1 hset.2 (by simp [Sh.fsort]) (.tuple [] #[] rfl (fun k x h => by simp at h))
  · by_cases hl0 : l = []
    · subst hl0
      rw [he]
      refine (hf.no _ cap C.w).mono ?_
      rintro e w' ⟨rfl, rfl⟩
      have hset := set_none hI hid
      exact hK _ { C with H := C.H.set id [] } hset.1 hset.2 (by simp [Sh.fsort]) (.tuple [] #[] rfl (fun k x h => by simp at h))
    obtain ⟨m, hm⟩ : ∃ m, l.length = m + 1 := ⟨l.length - 1, by have := List.length_pos_iff.2 hl0; omega⟩
    -- the rows' cells
    have hrow : ∀ i : Fin (m + 1), ∃ u : Value, Holds C.w (C.pl id).blk i.1 u ∧ Rep C (slA i64 (l[i.1]'(by omega))) u := fun i => by
      have hi : i.1 < l.length := by omega
      obtain ⟨u, g1, g2⟩ := holds_obj hI hid h1 (i := i.1) (j := 0) (e := slA i64 l[i.1]) (x := slA i64 l[i.1]) (by simp [hi]) rfl
      rw [h2, Nat.mul_one, Nat.add_zero] at g1
      exact ⟨u, g1, g2⟩
    let v : Fin (m + 1) → Value := fun i => Classical.choose (hrow i)
    have hv1 : ∀ i, Holds C.w (C.pl id).blk i.1 (v i) := fun i => (Classical.choose_spec (hrow i)).1
    have hv2 : ∀ i : Fin (m + 1), Rep C (slA i64 (l[i.1]'(by omega))) (v i) := fun i => (Classical.choose_spec (hrow i)).2
    let k : Fin (m + 1) → Int := fun i => Sh.first (l[i.1]'(by omega))
    have hk : ∀ i j, k i = k j → i = j := fun i j h => by
      have hp := List.pairwise_iff_getElem.1 hnd
      rcases Nat.lt_trichotomy i.1 j.1 with h3 | h3 | h3
      · exact (hp i.1 j.1 (by simp; omega) (by simp; omega) h3 (by simp only [List.getElem_map]; exact h)).elim
      · exact Fin.ext h3
      · exact (hp j.1 i.1 (by simp; omega) (by simp; omega) h3 (by simp only [List.getElem_map]; exact h.symm)).elim
    obtain ⟨arr, el, harr, _⟩ := (hI.obj id _ hid h1).blk
    have hc := hf.is (C.pl id).blk 0 cap m v k C.w (fun i => (hv1 i).2) hk (fun i => by
      have hr := hv2 i
      have hi : i.1 < l.length := by omega
      have hnel : l[i.1] ≠ [] := hne _ (List.getElem_mem hi)
      cases hq : l[i.1] with
      | nil => exact absurd hq hnel
      | cons x r =>
        have hki : k i = x := by show Sh.first l[i.1] = x; rw [hq]; rfl
        rw [hq] at hr
        rw [hki]
        generalize v i = u at hr
        match hr with
        | .sl _ b off sz c cc hb hbad hcc hfl hcell hrep =>
          refine ⟨b, off, _, c, rfl, by simp, fun e => hbad (.inl (.inl ⟨id, _, hid, h1, e.symm⟩)), hb, ?_⟩
          have h3 := hcell 0 0 (i64 x) (i64 x) rfl rfl
          have h4 := hrep 0 0 (i64 x) (i64 x) rfl rfl
          rw [Nat.zero_mul] at h3
          replace h3 : Holds C.w b off (cc 0 0) := h3
          rw [h3.1, rep_toV (v := .int .i64 x) rfl h4]) (fun j hj => by
      have hj' : j < m + 1 := by simpa using hj
      refine ⟨?_, by simp [World.frozen?, harr]⟩
      have := (hv1 ⟨j, hj'⟩).1
      rw [Nat.zero_add, this]
      simp [hj']) (hI.lt hid h1) (by omega)
    rw [he, List.length_map, hm]
    refine hc.mono ?_
    rintro e w' ⟨rfl, n', os, d, hp, hsd, rfl⟩
    have hdl : d.length = m + 1 := by rw [hp.length_eq]; simp
    have hL2 : d.map (fun i => l[i.1]'(by omega)) = Sh.fsort l := by
      refine Sh.fsort_one ?_ ?_ ?_ (Sh.fsort_sorted l)
      · refine (hp.map _).trans (List.Perm.trans (.of_eq ?_) (Sh.fsort_perm l).symm)
        apply List.ext_getElem
        · simp [hm]
        · intro i h3 h4; simp
      · rw [List.map_map]
        have : (List.map (Sh.first ∘ fun i : Fin (m + 1) => l[i.1]'(by omega)) d) = d.map k := rfl
        rw [this]
        refine List.Pairwise.map _ (fun a b h => ?_) (hp.nodup_iff.2 (List.nodup_finRange _))
        exact fun e => h (hk _ _ e)
      · exact List.pairwise_map.2 hsd
    obtain ⟨C', q1, q2, q3, q4, _⟩ := put_vals hI hid h1 h2 v d (es' := (Sh.fsort l).map (slA i64)) (by rw [hdl, List.length_map, hm]) (by simp [(Sh.fsort_perm l).length_eq]) (fun i => (hv1 i).2) (fun e he => by
      obtain ⟨r, _, rfl⟩ := List.mem_map.1 he; rfl) (fun i j e g1 g2 => by
      rw [← hL2, List.map_map, List.getElem?_map, g1] at g2
      simp only [Option.map_some, Option.some.injEq] at g2
      rw [← g2]; exact hv2 j) n' os
    rw [← q1]
    exact hK _ C' q2 q3 q4 (.tuple [] #[] rfl (fun k x h => by simp at h))
end
end Go.Av
end

section
/- Arrays of things of one cell: as values of one element of the proof's own; literals of the proof's own. -/
namespace Go.Av
open Go.RowKit (Below)
section
variable {P : Program} {W0 : Base} {C : Ctx} {fr : Fr} {a : Act} {H : Heap} {o : Oper}

theorem aop_buildSliceV {t e : TypeId} {s by' len : Nat} {parts : Array (Nat × Operand)} {xo : List Operand} {xs : List AV} (ho : o.op = .buildSlice t len parts) (hp : parts.toList = xo.zipIdx.map fun p => (p.2, p.1)) (hlen : len = xo.length)
    (hxs : xo.mapM (evalA fr) = some xs) (hsol : ∀ x ∈ xs, x.solid = true) (hfl : ∀ x ∈ xs, x.flat.length = s) (ht : elT P t = some (e, s, by')) (hz : (zrT P e).isSome = true) (hsmall : len * s ≤ 16777216) :
    AOp P W0 o fr H (.view H.next 0 xs.length) (H.push s xs) :=
  .of_run fun C a hI hH hop => by
    obtain ⟨hu, i, hi, hs, _⟩ := elT_spec ht
    unfold zrT at hz
    rw [hi] at hz
    obtain ⟨z, hz⟩ := Option.isSome_iff_exists.1 hz
    simp only [Option.bind_some] at hz
    obtain ⟨m1, m2⟩ := mapM_eval xo xs hxs
    have hops : o.op.operands = (parts.toList.map (·.2)).toArray := by simp [ho, Op.operands]
    have hrep : ∀ (k : Nat) (x : AV), xs[k]? = some x → ∃ y, xo[k]? = some y ∧ Rep C x (a.eval y) := fun k x hk => by
      obtain ⟨y, g1, g2⟩ := m2 k x hk
      refine ⟨y, g1, rep_eval (hop y ?_) g2⟩
      rw [hops, hp]
      simp only [List.mem_toArray, List.map_map, List.mem_map]
      exact ⟨(y, k), by rw [List.mem_zipIdx_iff_getElem?]; exact g1, rfl⟩
    let vs := xo.map a.eval
    have hv1 : ∀ v ∈ vs, v.cells.size = s := fun v hv => by
      obtain ⟨k, hk⟩ := List.getElem?_of_mem hv
      simp only [vs, List.getElem?_map, Option.map_eq_some_iff] at hk
      obtain ⟨y, g1, rfl⟩ := hk
      have hlt : k < xs.length := by rw [m1]; exact (List.getElem?_eq_some_iff.1 g1).1
      obtain ⟨y', g2, g3⟩ := hrep k _ (List.getElem?_eq_getElem hlt)
      rw [g1] at g2; cases g2
      rw [(rep_cells g3 (hsol _ (List.getElem_mem hlt))).1]
      exact hfl _ (List.getElem_mem hlt)
    have hsz0 : ∀ n, ((Array.range (len * s)).map (fun q => (n : Array Value)[q % n.size]!)).size = len * s := fun n => by simp
    obtain ⟨cells', f1, f2, f3, f4⟩ := fill_seq s vs 0 ((Array.range (len * s)).map (fun q => ((if len * s = 0 then #[] else z.cells : Array Value))[q % (if len * s = 0 then #[] else z.cells : Array Value).size]!)) hv1
      (by rw [hsz0, hlen]; simp [vs])
    have hcells : cells'.size = len * s := by rw [f2, hsz0]
    have hget : ∀ (k j : Nat) (x y : AV), xs[k]? = some x → x.flat[j]? = some y → ∃ v, cells'[k * s + j]? = some v ∧ Rep C y v := fun k j x y hk hj => by
      obtain ⟨yo, g1, g2⟩ := hrep k x hk
      have hm := List.mem_of_getElem? hk
      obtain ⟨c1, c2, c3⟩ := rep_cells g2 (hsol x hm)
      obtain ⟨u, g3, g4⟩ := c3 j y hj
      have hjs : j < s := by rw [← hfl x hm]; exact (List.getElem?_eq_some_iff.1 hj).1
      have := f4 k (a.eval yo) (by simp only [vs, List.getElem?_map, g1]; rfl) j hjs
      rw [Nat.zero_add] at this
      exact ⟨u, by rw [this]; exact g3, g4⟩
    have hone : ∀ u ∈ cells', u.oneCell' = true := fun u hu => by
      obtain ⟨q, hq⟩ := Array.getElem?_of_mem hu
      have hqlt : q < len * s := by rw [← hcells]; exact (Array.getElem?_eq_some_iff.1 hq).1
      have hs0 : 0 < s := by
        rcases Nat.eq_zero_or_pos s with h | h
        · subst h; simp at hqlt
        · exact h
      have hk : q / s < len := Nat.div_lt_of_lt_mul (by rwa [Nat.mul_comm] at hqlt)
      have hkx : q / s < xs.length := by rw [m1, ← hlen]; exact hk
      obtain ⟨yo, g1, g2⟩ := hrep (q / s) _ (List.getElem?_eq_getElem hkx)
      obtain ⟨c1, c2, c3⟩ := rep_cells g2 (hsol _ (List.getElem_mem hkx))
      have := f4 (q / s) (a.eval yo) (by simp only [vs, List.getElem?_map, g1]; rfl) (q % s) (Nat.mod_lt _ hs0)
      rw [Nat.zero_add, show q / s * s + q % s = q by rw [Nat.mul_comm]; exact Nat.div_add_mod q s, hq] at this
      exact c2 _ u this.symm
    have hl2 : xs.length = len := by rw [m1, hlen]
    have hn := new_object hI cells' e xs s len (by rw [hcells]; exact Nat.le_refl _) (by omega) hone (fun k x hk => hfl x (List.mem_of_getElem? hk)) (fun k j x y v hk hj hv => by
      obtain ⟨v', g1, g2⟩ := hget k j x y hk hj
      rw [g1] at hv; cases hv; exact g2)
    subst hH
    refine ⟨.slice (some ⟨C.w.heap.size, 0, none⟩) len len, _, ?_, hn.1, hn.2, rfl, ?_⟩
    rotate_left
    · refine .view _ 0 xs.length _ (Nat.lt_succ_self _) (fun es he => ?_) rfl
      have hp : ((C.inW (C.w.alloc (.cells cells' e (0, 0)))).push ⟨C.w.heap.size, s, xs.length, len, false⟩ xs).pl C.H.next = ⟨C.w.heap.size, s, xs.length, len, false⟩ := Ctx.pl_push_new (C := C.inW _) _ _
      rw [hp]
      unfold SliceAt
      rw [if_neg (by simp)]
      refine ⟨⟨C.w.heap.size, 0, none⟩, len, by rw [hl2], by simp, by simp, by omega, .inr (by simp)⟩
    have hmap : (parts.toList.map fun (p : Nat × Operand) => (p.1, a.eval p.2)) = (vs.zipIdx 0).map fun p => (p.2, p.1) := by
      rw [hp]
      simp only [vs, List.zipIdx_map, List.map_map]
      rfl
    have hlit : ¬ (16777216 < len * s) := by omega
    have hrun : (Instr.buildSlice t len (parts.map fun (p : Nat × Operand) => (p.1, a.eval p.2))).run P C.w = .ok (.slice (some ⟨C.w.heap.size, 0, none⟩) len len) (C.w.alloc (.cells cells' e)) := by
      by_cases h0 : len * s = 0
      · simp only [h0, if_true] at f1
        have f1' : Instr.fill (fun i => some (i * s, s)) #[] ((vs.zipIdx 0).map fun p => (p.2, p.1)) = some cells' := by
          have e0 : (Array.map (fun q => (#[] : Array Value)[q % (#[] : Array Value).size]!) (Array.range 0)) = #[] := Array.eq_empty_of_size_eq_zero (by simp)
          rw [e0] at f1; exact f1
        have e1 : ∀ g : Nat → Value, Array.map g (Array.range 0) = #[] := fun g => Array.eq_empty_of_size_eq_zero (by simp)
        simp [Instr.buildSlice, run_underlying hu, sizeOf, typeInfo, hi, hs, h0, hmap, e1, f1', newRow]
      · simp only [h0, if_false] at f1
        simp [Instr.buildSlice, run_underlying hu, sizeOf, typeInfo, hi, hs, hz, h0, hlit, hmap, f1, newRow, zeroValue]
    simp only [execOp, ho]
    rw [Sem.run_bind, hrun]
    rfl


end
end Go.Av
namespace Go.Sh
def whole {α : Type} (n : Nat) (l : List α) : Option (List α) := if l.length = n then some l else none
theorem whole_some {α : Type} {n : Nat} {l m : List α} (h : whole n l = some m) : l.length = n ∧ l = m := by
  unfold whole at h
  split at h
  · rename_i h0; cases h; exact ⟨h0, rfl⟩
  · cases h
def aidx {α : Type} (n : Nat) (l : List α) (i : Int) : Option α := if l.length = n then idx l i else none
theorem aidx_some {α : Type} {n : Nat} {l : List α} {i : Int} {x : α} (h : aidx n l i = some x) : l.length = n ∧ ∃ k : Nat, i = k ∧ l[k]? = some x := by
  unfold aidx at h
  split at h
  · rename_i h0; exact ⟨h0, idx_some h⟩
  · cases h
end Go.Sh
namespace Go.Av
section
variable {P : Program} {W0 : Base} {fr : Fr} {H : Heap} {o : Oper} {α : Type} {enc : α → AV} {l : List α} {i : Int} {x : α} {ki : IntKind}

theorem t_index_arr {t : TypeId} {N id k : Nat} {xo io : Operand} (enc : α → AV) (l : List α) (hi : i = k) (hl : l[k]? = some x) (hN : l.length = N) (ho : o.op = .indexAddr t xo io) (hx : evalA fr xo = some (.ref id 0 0)) (hid : H.get id = some [arA enc l]) (hio : evalA fr io = some (.imm (.int ki i)))
    (ht : arT P t = some (N, 1)) : AOp P W0 o fr H (.ref id 0 k) H :=
  (aop_index_in ho hx hid hio ht hi (by have := (List.getElem?_eq_some_iff.1 hl).1; omega)).conv (by simp)
theorem t_load_arr {t : TypeId} {xo : Operand} {id k : Nat} (enc : α → AV) (l : List α) (hl : l[k]? = some x) (ho : o.op = .load t xo) (hx : evalA fr xo = some (.ref id 0 k)) (hid : H.get id = some [arA enc l])
    (ht : szT P t = some (1, false)) : AOp P W0 o fr H (enc x) H :=
  aop_load_ref ho hx hid (i := 0) (e := arA enc l) rfl ht (by simp [partA, AV.flat, hl])
theorem t_load_whole {t : TypeId} {xo : Operand} {id N : Nat} (enc : α → AV) (l : List α) (hN : l.length = N) (ho : o.op = .load t xo) (hx : evalA fr xo = some (.ref id 0 0)) (hid : H.get id = some [arA enc l])
    (ht : szT P t = some (N, true)) : AOp P W0 o fr H (arA enc l) H :=
  aop_load_ref ho hx hid (i := 0) (e := arA enc l) rfl ht (by subst hN; simp only [partA, arA, AV.flat, if_true, Nat.zero_add, List.length_map, Nat.le_refl, List.drop_zero]; rw [List.take_of_length_le (by simp)])
theorem t_store_arr {t : TypeId} {xo yo : Operand} {id k : Nat} (enc : α → AV) (l : List α) (x' : α) (hi : i = k) (hl : l[k]? = some x) (hfl : (enc x').flat = [enc x']) (hsol : (enc x').solid = true) (ho : o.op = .store t xo yo) (hx : evalA fr xo = some (.ref id 0 k)) (hy : evalA fr yo = some (enc x'))
    (hid : H.get id = some [arA enc l]) (ht : szT P t = some (1, false)) : AOp P W0 o fr H .any (H.set id [arA enc (Sh.set l i x')]) := by
  have hk := (List.getElem?_eq_some_iff.1 hl).1
  have := aop_store (P := P) (W0 := W0) (o := o) (fr := fr) (H := H) (e := arA enc l) (e' := arA enc (Sh.set l i x')) (i := 0) ho hx hy hsol hid rfl ht (by rw [hfl]; rfl) (by simp [AV.flat]; omega) (by
    subst hi
    rw [hfl]
    simp only [AV.flat, Sh.set, Int.toNat_natCast, List.map_set]
    rw [List.set_eq_take_append_cons_drop, if_pos (by simpa using hk)]
    simp)
  exact this
theorem t_store_whole {t : TypeId} {xo yo : Operand} {id N : Nat} (enc : α → AV) (l l' : List α) (hN : l.length = N) (hN' : l'.length = N) (ho : o.op = .store t xo yo) (hx : evalA fr xo = some (.ref id 0 0)) (hy : evalA fr yo = some (arA enc l'))
    (hid : H.get id = some [arA enc l]) (ht : szT P t = some (N, true)) : AOp P W0 o fr H .any (H.set id [arA enc l']) := by
  have := aop_store (P := P) (W0 := W0) (o := o) (fr := fr) (H := H) (e := arA enc l) (e' := arA enc l') (i := 0) (j := 0) ho hx hy rfl hid rfl ht (by simp [AV.flat, hN']) (by simp [AV.flat, hN]) (by
    simp only [AV.flat]
    rw [List.drop_eq_nil_of_le (by simp [hN])]
    simp)
  exact this
theorem t_buildV {t e : TypeId} {s by' len : Nat} {parts : Array (Nat × Operand)} {xo : List Operand} (enc : α → AV) (l : List α) (ho : o.op = .buildSlice t len parts) (hp : parts.toList = xo.zipIdx.map fun p => (p.2, p.1)) (hlen : len = xo.length)
    (hxs : xo.mapM (evalA fr) = some (l.map enc)) (hsol : ∀ x ∈ l.map enc, x.solid = true) (hfl : ∀ x ∈ l.map enc, x.flat.length = s) (ht : elT P t = some (e, s, by')) (hz : (zrT P e).isSome = true) (hsmall : len * s ≤ 16777216) :
    AOp P W0 o fr H (.view H.next 0 (l.map enc).length) (H.push s (l.map enc)) := aop_buildSliceV ho hp hlen hxs hsol hfl ht hz hsmall
theorem res_arr {q T N id : Nat} {fr : List (Nat × AV)} {H : Heap} (enc : α → AV) (l : List α) (hN : l.length = N) (hx : lk fr q = some (.ref id 0 0)) (hid : H.get id = some [arA enc l]) (ht : szT P T = some (N, true)) : resA P [.cell q T] ⟨fr, H⟩ = some (arA enc l) := by
  subst hN
  have h1 : resOne P ⟨fr, H⟩ (.cell q T) = some (arA enc l) := by
    simp only [resOne, hx, ht, hid]
    simp only [List.getElem?_cons_zero, partA, arA, AV.flat, if_true, Nat.zero_add, List.length_map, Nat.le_refl, List.drop_zero]
    rw [List.take_of_length_le (by simp)]
  simp only [resA, List.mapM_cons, h1, List.mapM_nil]
  rfl
end
end Go.Av
end

section
/- Literals with empty slices in them, or slices of a known end. -/
namespace Go.Av
inductive Wid : AV → AV → Prop
  | same (x : AV) : Wid x x
  | clip (es : List AV) : Wid (.clip es) (.sl es)
  | nil : Wid (.imm (.slice none 0 0)) (.sl [])
def widF : List AV → List AV → Prop
  | [], [] => True
  | x :: xs, y :: ys => Wid x y ∧ widF xs ys
  | _, _ => False
def widEs : List AV → List AV → Prop
  | [], [] => True
  | e :: es, y :: ys => widF e.flat y.flat ∧ widEs es ys
  | _, _ => False
section
variable {P : Program} {W0 : Base} {C : Ctx} {fr : Fr} {H H' : Heap} {o : Oper}

theorem Wid.rep {a b : AV} {v : Value} (h : Wid a b) (r : Rep C a v) : Rep C b v := by
  cases h with
  | same => exact r
  | clip es =>
    match r with
    | .clipNil a => exact .slNil a 0
    | .clip _ b off sz c h1 h2 h3 h4 h5 => exact .sl es b off sz es.length c h1 h2 (Nat.le_refl _) h3 h4 h5
  | nil =>
    have := rep_toV (v := .slice none 0 0) rfl r
    subst this
    exact .slNil _ _
theorem widF.spec : ∀ {xs ys : List AV}, widF xs ys → xs.length = ys.length ∧ ∀ (j : Nat) (y : AV), ys[j]? = some y → ∃ x, xs[j]? = some x ∧ Wid x y
  | [], [], _ => ⟨rfl, fun j y h => by simp at h⟩
  | x :: xs, y :: ys, h => by
    obtain ⟨a, b⟩ := widF.spec h.2
    refine ⟨by simp [a], fun j z hz => ?_⟩
    cases j with
    | zero => simp at hz; subst hz; exact ⟨x, rfl, h.1⟩
    | succ j => simpa using b j z (by simpa using hz)
  | [], _ :: _, h => h.elim
  | _ :: _, [], h => h.elim
theorem widEs.spec : ∀ {es ys : List AV}, widEs es ys → es.length = ys.length ∧ ∀ (i : Nat) (y : AV), ys[i]? = some y → ∃ e, es[i]? = some e ∧ widF e.flat y.flat
  | [], [], _ => ⟨rfl, fun j y h => by simp at h⟩
  | x :: xs, y :: ys, h => by
    obtain ⟨a, b⟩ := widEs.spec h.2
    refine ⟨by simp [a], fun j z hz => ?_⟩
    cases j with
    | zero => simp at hz; subst hz; exact ⟨x, rfl, h.1⟩
    | succ j => simpa using b j z (by simpa using hz)
  | [], _ :: _, h => h.elim
  | _ :: _, [], h => h.elim
end
end Go.Av
namespace Go.Av
section
variable {P : Program} {W0 : Base} {C : Ctx} {fr : Fr} {H : Heap} {o : Oper}

end
end Go.Av
end

section
/- Calls of what writes into what is the caller's own: a part of the heap is handed over, and comes back. -/
namespace Go.Av

structure Fun3 (P : Program) (B : Base) (f : FuncId) (xs : List AV) (Hin : Heap) (r : AV) (Hout : Heap) : Prop where
  call : Callable P f
  runs : ∀ (C : Ctx) (vals : Array Value), Inv B C → C.H = Hin → C.dfs = [] → vals.size = xs.length → (∀ (k : Nat) (x : AV), xs[k]? = some x → Rep C x (vals.getD k undef)) →
    Calls P f vals C.w (fun e w' => ∃ v C', e = .returned v ∧ C'.w = w' ∧ Mem C C' ∧ Inv B C' ∧ C'.H = Hout ∧ C'.dfs = [] ∧ Rep C' r v)

section
variable {P : Program} {W0 : Base} {C : Ctx} {fr : Fr} {a : Act} {H : Heap} {o : Oper} {N : Nat}

theorem fun3_of_awp {B : Base} {f : FuncId} {fn : Func} {c : Code} {xs : List AV} {r : AV} {Hin Hr : Heap} (hro : B.ro = none) (hf : P.funcs[f]? = some fn) (hb : fn.body = some c) (hname : (fn.name == "runtime.NumGoroutine") = false) (hN : fn.ntmps = N) (hxN : xs.length ≤ N)
    (h : AWP P B N c ⟨argsFr 0 xs, Hin⟩ (fun e s => (e = .normal ∨ e = .ret) ∧ ∃ q, resA P fn.results.toList s = some q ∧ Weak B 1 ⟨[(0, q)], s.H⟩ ⟨[(0, r)], Hr⟩)) (hdx : B.dx = [] := by rfl) : Fun3 P B f xs Hin r Hr where
  call := callable_of hf hname hb
  runs C vals hI hH hd hsz hrep := calls_of_awp hf hb hN hxN hro h C vals hI hH hd hsz hrep hdx


def Ctx.hide (C : Ctx) (Hs : Heap) : Ctx :=
  { w := C.w, H := Hs, pl := C.pl, prot := fun b => C.prot b ∨ (C.own b ∧ ¬ Ctx.own { C with H := Hs, dfs := [] } b), dfs := [], pin := 0 }

structure Part (Hs H : Heap) : Prop where
  next : Hs.next = H.next
  objs : ∀ k v, lk Hs.objs k = some v → lk H.objs k = some v
  lps : ∀ l r, lk Hs.lps l = some r → lk H.lps l = some r

theorem hide_own {Hs : Heap} (hp : Part Hs C.H) {b : Nat} (h : (C.hide Hs).own b) : C.own b := by
  rcases h with ⟨id, es, h1, h2, h3⟩ | ⟨r, h⟩ | h
  · refine .inl ⟨id, es, ?_, h2, h3⟩
    obtain ⟨p, h4, h5⟩ := Option.map_eq_some_iff.1 h1
    exact Option.map_eq_some_iff.2 ⟨p, hp.objs id p h4, h5⟩
  · exact .inr (.inl ⟨r, hp.lps b r h⟩)
  · simp [Ctx.hide] at h

theorem hide_bad {Hs : Heap} (hp : Part Hs C.H) {b : Nat} (h : (C.hide Hs).bad b) : C.bad b := by
  rcases h with h | h | h
  · exact .inl (hide_own hp h)
  · exact .inr h
  · exact .inl h.1

theorem part_get {Hs H : Heap} (hp : Part Hs H) {id : Nat} {es : List AV} (h : Hs.get id = some es) : H.get id = some es := by
  obtain ⟨p, h4, h5⟩ := Option.map_eq_some_iff.1 h
  exact Option.map_eq_some_iff.2 ⟨p, hp.objs id p h4, h5⟩

theorem Rep.hide {Hs : Heap} (hp : Part Hs C.H) {x : AV} {v : Value} (h : Rep C x v) : Rep (C.hide Hs) x v :=
  h.sub rfl (by show C.H.next ≤ Hs.next; rw [hp.next]; exact Nat.le_refl _) (fun id es _ h => ⟨es, part_get hp h⟩) (fun _ _ => rfl) (fun b h => hide_bad hp h)

theorem Inv.hide (hI : Inv W0 C) {Hs : Heap} (hp : Part Hs C.H) : Inv (.of W0.w) (C.hide Hs) where
  fresh id es h := by show id < Hs.next; rw [hp.next]; exact hI.fresh id es (part_get hp h)
  nil id es h := hI.nil id es (part_get hp h)
  obj id es h hn := by
    have hO := hI.obj id es (part_get hp h) hn
    exact ⟨hO.n, hO.cap, hO.blk, hO.one, hO.flat, fun i j e x v h1 h2 h3 => (hO.cell i j e x v h1 h2 h3).hide hp⟩
  sep i1 i2 e1 e2 h1 h2 := hI.sep i1 i2 e1 e2 (part_get hp h1) (part_get hp h2)
  prot id es h hn hb := by
    rcases hb with hb | hb
    · exact hI.prot id es (part_get hp h) hn hb
    · exact hb.2 (.inl ⟨id, es, h, hn, rfl⟩)
  szok id s h := by
    obtain ⟨p, h4, h5⟩ := Option.map_eq_some_iff.1 h
    exact hI.szok id s (Option.map_eq_some_iff.2 ⟨p, hp.objs id p h4, h5⟩)
  protlt b h := by
    rcases h with h | h
    · exact hI.protlt b h
    · exact hI.own_lt h.1
  protge b h := by
    rcases h with h | h
    · exact hI.protge b h
    · exact hI.own_ge h.1
  size := hI.size
  glob b h := ⟨(hI.glob b h).1, fun ho => (hI.glob b h).2 (hide_own hp ho)⟩
  lps l r h := hI.lps l r (hp.lps l r h)
  dfs d h := by simp [Ctx.hide] at h
  dnd := .nil
  rod := fun _ _ => rfl
  spprot b h hb := by
    rcases h with ⟨r, h⟩ | h
    · rcases hb with hb | hb
      · exact hI.spprot b (.inl ⟨r, hp.lps b r h⟩) hb
      · exact hb.2 (.inr (.inl ⟨r, h⟩))
    · simp [Ctx.hide] at h
  pinB := rfl
  pinlt := Nat.zero_le _
  gh := trivial


inductive Ren (ok : AV → Prop) (m : List (Nat × Nat)) : AV → AV → Prop
  | same (x : AV) : ok x → Ren ok m x x
  | any (x : AV) : Ren ok m x .any
  | view {id k off len : Nat} : lk m id = some k → Ren ok m (.view id off len) (.view k off len)
  | ref {id k i j : Nat} : lk m id = some k → Ren ok m (.ref id i j) (.ref k i j)
  | agg (cs cs' : List AV) : cs.length = cs'.length → (∀ (k : Nat) (x x' : AV), cs[k]? = some x → cs'[k]? = some x' → Ren ok m x x') → Ren ok m (.agg cs) (.agg cs')
  | tuple (cs cs' : List AV) : cs.length = cs'.length → (∀ (k : Nat) (x x' : AV), cs[k]? = some x → cs'[k]? = some x' → Ren ok m x x') → Ren ok m (.tuple cs) (.tuple cs')
  | clo (fn : Fn) (cs cs' : List AV) : cs.length = cs'.length → (∀ (k : Nat) (x x' : AV), cs[k]? = some x → cs'[k]? = some x' → Ren ok m x x') → Ren ok m (.clo fn cs) (.clo fn cs')
  | ifc (t : TypeId) (x x' : AV) : Ren ok m x x' → Ren ok m (.ifc t x) (.ifc t x')

structure RenL (ok : AV → Prop) (m : List (Nat × Nat)) (es es' : List AV) : Prop where
  len : es.length = es'.length
  see : ∀ (k : Nat) (e e' : AV), es[k]? = some e → es'[k]? = some e' → e.flat.length = e'.flat.length ∧ ∀ (j : Nat) (x x' : AV), e.flat[j]? = some x → e'.flat[j]? = some x' → Ren ok m x x'

theorem RenL.same {ok : AV → Prop} {m : List (Nat × Nat)} {es : List AV} (h : ∀ e ∈ es, ∀ x ∈ e.flat, ok x) : RenL ok m es es :=
  ⟨rfl, fun k e e' h1 h2 => by
    rw [h1] at h2; cases h2
    exact ⟨rfl, fun j x x' h3 h4 => by rw [h3] at h4; cases h4; exact .same x (h e (List.mem_of_getElem? h1) x (List.mem_of_getElem? h3))⟩⟩

def RenAll (ok : AV → Prop) (m : List (Nat × Nat)) : List AV → List AV → Prop
  | [], [] => True
  | x :: l, y :: r => Ren ok m x y ∧ RenAll ok m l r
  | _, _ => False

theorem RenAll.spec {ok : AV → Prop} {m : List (Nat × Nat)} : ∀ {l r : List AV}, RenAll ok m l r → l.length = r.length ∧ ∀ (k : Nat) (x x' : AV), l[k]? = some x → r[k]? = some x' → Ren ok m x x'
  | [], [], _ => ⟨rfl, fun k x x' h => by simp at h⟩
  | x :: l, y :: r, h => by
    obtain ⟨h1, h2⟩ := RenAll.spec h.2
    refine ⟨by simp [h1], fun k u v hu hv => ?_⟩
    cases k with
    | zero => simp at hu hv; subst hu hv; exact h.1
    | succ k => simp at hu hv; exact h2 k u v hu hv
  | [], _ :: _, h => h.elim
  | _ :: _, [], h => h.elim
theorem Ren.ag {ok : AV → Prop} {m : List (Nat × Nat)} {cs cs' : List AV} (h : RenAll ok m cs cs') : Ren ok m (.agg cs) (.agg cs') := .agg cs cs' h.spec.1 h.spec.2
theorem Ren.tp {ok : AV → Prop} {m : List (Nat × Nat)} {cs cs' : List AV} (h : RenAll ok m cs cs') : Ren ok m (.tuple cs) (.tuple cs') := .tuple cs cs' h.spec.1 h.spec.2
theorem Ren.cl {ok : AV → Prop} {m : List (Nat × Nat)} {fn : Fn} {cs cs' : List AV} (h : RenAll ok m cs cs') : Ren ok m (.clo fn cs) (.clo fn cs') := .clo fn cs cs' h.spec.1 h.spec.2
theorem RenL.one {ok : AV → Prop} {m : List (Nat × Nat)} {e e' : AV} (h : RenAll ok m e.flat e'.flat) : RenL ok m [e] [e'] :=
  ⟨rfl, fun k a b h1 h2 => by
    cases k with
    | zero => simp at h1 h2; subst h1 h2; exact ⟨h.spec.1, h.spec.2⟩
    | succ k => simp at h1⟩

def Back (ok : AV → Prop) (H : Heap) (g m : List (Nat × Nat)) (Hout : Heap) : List (Nat × (Nat × List AV)) → Prop
  | [] => True
  | (k, (s, es')) :: r => ((lk H.objs k = some (s, es') ∧ g.all (fun p => p.2 != k) = true) ∨ ∃ i es, lk m i = some k ∧ lk Hout.objs i = some (s, es) ∧ RenL ok m es es') ∧ Back ok H g m Hout r

theorem Back.spec {ok : AV → Prop} {H : Heap} {g m : List (Nat × Nat)} {Hout : Heap} : ∀ {l : List (Nat × (Nat × List AV))}, Back ok H g m Hout l → ∀ {k s : Nat} {es' : List AV}, lk l k = some (s, es') →
    (lk H.objs k = some (s, es') ∧ ∀ p ∈ g, p.2 ≠ k) ∨ ∃ i es, lk m i = some k ∧ lk Hout.objs i = some (s, es) ∧ RenL ok m es es'
  | [], _, _, _, _, h => by cases h
  | (q, (s, es)) :: l, hl, k, s', es', h => by
    simp only [lk] at h
    split at h
    · rename_i hm; subst hm; cases h
      refine hl.1.imp (fun h => ⟨h.1, fun p hp => ?_⟩) id
      have := List.all_eq_true.1 h.2 p hp
      simpa using this
    · exact Back.spec hl.2 h
theorem Back.kept {ok : AV → Prop} {H : Heap} {g m : List (Nat × Nat)} {Hout : Heap} {k s : Nat} {es : List AV} {r : List (Nat × (Nat × List AV))} (h1 : lk H.objs k = some (s, es)) (h2 : g.all (fun p => p.2 != k) = true) (h3 : Back ok H g m Hout r) : Back ok H g m Hout ((k, (s, es)) :: r) :=
  ⟨.inl ⟨h1, h2⟩, h3⟩
theorem Back.new {ok : AV → Prop} {H : Heap} {g m : List (Nat × Nat)} {Hout : Heap} {k s : Nat} {es' : List AV} {r : List (Nat × (Nat × List AV))} (i : Nat) {es : List AV} (h1 : lk m i = some k) (h2 : lk Hout.objs i = some (s, es)) (h3 : RenL ok m es es') (h4 : Back ok H g m Hout r) : Back ok H g m Hout ((k, (s, es')) :: r) :=
  ⟨.inr ⟨i, es, h1, h2, h3⟩, h4⟩

def mapOk (p n : Nat) (g m : List (Nat × Nat)) : Bool := m.all fun q => (decide (q.1 < p) && (lk g q.1 == some q.2)) || q.2 == n + q.1

def Ctx.back (C C2 : Ctx) (H' : Heap) : Ctx := { w := C2.w, H := H', pl := fun k => if k < C.H.next then C.pl k else C2.pl (k - C.H.next), prot := C.prot, dfs := C.dfs, pin := C.pin }

theorem sub_out {ok : AV → Prop} {Hs Hin H' : Heap} {g m : List (Nat × Nat)} {nw : List Nat} {p : Nat} {B1 : Base} {C2 : Ctx} (hI : Inv W0 C) (hp : Part Hs C.H) (hB : B1.w = W0.w)
    (hH : Held Hs g nw Hin.next Hin.objs) (hnw : ∀ n ∈ nw, lk g n = none) (hginj : g.all (fun p => g.all (fun q => p.2 != q.2 || p.1 == q.1)) = true) (hgin : ∀ q ∈ g, (lk Hs.objs q.2).isSome = true) (hlp : Hin.lps = Hs.lps)
    (hM : Mem { (C.hide Hs).re g Hin with pin := p } C2) (hpin : p ≤ Hin.next) (hI2 : Inv B1 C2) (hd2 : C2.dfs = [])
    (hm : mapOk p C.H.next g m = true) (hnext : H'.next = C.H.next + C2.H.next) (hback : Back ok C.H g m C2.H H'.objs)
    (hlps : ∀ l r, lk H'.lps l = some r → lk C2.H.lps l = some r ∨ (lk C.H.lps l = some r ∧ lk Hs.lps l = none))
    (mode : (∀ x, ok x → Dry x) ∨ ((∀ x, ok x → NoId x) ∧ ∀ k v, lk C.H.objs k = some v → (∀ q ∈ g, q.2 ≠ k) → lk Hs.objs k = none)) :
    Ext C (C.back C2 H') ∧ Inv W0 (C.back C2 H') ∧ ∀ x x' v, Ren ok m x x' → Rep C2 x v → Rep (C.back C2 H') x' v := by
  have hs : C.w.heap.size ≤ C2.w.heap.size := hM.below.size
  have hpr : C2.prot = (C.hide Hs).prot := hM.prot
  have getS : ∀ {K : Heap} {n : Nat} {es' : List AV}, K.get n = some es' → ∃ s, lk K.objs n = some (s, es') := fun {K n es'} h => by
    obtain ⟨⟨s, e⟩, h1, h2⟩ := Option.map_eq_some_iff.1 h
    simp only at h2; subst h2; exact ⟨s, h1⟩
  have getO : ∀ {K : Heap} {n s : Nat} {es' : List AV}, lk K.objs n = some (s, es') → K.get n = some es' := fun {K n s es'} h => by simp [Heap.get, h]
  have gmem : ∀ {n k : Nat}, lk g n = some k → k < C.H.next ∧ ∃ v, lk Hs.objs k = some v := fun {n k} h => by
    obtain ⟨v, hv⟩ := Option.isSome_iff_exists.1 (hgin _ (lk_mem h))
    exact ⟨hI.fresh k v.2 (getO (s := v.1) (hp.objs k v hv)), v, hv⟩
  have ginj : ∀ {n n' k : Nat}, lk g n = some k → lk g n' = some k → n = n' := fun {n n' k} h1 h2 => by
    have := List.all_eq_true.1 (List.all_eq_true.1 hginj _ (lk_mem h1)) _ (lk_mem h2)
    simpa using this
  have rePl : ∀ {n k : Nat}, lk g n = some k → ((C.hide Hs).re g Hin).pl n = C.pl k := fun {n k} h => by simp [Ctx.re, Ctx.hide, h]
  have mS : ∀ {i k : Nat}, lk m i = some k → (i < p ∧ lk g i = some k) ∨ k = C.H.next + i := fun {i k} h => by
    have := List.all_eq_true.1 hm _ (lk_mem h)
    simpa using this
  -- what was handed over
  have passed : ∀ {b : Nat}, ((C.hide Hs).re g Hin).cells b → ∃ n k es, lk g n = some k ∧ C.H.get k = some es ∧ (C.pl k).nil = false ∧ (C.pl k).blk = b := fun {b} h => by
    obtain ⟨n, es', h1, h2, h3⟩ := h
    obtain ⟨s, h4⟩ := getS (K := Hin) h1
    rcases (hH.spec h4).1 with ⟨old, es, q1, q2, _⟩ | ⟨q, _⟩
    · rw [rePl q1] at h2 h3
      exact ⟨n, old, es, q1, getO (hp.objs old _ q2), h2, h3⟩
    · have : ((C.hide Hs).re g Hin).pl n = ⟨0, 0, 0, 0, true⟩ := by simp [Ctx.re, hnw n q]
      rw [this] at h2; cases h2
  have own1 : ∀ {b : Nat}, ((C.hide Hs).re g Hin).own b → C.own b := fun {b} h => by
    rcases h with h | ⟨r, h⟩ | h
    · obtain ⟨n, k, es, _, h2, h3, h4⟩ := passed h
      exact .inl ⟨k, es, h2, h3, h4⟩
    · exact .inr (.inl ⟨r, hp.lps b r (by rw [← hlp]; exact h)⟩)
    · simp [Ctx.re, Ctx.hide] at h
  have keep : ∀ b, b < C.w.heap.size → ¬ ((C.hide Hs).re g Hin).own b → C2.w.heap[b]? = C.w.heap[b]? := fun b hb hn => hM.keep b hb hn
  have own2 : ∀ {b : Nat}, b < C.w.heap.size → C2.own b → ((C.hide Hs).re g Hin).own b := fun {b} hb h => hM.own b hb h
  -- cells, records, and what is put off, are told apart by what lies there
  have cellHeap : ∀ {k : Nat} {es : List AV}, C.H.get k = some es → (C.pl k).nil = false → ∃ arr el, C.w.heap[(C.pl k).blk]? = some (.cells arr el (0, 0)) := fun {k es} h1 h2 => by
    obtain ⟨arr, el, h3, _⟩ := (hI.obj k es h1 h2).blk
    exact ⟨arr, el, h3⟩
  have keptFree : ∀ {k : Nat} {es : List AV}, C.H.get k = some es → (C.pl k).nil = false → (∀ q ∈ g, q.2 ≠ k) → ¬ ((C.hide Hs).re g Hin).own (C.pl k).blk := fun {k es} h1 h2 h3 h => by
    obtain ⟨arr, el, hc⟩ := cellHeap h1 h2
    rcases h with h | ⟨r, h⟩ | h
    · obtain ⟨n, k', es', q1, q2, q3, q4⟩ := passed h
      have := hI.sep k' k es' es q2 h1 q3 h2 q4
      exact h3 _ (lk_mem q1) this
    · exact hI.sp_ne (.inl ⟨r, hp.lps _ r (by rw [← hlp]; exact h)⟩) hc
    · simp [Ctx.re, Ctx.hide] at h
  -- an object behind the call
  have plO : ∀ {k : Nat}, k < C.H.next → (C.back C2 H').pl k = C.pl k := fun {k} h => by simp [Ctx.back, h]
  have plN : ∀ {i k s : Nat} {es : List AV}, lk m i = some k → lk C2.H.objs i = some (s, es) → (C.back C2 H').pl k = C2.pl i ∧ (k < C.H.next → ∃ n, i = n ∧ lk g n = some k) := fun {i k s es} h h2 => by
    rcases mS h with ⟨h3, h4⟩ | h3
    · refine ⟨?_, fun _ => ⟨i, rfl, h4⟩⟩
      rw [plO (gmem h4).1]
      have h5 := (hM.pins hpin).2 i es h3 (getO h2)
      rw [h5.2]; exact (rePl h4).symm
    · subst h3
      refine ⟨?_, fun h => by omega⟩
      have h1 : ¬ C.H.next + i < C.H.next := by omega
      have h2 : C.H.next + i - C.H.next = i := by omega
      show (if C.H.next + i < C.H.next then _ else _) = _
      rw [if_neg h1, h2]
  have objJ : ∀ {k : Nat} {es' : List AV}, (C.back C2 H').H.get k = some es' → ∃ s, lk H'.objs k = some (s, es') ∧ ((lk C.H.objs k = some (s, es') ∧ (∀ q ∈ g, q.2 ≠ k) ∧ k < C.H.next) ∨ ∃ i es, lk m i = some k ∧ lk C2.H.objs i = some (s, es) ∧ RenL ok m es es') := fun {k es'} h => by
    obtain ⟨s, h1⟩ := getS (K := H') h
    refine ⟨s, h1, (hback.spec h1).imp (fun h => ⟨h.1, h.2, hI.fresh k es' (getO h.1)⟩) id⟩
  have ownJ : ∀ b, (C.back C2 H').own b → C.own b ∨ C2.own b := by
    rintro b (⟨k, es', h1, h2, h3⟩ | ⟨r, h⟩ | h)
    · obtain ⟨s, _, ⟨q1, q2, q3⟩ | ⟨i, es, q1, q2, _⟩⟩ := objJ h1
      · rw [plO q3] at h2 h3; exact .inl (.inl ⟨k, es', getO q1, h2, h3⟩)
      · rw [(plN q1 q2).1] at h2 h3; exact .inr (.inl ⟨i, es, getO q2, h2, h3⟩)
    · rcases hlps b r h with h | h
      · exact .inr (.inr (.inl ⟨r, h⟩))
      · exact .inl (.inr (.inl ⟨r, h.1⟩))
    · exact .inl (.inr (.inr h))
  have ext : Ext C (C.back C2 H') := {
    below := ⟨hM.below.os, hM.below.tape, hM.below.output, hs, fun k hk => absurd hk (Nat.not_lt_zero k)⟩
    keep := fun b hb hn => keep b hb (fun h => hn (own1 h))
    own := fun b hb h => by
      rcases ownJ b h with h | h
      · exact h
      · exact own1 (own2 hb h)
    next := by show C.H.next ≤ H'.next; rw [hnext]; exact Nat.le_add_right _ _
    id := fun k es' hk h => by
      obtain ⟨s, _, ⟨q1, q2, q3⟩ | ⟨i, es, q1, q2, _⟩⟩ := objJ h
      · exact ⟨⟨es', getO q1⟩, plO q3⟩
      · obtain ⟨n, _, h3⟩ := (plN q1 q2).2 hk
        obtain ⟨_, v, hv⟩ := gmem h3
        exact ⟨⟨v.2, getO (s := v.1) (hp.objs k v hv)⟩, plO hk⟩
    prot := rfl
    dfs := rfl
    pin := rfl }
  -- what nobody owned behind the call is nobody's now
  have protOf : ∀ {b : Nat}, C.own b → ¬ Ctx.own { C with H := Hs, dfs := [] } b → C2.bad b := fun {b} h1 h2 => .inr (by rw [hpr]; exact .inr ⟨h1, h2⟩)
  have badJ : (∀ k v, lk C.H.objs k = some v → (∀ q ∈ g, q.2 ≠ k) → lk Hs.objs k = none) → ∀ b, (C.back C2 H').bad b → C2.bad b := by
    rintro hmd b ((⟨k, es', h1, h2, h3⟩ | ⟨r, h⟩ | h) | h)
    · obtain ⟨s, _, ⟨q1, q2, q3⟩ | ⟨i, es, q1, q2, _⟩⟩ := objJ h1
      · rw [plO q3] at h2 h3
        obtain ⟨arr, el, hc⟩ := cellHeap (getO q1) h2
        rw [h3] at hc
        refine protOf (.inl ⟨k, es', getO q1, h2, h3⟩) ?_
        rintro (⟨k', e', r1, r2, r3⟩ | ⟨r, h⟩ | h)
        · have := hI.sep k' k e' es' (part_get hp r1) (getO q1) r2 h2 (r3.trans h3.symm)
          subst this
          have hnone := hmd k' _ q1 q2
          simp [Heap.get, hnone] at r1
        · exact hI.sp_ne (.inl ⟨r, hp.lps b r h⟩) hc
        · simp at h
      · rw [(plN q1 q2).1] at h2 h3; exact .inl (.inl ⟨i, es, getO q2, h2, h3⟩)
    · rcases hlps b r h with h | ⟨h, h'⟩
      · exact .inl (.inr (.inl ⟨r, h⟩))
      · refine protOf (.inr (.inl ⟨r, h⟩)) ?_
        rintro (⟨k', e', r1, r2, r3⟩ | ⟨r', h2⟩ | h2)
        · obtain ⟨arr, el, hc⟩ := cellHeap (part_get hp r1) r2
          have r3' : (C.pl k').blk = b := r3
          rw [r3'] at hc
          exact hI.sp_ne (.inl ⟨r, h⟩) hc
        · have h2' : lk Hs.lps b = some r' := h2
          rw [h'] at h2'; cases h2'
        · simp at h2
    · refine protOf (.inr (.inr h)) ?_
      rintro (⟨k', e', r1, r2, r3⟩ | ⟨r', h2⟩ | h2)
      · obtain ⟨arr, el, hc⟩ := cellHeap (part_get hp r1) r2
        have r3' : (C.pl k').blk = b := r3
        rw [r3'] at hc
        exact hI.sp_ne (.inr h) hc
      · have q1 := hI.lps b r' (hp.lps b r' h2)
        have q2 := hI.dfs b h
        rw [q1] at q2; cases q2
      · simp at h2
    · exact .inr (by rw [hpr]; exact .inl h)
  have atom : ∀ x v, ok x → Rep C2 x v → Rep (C.back C2 H') x v := fun x v hx hr => by
    rcases mode with h | ⟨h1, h2⟩
    · exact (h x hx).rep hr
    · exact hr.move (h1 x hx) (Nat.le_refl _) (fun b _ q2 => ⟨rfl, fun h => q2 (badJ h2 b h)⟩)
  have repJ : ∀ x x' v, Ren ok m x x' → Rep C2 x v → Rep (C.back C2 H') x' v := by
    intro x x' v hs
    induction hs generalizing v with
    | same x hx => exact atom x v hx
    | any x => intro _; exact .any v
    | @view id k off len hk =>
      intro h
      match h with
      | .view _ _ _ _ h1 h2 h3 =>
      refine .view _ _ _ _ ?_ (fun es' he => ?_) h3
      · show k < H'.next
        rw [hnext]
        rcases mS hk with ⟨_, h5⟩ | rfl
        · have := (gmem h5).1; omega
        · omega
      · obtain ⟨s, _, ⟨q1, q2, q3⟩ | ⟨i, es, q1, q2, _⟩⟩ := objJ he
        · exfalso
          rcases mS hk with ⟨_, h5⟩ | h5
          · exact q2 _ (lk_mem h5) rfl
          · omega
        · have hi : i = id := by
            rcases mS hk with ⟨_, h5⟩ | h5 <;> rcases mS q1 with ⟨_, h6⟩ | h6
            · exact (ginj h5 h6).symm
            · have := (gmem h5).1; omega
            · have := (gmem h6).1; omega
            · omega
          subst hi
          rw [(plN q1 q2).1]; exact h2 es (getO q2)
    | @ref id k i j hk =>
      intro h
      match h with
      | .ref _ _ _ _ h1 h2 h3 =>
      refine .ref _ _ _ _ ?_ (fun es' he => ?_) h3
      · show k < H'.next
        rw [hnext]
        rcases mS hk with ⟨_, h5⟩ | rfl
        · have := (gmem h5).1; omega
        · omega
      · obtain ⟨s, _, ⟨q1, q2, q3⟩ | ⟨i', es, q1, q2, _⟩⟩ := objJ he
        · exfalso
          rcases mS hk with ⟨_, h5⟩ | h5
          · exact q2 _ (lk_mem h5) rfl
          · omega
        · have hi : i' = id := by
            rcases mS hk with ⟨_, h5⟩ | h5 <;> rcases mS q1 with ⟨_, h6⟩ | h6
            · exact (ginj h5 h6).symm
            · have := (gmem h5).1; omega
            · have := (gmem h6).1; omega
            · omega
          subst hi
          rw [(plN q1 q2).1]; exact h2 es (getO q2)
    | agg cs cs' hl _ ih =>
      intro h
      match h with
      | .agg _ vs h1 h2 h3 =>
      refine .agg cs' vs (h1.trans hl) h2 (fun k x' hx' => ?_)
      have hk : k < cs.length := by rw [hl]; exact (List.getElem?_eq_some_iff.1 hx').1
      exact ih k cs[k] x' (List.getElem?_eq_getElem hk) hx' _ (h3 k _ (List.getElem?_eq_getElem hk))
    | tuple cs cs' hl _ ih =>
      intro h
      match h with
      | .tuple _ vs h1 h3 =>
      refine .tuple cs' vs (h1.trans hl) (fun k x' hx' => ?_)
      have hk : k < cs.length := by rw [hl]; exact (List.getElem?_eq_some_iff.1 hx').1
      exact ih k cs[k] x' (List.getElem?_eq_getElem hk) hx' _ (h3 k _ (List.getElem?_eq_getElem hk))
    | clo fn cs cs' hl _ ih =>
      intro h
      match h with
      | .clo _ _ vs h1 h3 =>
      refine .clo fn cs' vs (h1.trans hl) (fun k x' hx' => ?_)
      have hk : k < cs.length := by rw [hl]; exact (List.getElem?_eq_some_iff.1 hx').1
      exact ih k cs[k] x' (List.getElem?_eq_getElem hk) hx' _ (h3 k _ (List.getElem?_eq_getElem hk))
    | ifc t x x' _ ih =>
      intro h
      match h with
      | .ifc _ _ v h1 => exact .ifc t x' v (ih v h1)
  refine ⟨ext, ?_, repJ⟩
  have newBlk : ∀ {i s : Nat} {es : List AV} {k0 : Nat} {es0 : List AV}, lk C2.H.objs i = some (s, es) → (C2.pl i).nil = false → C.H.get k0 = some es0 → (C.pl k0).nil = false → (∀ q ∈ g, q.2 ≠ k0) → (C2.pl i).blk ≠ (C.pl k0).blk := fun {i s es k0 es0} h1 h2 h3 h4 h5 he => by
    have hlt := hI.lt h3 h4
    refine keptFree h3 h4 h5 (own2 hlt ?_)
    exact .inl ⟨i, es, getO h1, h2, he⟩
  exact {
    fresh := fun k es' h => by
      show k < H'.next
      rw [hnext]
      obtain ⟨s, _, ⟨q1, q2, q3⟩ | ⟨i, es, q1, q2, _⟩⟩ := objJ h
      · omega
      · rcases mS q1 with ⟨_, h5⟩ | rfl
        · have := (gmem h5).1; omega
        · have := hI2.fresh i es (getO q2); omega
    nil := fun k es' h hn => by
      obtain ⟨s, _, ⟨q1, q2, q3⟩ | ⟨i, es, q1, q2, q3⟩⟩ := objJ h
      · rw [plO q3] at hn; exact hI.nil k es' (getO q1) hn
      · rw [(plN q1 q2).1] at hn
        have := hI2.nil i es (getO q2) hn
        subst this
        exact List.eq_nil_of_length_eq_zero q3.len.symm
    obj := fun k es' h hn => by
      obtain ⟨s, _, ⟨q1, q2, q3⟩ | ⟨i, es, q1, q2, q3⟩⟩ := objJ h
      · rw [plO q3] at hn ⊢
        exact (hI.obj k es' (getO q1) hn).ext ext (keep _ (hI.lt (getO q1) hn) (keptFree (getO q1) hn q2))
      · rw [(plN q1 q2).1] at hn ⊢
        have hO := hI2.obj i es (getO q2) hn
        have bk : ∀ {q : Nat} {e' : AV}, es'[q]? = some e' → ∃ e, es[q]? = some e ∧ e.flat.length = e'.flat.length ∧ ∀ (j : Nat) (x x' : AV), e.flat[j]? = some x → e'.flat[j]? = some x' → Ren ok m x x' := fun {q e'} hq => by
          have hk : q < es.length := by rw [q3.len]; exact (List.getElem?_eq_some_iff.1 hq).1
          exact ⟨es[q], List.getElem?_eq_getElem hk, q3.see q _ e' (List.getElem?_eq_getElem hk) hq⟩
        refine ⟨hO.n.trans q3.len, hO.cap, hO.blk, hO.one, fun q e' he' => ?_, fun q j e' x' v he' hx' hv => ?_⟩
        · obtain ⟨e, h1, h2, _⟩ := bk he'
          rw [← h2]; exact hO.flat q e h1
        · obtain ⟨e, h1, h2, h3⟩ := bk he'
          have hj : j < e.flat.length := by rw [h2]; exact (List.getElem?_eq_some_iff.1 hx').1
          exact repJ _ _ _ (h3 j _ x' (List.getElem?_eq_getElem hj) hx') (hO.cell q j e _ v h1 (List.getElem?_eq_getElem hj) hv)
    sep := fun k1 k2 e1 e2 h1 h2 n1 n2 hb => by
      obtain ⟨s1, _, ⟨a1, a2, a3⟩ | ⟨i1, es1, a1, a2, _⟩⟩ := objJ h1 <;> obtain ⟨s2, _, ⟨b1, b2, b3⟩ | ⟨i2, es2, b1, b2, _⟩⟩ := objJ h2
      · rw [plO a3] at n1 hb; rw [plO b3] at n2 hb
        exact hI.sep k1 k2 e1 e2 (getO a1) (getO b1) n1 n2 hb
      · rw [plO a3] at n1 hb; rw [(plN b1 b2).1] at n2 hb
        exact absurd hb.symm (newBlk b2 n2 (getO a1) n1 a2)
      · rw [(plN a1 a2).1] at n1 hb; rw [plO b3] at n2 hb
        exact absurd hb (newBlk a2 n1 (getO b1) n2 b2)
      · rw [(plN a1 a2).1] at n1 hb; rw [(plN b1 b2).1] at n2 hb
        have := hI2.sep i1 i2 es1 es2 (getO a2) (getO b2) n1 n2 hb
        subst this
        rw [a1] at b1; exact Option.some.inj b1
    prot := fun k es' h hn hb => by
      obtain ⟨s, _, ⟨q1, q2, q3⟩ | ⟨i, es, q1, q2, q3⟩⟩ := objJ h
      · rw [plO q3] at hn hb; exact hI.prot k es' (getO q1) hn hb
      · rw [(plN q1 q2).1] at hn hb
        exact hI2.prot i es (getO q2) hn (by rw [hpr]; exact .inl hb)
    szok := fun k s h hn => by
      obtain ⟨⟨s', es'⟩, h1, h2⟩ := Option.map_eq_some_iff.1 h
      simp only at h2; subst h2
      rcases hback.spec h1 with ⟨q1, q2⟩ | ⟨i, es, q1, q2, _⟩
      · have q3 := hI.fresh k es' (getO q1)
        rw [plO q3] at hn ⊢; exact hI.szok k _ (by simp [Heap.sz, q1]) hn
      · rw [(plN q1 q2).1] at hn ⊢; exact hI2.szok i _ (by simp [Heap.sz, q2]) hn
    protlt := fun b hb => Nat.lt_of_lt_of_le (hI.protlt b hb) hs
    protge := hI.protge
    size := by have := hI2.size; rw [hB] at this; exact this
    glob := fun b hb => ⟨by have := (hI2.glob b (by rw [hB]; exact hb)).1; rw [hB] at this; exact this, fun ho => by
      rcases ownJ b ho with h | h
      · exact (hI.glob b hb).2 h
      · exact (hI2.glob b (by rw [hB]; exact hb)).2 h⟩
    lps := fun l r h => by
      rcases hlps l r h with h | ⟨h, h'⟩
      · exact hI2.lps l r h
      · have h1 := hI.lps l r h
        rw [← h1]
        refine keep l (Array.getElem?_eq_some_iff.1 h1).1 ?_
        rintro (h2 | ⟨r', h2⟩ | h2)
        · obtain ⟨n, k, es, _, q2, q3, q4⟩ := passed h2
          obtain ⟨arr, el, hc⟩ := cellHeap q2 q3
          rw [q4, h1] at hc; cases hc
        · have h2' : lk Hin.lps l = some r' := h2
          rw [hlp, h'] at h2'; cases h2'
        · simp [Ctx.re, Ctx.hide] at h2
    dfs := fun d h => by
      have h1 := hI.dfs d h
      rw [← h1]
      refine keep d (Array.getElem?_eq_some_iff.1 h1).1 ?_
      rintro (h2 | ⟨r', h2⟩ | h2)
      · obtain ⟨n, k, es, _, q2, q3, q4⟩ := passed h2
        obtain ⟨arr, el, hc⟩ := cellHeap q2 q3
        rw [q4, h1] at hc; cases hc
      · have q1 := hI.lps d r' (hp.lps d r' (by rw [← hlp]; exact h2))
        rw [h1] at q1; cases q1
      · simp [Ctx.re, Ctx.hide] at h2
    dnd := hI.dnd
    rod := hI.rod
    spprot := fun b h hb => by
      rcases h with ⟨r, h⟩ | h
      · rcases hlps b r h with h | ⟨h, _⟩
        · exact hI2.spprot b (.inl ⟨r, h⟩) (by rw [hpr]; exact .inl hb)
        · exact hI.spprot b (.inl ⟨r, h⟩) hb
      · exact hI.spprot b (.inr h) hb
    pinB := hI.pinB
    pinlt := Nat.le_trans hI.pinlt ext.next
    gh := W0.st C _ ext.mem hI.pinlt hI.gh }

theorem Inv.repin {B1 : Base} {p : Nat} (hI : Inv (.of W0.w) C) (hB : B1.w = W0.w) (hp : B1.p = p) (hle : p ≤ C.H.next) (hd : C.dfs = []) (hG : B1.G { C with pin := p }) : Inv B1 { C with pin := p } where
  fresh := hI.fresh
  nil := hI.nil
  obj id es h hn := by
    have hO := hI.obj id es h hn
    exact ⟨hO.n, hO.cap, hO.blk, hO.one, hO.flat, fun i j e x v h1 h2 h3 => (hO.cell i j e x v h1 h2 h3).sub rfl (Nat.le_refl _) (fun id es _ h => ⟨es, h⟩) (fun _ _ => rfl) (fun b h => h)⟩
  sep := hI.sep
  prot := hI.prot
  szok := hI.szok
  protlt := hI.protlt
  protge b h := by rw [hB]; exact hI.protge b h
  size := by rw [hB]; exact hI.size
  glob b h := by rw [hB] at h ⊢; exact hI.glob b h
  lps := hI.lps
  dfs := hI.dfs
  dnd := hI.dnd
  rod _ _ := hd
  spprot := hI.spprot
  pinB := hp.symm
  pinlt := hle
  gh := hG

def PartL (H : Heap) : List (Nat × (Nat × List AV)) → Prop
  | [] => True
  | (k, v) :: r => lk H.objs k = some v ∧ PartL H r
theorem PartL.spec {H : Heap} : ∀ {l : List (Nat × (Nat × List AV))}, PartL H l → ∀ k v, lk l k = some v → lk H.objs k = some v
  | [], _, _, _, h => by cases h
  | (q, u) :: l, hl, k, v, h => by
    simp only [lk] at h
    split at h
    · rename_i hq; subst hq; cases h; exact hl.1
    · exact PartL.spec hl.2 k v h

structure Pass (ok : AV → Prop) (fr fr' : List (Nat × AV)) (H Hs Hin Hout H' : Heap) (g m : List (Nat × Nat)) (nw : List Nat) (p : Nat) (r r' : AV) : Prop where
  next : Hs.next = H.next
  part : PartL H Hs.objs
  inj : g.all (fun p => g.all (fun q => p.2 != q.2 || p.1 == q.1)) = true
  lt : g.all (fun p => decide (p.1 < Hin.next)) = true
  nwf : nw.all (fun n => (lk g n).isNone && decide (n < Hin.next)) = true
  gin : g.all (fun q => (lk Hs.objs q.2).isSome) = true
  held : Held Hs g nw Hin.next Hin.objs
  seen : Seen Hs g nw fr fr'
  inlps : Hin.lps = Hs.lps
  ple : decide (p ≤ Hin.next) = true
  map : mapOk p H.next g m = true
  next' : H'.next = H.next + Hout.next
  back : Back ok H g m Hout H'.objs
  lps : (Hs.lps = [] ∧ H'.lps = H.lps) ∨ (Hs.lps = H.lps ∧ H'.lps = Hout.lps)
  mode : (∀ x, ok x → Dry x) ∨ ((∀ x, ok x → NoId x) ∧ H.objs.all (fun e => g.any (fun q => q.2 == e.1) || (lk Hs.objs e.1).isNone) = true)
  ren : Ren ok m r r'

def Ctx.sub (C : Ctx) (Hs Hin : Heap) (g : List (Nat × Nat)) (p : Nat) : Ctx := { (C.hide Hs).re g Hin with pin := p }

theorem Pass.isPart {ok : AV → Prop} {fr fr' : List (Nat × AV)} {H Hs Hin Hout H' : Heap} {g m : List (Nat × Nat)} {nw : List Nat} {p : Nat} {r r' : AV} (h : Pass ok fr fr' H Hs Hin Hout H' g m nw p r r') : Part Hs H :=
  ⟨h.next, h.part.spec, fun l r hl => by
    rcases h.lps with ⟨h1, _⟩ | ⟨h1, _⟩
    · rw [h1] at hl; cases hl
    · rw [h1] at hl; exact hl⟩

theorem Pass.into {ok : AV → Prop} {fr fr' : List (Nat × AV)} {H Hs Hin Hout H' : Heap} {g m : List (Nat × Nat)} {nw : List Nat} {p : Nat} {r r' : AV} {n : Nat} {vals : Array Value} (h : Pass ok fr fr' H Hs Hin Hout H' g m nw p r r')
    (hI : Inv W0 C) (hH : C.H = H) (hsz : vals.size = n) (hrep : ∀ t x, lk fr t = some x → Rep C x (vals.getD t undef)) :
    Rel (.of W0.w) n (lk fr') Hin ((C.hide Hs).re g Hin) { tmps := vals, defers := [] } := by
  have hp := h.isPart
  rw [← hH] at hp
  have hr0 : Rel (.of W0.w) n (lk fr) Hs (C.hide Hs) { tmps := vals, defers := [] } := ⟨rfl, hI.hide hp, hsz, rfl, fun t x hx => (hrep t x hx).hide hp⟩
  exact (re_rel (st := ⟨fr, Hs⟩) g nw h.inj h.lt h.nwf h.held h.seen (by simp [pinOk]) h.inlps hr0).2

theorem rep_pin {x : AV} {v : Value} {p : Nat} (h : Rep C x v) : Rep { C with pin := p } x v :=
  h.sub rfl (Nat.le_refl _) (fun id es _ h => ⟨es, h⟩) (fun _ _ => rfl) (fun b h => h)

theorem Pass.outof {ok : AV → Prop} {fr fr' : List (Nat × AV)} {H Hs Hin Hout H' : Heap} {g m : List (Nat × Nat)} {nw : List Nat} {p : Nat} {r r' : AV} {B1 : Base} {C2 : Ctx} (h : Pass ok fr fr' H Hs Hin Hout H' g m nw p r r')
    (hI : Inv W0 C) (hH : C.H = H) (hB : B1.w = W0.w) (hM : Mem (C.sub Hs Hin g p) C2) (hI2 : Inv B1 C2) (hH2 : C2.H = Hout) (hd2 : C2.dfs = []) :
    Ext C (C.back C2 H') ∧ Inv W0 (C.back C2 H') ∧ ∀ v, Rep C2 r v → Rep (C.back C2 H') r' v := by
  have hp := h.isPart
  subst hH hH2
  obtain ⟨h1, h2, h3⟩ := sub_out (ok := ok) (H' := H') (m := m) (nw := nw) hI hp hB h.held (fun n hn => by
      have := List.all_eq_true.1 h.nwf n hn
      simp at this; exact this.1) h.inj (fun q hq => List.all_eq_true.1 h.gin q hq) h.inlps hM (of_decide_eq_true h.ple) hI2 hd2 h.map h.next' h.back (fun l r hl => by
      rcases h.lps with ⟨q1, q2⟩ | ⟨q1, q2⟩
      · rw [q2] at hl; exact .inr ⟨hl, by rw [q1]; rfl⟩
      · rw [q2] at hl; exact .inl hl) (h.mode.imp id fun ⟨q1, q2⟩ => ⟨q1, fun k v hk hq => by
      have := List.all_eq_true.1 q2 _ (lk_mem hk)
      simp only [Bool.or_eq_true, List.any_eq_true, beq_iff_eq, Option.isNone_iff_eq_none] at this
      rcases this with ⟨q, hq1, hq2⟩ | h
      · exact absurd hq2 (hq q hq1)
      · exact h⟩)
  exact ⟨h1, h2, fun v hv => h3 r r' v h.ren hv⟩

theorem call3 {ok : AV → Prop} {f : FuncId} {ys xs : List AV} {r r' : AV} {Hs Hin Hout H' : Heap} {g m : List (Nat × Nat)} {nw : List Nat} {p : Nat} {B1 : Base} {vals : Array Value} (hf : Fun3 P B1 f xs Hin r Hout) (hB : B1.w = W0.w) (hBp : B1.p = p)
    (h : Pass ok (argsFr 0 ys) (argsFr 0 xs) H Hs Hin Hout H' g m nw p r r') (hl : xs.length = ys.length) (hI : Inv W0 C) (hH : C.H = H) (hsz : vals.size = ys.length) (hrep : ∀ t x, lk (argsFr 0 ys) t = some x → Rep C x (vals.getD t undef))
    (hG : B1.G (C.sub Hs Hin g p)) :
    Calls P f vals C.w (fun e w' => ∃ v C', e = .returned v ∧ C'.w = w' ∧ Ext C C' ∧ Inv W0 C' ∧ C'.H = H' ∧ Rep C' r' v) := by
  have h1 := h.into hI hH hsz hrep
  have h2 : Inv B1 (C.sub Hs Hin g p) := h1.inv.repin (W0 := W0) hB hBp (of_decide_eq_true h.ple) rfl hG
  refine (hf.runs (C.sub Hs Hin g p) vals h2 rfl rfl (by rw [hl]; exact hsz) (fun k x hx => rep_pin (rel_args h1 k x hx))).mono ?_
  rintro e w' ⟨v, C2, rfl, rfl, hM, hI2, hH2, hd2, hr⟩
  obtain ⟨q1, q2, q3⟩ := h.outof hI hH hB hM hI2 hH2 hd2
  exact ⟨v, C.back C2 H', rfl, rfl, q1, q2, rfl, q3 v hr⟩

end
end Go.Av
end

section
/- Ranges over functions: the statement, its rounds, and the calls of yield. -/
namespace Go.Av

def rangesOf : Code → List (Array Tmp × Code × Code)
  | .seq a b => rangesOf a ++ rangesOf b
  | .cond _ a b => rangesOf a ++ rangesOf b
  | .block _ c => rangesOf c
  | .loop c => rangesOf c
  | .scope c => rangesOf c
  | .rangeFunc _ ps a b => (ps, a, b) :: (rangesOf a ++ rangesOf b)
  | _ => []

structure RecAt (rec : Loop) (fn : Func) (k N : Nat) : Prop where
  ready : rec.state = .ready
  none : rec.pending = none
  code : (fn.body.bind fun c => (rangesOf c)[k]?) = some (rec.params, rec.assign, rec.body)
  size : rec.tmps.size = N

theorem RecAt.params {rec : Loop} {fn : Func} {k N : Nat} {ps : Array Tmp} {as1 bd : Code} (h : RecAt rec fn k N) (hc : (fn.body.bind fun c => (rangesOf c)[k]?) = some (ps, as1, bd)) : rec.params = ps := by
  have := h.code
  rw [hc] at this
  simp only [Option.some.injEq, Prod.mk.injEq] at this
  exact this.1.symm

def Base.it (W : World) (p : Nat) (rec : Loop) (frl : List (Nat × AV)) : Base where
  w := W
  p := p
  ro := none
  G C := C.pin = p ∧ ∀ t x, lk frl t = some x → Under p x ∧ Rep C x (rec.tmps.getD t undef)
  st C C' hM hp h := ⟨hM.pin.trans h.1, fun t x hx => ⟨(h.2 t x hx).1, (h.2 t x hx).2.mem hM hp (by rw [h.1]; exact (h.2 t x hx).1)⟩⟩
  dx := []

section
variable {P : Program} {W0 : Base} {C : Ctx} {fr : Fr} {a : Act} {H : Heap} {o : Oper} {N : Nat}




def Ctx.lay (C : Ctx) (r : Loop) : Ctx :=
  { C with w := (C.w.alloc (.deferred (some []))).alloc (.loop r), H := { C.H with lps := [(C.w.heap.size + 1, r)] }, dfs := C.w.heap.size :: C.dfs }

end

def UnderL (p : Nat) : List (Nat × AV) → Prop
  | [] => True
  | (_, x) :: r => Under p x ∧ UnderL p r
theorem UnderL.spec {p : Nat} : ∀ {l : List (Nat × AV)}, UnderL p l → ∀ t x, lk l t = some x → Under p x
  | [], _, _, _, h => by cases h
  | (q, u) :: l, hl, t, x, h => by
    simp only [lk] at h
    split at h
    · rename_i hq; subst hq; cases h; exact hl.1
    · exact UnderL.spec hl.2 t x h
theorem Under.noid {p : Nat} {x : AV} (h : NoId x) : Under p x := by
  have fl : ∀ (e x : AV), x ∈ e.flat → NoId e → (∀ y ∈ e.flat, NoId y) := fun e x _ hn y hy => by
    cases e <;> simp only [AV.flat, List.mem_singleton] at hy
    case agg cs => simp only [noId_agg] at hn; exact hn y hy
    all_goals (rw [hy]; exact hn)
  have key : ∀ x : AV, NoId x → Under p x ∧ ∀ y ∈ x.flat, Under p y := by
    intro x h
    induction h with
    | any => exact ⟨.any, fun y hy => by simp only [AV.flat, List.mem_singleton] at hy; rw [hy]; exact .any⟩
    | imm v => exact ⟨.imm v, fun y hy => by simp only [AV.flat, List.mem_singleton] at hy; rw [hy]; exact .imm v⟩
    | sl es _ ih =>
      have : Under p (.sl es) := .sl es (fun e he x hx => (ih e he).2 x hx)
      exact ⟨this, fun y hy => by simp only [AV.flat, List.mem_singleton] at hy; rw [hy]; exact this⟩
    | clip es _ ih =>
      have : Under p (.clip es) := .clip es (fun e he x hx => (ih e he).2 x hx)
      exact ⟨this, fun y hy => by simp only [AV.flat, List.mem_singleton] at hy; rw [hy]; exact this⟩
    | pp fl j _ ih =>
      have : Under p (.pp fl j) := .pp fl j (fun e he => (ih e he).1)
      exact ⟨this, fun y hy => by simp only [AV.flat, List.mem_singleton] at hy; rw [hy]; exact this⟩
    | agg cs _ ih => exact ⟨.agg cs (fun e he => (ih e he).1), fun y hy => by simp only [AV.flat] at hy; exact (ih y hy).1⟩
    | tuple cs _ ih =>
      have : Under p (.tuple cs) := .tuple cs (fun e he => (ih e he).1)
      exact ⟨this, fun y hy => by simp only [AV.flat, List.mem_singleton] at hy; rw [hy]; exact this⟩
    | ifc t x _ ih =>
      have : Under p (.ifc t x) := .ifc t x ih.1
      exact ⟨this, fun y hy => by simp only [AV.flat, List.mem_singleton] at hy; rw [hy]; exact this⟩
    | clo fn cs _ ih =>
      have : Under p (.clo fn cs) := .clo fn cs (fun e he => (ih e he).1)
      exact ⟨this, fun y hy => by simp only [AV.flat, List.mem_singleton] at hy; rw [hy]; exact this⟩
  exact (key x h).1
end Go.Av
end

section
/- Function values, methods behind interfaces, and loops gone through one by one. -/
namespace Go.Av

section
variable {P : Program} {W0 : Base} {C : Ctx} {fr : Fr} {a : Act} {H : Heap} {o : Oper} {N : Nat}

theorem Enters.clo {f : FuncId} {x : Operand} {args : Array Operand} {tys : Array TypeId} {ys caps : List AV} (ho : o.op = .call { callee := .value x, args := args, argTypes := tys }) (hx : evalA fr x = some (.clo (.func f) caps)) (hys : args.toList.mapM (evalA fr) = some ys) (hc : Callable P f) : Enters P o fr f (ys ++ caps) := fun C a hop => by
  have hopy : ∀ y ∈ args.toList, RepO C fr a y := fun y hy => hop y (by rw [ho]; simp [Op.operands, Call.operands]; exact .inr (by simpa using hy))
  obtain ⟨h1, h2⟩ := args_rep hopy hys
  have hv := rep_eval (hop x (by rw [ho]; simp [Op.operands, Call.operands])) hx
  obtain ⟨vs, hvs, hsz, hcap⟩ : ∃ vs : Array Value, a.eval x = .func (.func f) #[] vs ∧ vs.size = caps.length ∧ ∀ (k : Nat) (x : AV), caps[k]? = some x → Rep C x (vs.getD k undef) := by
    generalize a.eval x = u at hv
    match hv with
    | .clo _ _ vs h1 h2 => exact ⟨vs, rfl, h1, h2⟩
  refine ⟨args.map a.eval ++ vs, fun w => ?_, by simp [hsz] at h1 ⊢; omega, fun t z hz => ?_⟩
  · have := hc (args.map a.eval ++ vs) w
    simp only [execOp, ho, resolve, hvs, Deferred.ofValue]
    simpa [invoke] using this
  · obtain ⟨_, h3⟩ := lk_argsFr (ys ++ caps) 0 t z hz
    rw [Nat.sub_zero] at h3
    by_cases ht : t < ys.length
    · rw [List.getElem?_append_left ht] at h3
      have : (args.map a.eval ++ vs).getD t undef = (args.map a.eval).getD t undef := by
        rw [Array.getD_eq_getD_getElem?, Array.getElem?_append_left (by omega), ← Array.getD_eq_getD_getElem?]
      rw [this]
      refine h2 t z ?_
      have key : ∀ (xs : List AV) (q k : Nat) (x : AV), xs[k]? = some x → lk (argsFr q xs) (q + k) = some x := by
        intro xs
        induction xs with
        | nil => intro q k x h; simp at h
        | cons y ys ih =>
          intro q k x hk
          cases k with
          | zero => simp at hk; subst hk; simp [argsFr, lk]
          | succ k =>
            simp at hk
            simp only [argsFr, lk]
            rw [if_neg (by omega)]
            have := ih (q + 1) k x hk
            rwa [show q + 1 + k = q + (k + 1) by omega] at this
      have := key ys 0 t z h3
      rwa [Nat.zero_add] at this
    · rw [List.getElem?_append_right (by omega)] at h3
      have : (args.map a.eval ++ vs).getD t undef = vs.getD (t - ys.length) undef := by
        rw [Array.getD_eq_getD_getElem?, Array.getElem?_append_right (by omega), h1, ← Array.getD_eq_getD_getElem?]
      rw [this]
      exact hcap _ z h3

theorem Enters.iface {f : FuncId} {x : Operand} {name : String} {t : TypeId} {args : Array Operand} {tys : Array TypeId} {z : AV} {ys : List AV} (ho : o.op = .call { callee := .invoke x name, args := args, argTypes := tys }) (hx : evalA fr x = some (.ifc t z)) (hys : args.toList.mapM (evalA fr) = some ys)
    (hm : ∀ v w, (method (P.types.size + Made.depth) t v name).run P w = .ok (f, v) w) (hc : Callable P f) : Enters P o fr f (z :: ys) := fun C a hop => by
  have hopy : ∀ y ∈ args.toList, RepO C fr a y := fun y hy => hop y (by rw [ho]; simp [Op.operands, Call.operands]; exact .inr (by simpa using hy))
  obtain ⟨h1, h2⟩ := args_rep hopy hys
  have hv := rep_eval (hop x (by rw [ho]; simp [Op.operands, Call.operands])) hx
  obtain ⟨v, hvs, hrep⟩ : ∃ v : Value, a.eval x = .iface t v ∧ Rep C z v := by
    generalize a.eval x = u at hv
    match hv with
    | .ifc _ _ v h1 => exact ⟨v, rfl, h1⟩
  refine ⟨#[v] ++ args.map a.eval, fun w => ?_, by simpa [Nat.add_comm] using h1, fun k y hk => ?_⟩
  · have h3 := hc (#[v] ++ args.map a.eval) w
    have h4 := hm v w
    have e1 : (#[Value.iface t v] ++ args.map a.eval)[0]? = some (.iface t v) := by rw [Array.getElem?_append_left (by simp)]; rfl
    have e3 : (args.map a.eval).extract 0 args.size = args.map a.eval := by
      have h5 : args.size = (args.map a.eval).size := by simp
      rw [h5, Array.extract_size]
    have e4 : (#[Value.iface t v] ++ args.map a.eval).extract 1 (#[Value.iface t v] ++ args.map a.eval).size = args.map a.eval := by
      simp [e3]
    have h5 : (invoke (.fn (.method name) #[]) (#[.iface t v] ++ args.map a.eval)).run P w = .ok (.enter f (#[v] ++ args.map a.eval)) w := by
      simp only [invoke, e1, callMethod]
      rw [e4, Sem.run_bind]
      show (Result.andThen (.ok P w) _) = _
      simp only [Result.andThen_ok]
      rw [Sem.run_bind, h4]
      exact h3
    simp only [execOp, ho, resolve, hvs]
    rw [Sem.run_bind]
    exact h5
  · obtain ⟨_, h3⟩ := lk_argsFr (z :: ys) 0 k y hk
    rw [Nat.sub_zero] at h3
    cases k with
    | zero =>
      simp at h3; subst h3
      have : (#[v] ++ args.map a.eval).getD 0 undef = v := by
        rw [Array.getD_eq_getD_getElem?, Array.getElem?_append_left (by simp)]; rfl
      rw [this]; exact hrep
    | succ k =>
      simp at h3
      have : (#[v] ++ args.map a.eval).getD (k + 1) undef = (args.map a.eval).getD k undef := by
        rw [Array.getD_eq_getD_getElem?, Array.getElem?_append_right (by simp), ← Array.getD_eq_getD_getElem?]; simp
      rw [this]
      refine h2 k y ?_
      have key : ∀ (xs : List AV) (q k : Nat) (x : AV), xs[k]? = some x → lk (argsFr q xs) (q + k) = some x := by
        intro xs
        induction xs with
        | nil => intro q k x h; simp at h
        | cons y ys ih =>
          intro q k x hk
          cases k with
          | zero => simp at hk; subst hk; simp [argsFr, lk]
          | succ k =>
            simp at hk
            simp only [argsFr, lk]
            rw [if_neg (by omega)]
            have := ih (q + 1) k x hk
            rwa [show q + 1 + k = q + (k + 1) by omega] at this
      have := key ys 0 k y h3
      rwa [Nat.zero_add] at this

theorem aop_call3E {ok : AV → Prop} {f : FuncId} {ys xs : List AV} {r r' : AV} {Hs Hin Hout H' : Heap} {g m : List (Nat × Nat)} {nw : List Nat} {p : Nat} (he : Enters P o fr f ys)
    (hf : Fun3 P (.pinned W0.w p) f xs Hin r Hout) (h : Pass ok (argsFr 0 ys) (argsFr 0 xs) H Hs Hin Hout H' g m nw p r r') (hl : xs.length = ys.length) : AOp P W0 o fr H r' H' := by
  intro C a hI hH hop K Q hK
  obtain ⟨vals, hrun, h1, h2⟩ := he C a hop
  unfold Oper.wp
  rw [hrun, Oper.upon_enter]
  refine (call3 (W0 := W0) hf rfl rfl h hl hI hH h1 h2 trivial).mono ?_
  rintro e w' ⟨v, C', rfl, rfl, h1, h2, h3, h4⟩
  exact hK v C' h1 h2 h3 h4


end


section
variable {P : Program} {W0 : Base} {fr : Fr} {H : Heap} {o : Oper}
theorem aop_min2 {x y : Operand} {tys : Array TypeId} {a b : Int} (ho : o.op = .call { callee := .builtin .min, args := #[x, y], argTypes := tys }) (hx : evalA fr x = some (i64 a)) (hy : evalA fr y = some (i64 b)) : AOp P W0 o fr H (i64 (Sh.min a b)) H :=
  .of_pure fun C a' _ _ hop => by
    have e1 := rep_toV (v := .int .i64 a) rfl (rep_eval (hop x (by simp [ho, Op.operands, Call.operands])) hx)
    have e2 := rep_toV (v := .int .i64 b) rfl (rep_eval (hop y (by simp [ho, Op.operands, Call.operands])) hy)
    refine ⟨.int .i64 (Sh.min a b), ?_, .imm _ rfl⟩
    obtain ⟨cs, hb⟩ := run_builtin (P := P) ho a'
    rw [hb]
    have e : (#[x, y].map a'.eval) = #[.int .i64 a, .int .i64 b] := by simp [e1, e2]
    rw [e]
    simp [builtin, Builtin.min_, Builtin.min2, Sh.min]
end
end Go.Av
namespace Go.Av
section
variable {H : Heap} {g : List (Nat × Nat)} {nw : List Nat}
theorem See.cl {fn : Fn} {cs cs' : List AV} (h : SeeAll H g nw cs cs') : See H g nw (.clo fn cs) (.clo fn cs') := .clo fn cs cs' h.spec.1 h.spec.2
theorem See.frzA {id i j : Nat} {es fl : List AV} {e : AV} (h1 : H.get id = some es) (h2 : g.all (fun p => p.2 != id) = true) (h3 : es[i]? = some e) (h4 : e.flat = fl) (h5 : ∀ x ∈ fl, NoId x) : See H g nw (.ref id i j) (.pp fl j) :=
  .frz h1 (fun p hp => by have := List.all_eq_true.1 h2 p hp; simpa using this) h3 h4 h5
end
end Go.Av
namespace Go.Av
end Go.Av
namespace Go.Av
theorem See.sm {H : Heap} {g : List (Nat × Nat)} {nw : List Nat} {x : AV} (h : NoId x := by simp) : See H g nw x x := .same x h
theorem Shift.sm {ok : AV → Prop} {n : Nat} {x : AV} (h : ok x := by simp) : Shift ok n x x := .same x h
theorem Ren.sm {m : List (Nat × Nat)} {x : AV} (h : NoId x := by simp) : Ren NoId m x x := .same x h
end Go.Av
namespace Go.Av
theorem dt {p : Prop} [Decidable p] (h : decide p = true := by rfl) : p := of_decide_eq_true h
theorem Weak.e {W0 : Base} {N : Nat} {st : St} {fr' : List (Nat × AV)} {H' : Heap} (hfr : Seen st.H [] [] st.fr fr') (h0 : H'.objs = [] := by rfl) (hpo : pinOk W0.p [] [] H'.next = true := by rfl) (hlp : H'.lps = st.H.lps := by rfl) : Weak W0 N st ⟨fr', H'⟩ :=
  Weak.re [] [] rfl rfl rfl (by rw [h0]; trivial) hfr hpo hlp
end Go.Av
theorem Exists.k {H : Go.Av.Heap} {g : List (Nat × Nat)} {nw : List Nat} {fr : List (Nat × Go.Av.AV)} {t : Nat} {y : Go.Av.AV} (h : Go.Av.lk fr t = some y := by rfl) (hn : Go.Av.NoId y := by simp) : ∃ x, Go.Av.lk fr t = some x ∧ Go.Av.See H g nw x y := ⟨y, h, .same y hn⟩
end

section
/- A call that hands back one new object, whatever the heap is. -/
namespace Go.Av
def fresh1 {α : Type} : List (Nat × α) → Nat → Bool
  | [], _ => true
  | (k, _) :: l, n => decide (k < n) && l.all (fun q => q.1 != k) && fresh1 l n
theorem fresh1_lk {α : Type} : ∀ {l : List (Nat × α)} {n : Nat}, fresh1 l n = true → (∀ x ∈ l, lk l x.1 = some x.2 ∧ x.1 < n)
  | [], _, _, x, hx => by simp at hx
  | (k, v) :: l, n, h, x, hx => by
    simp only [fresh1, Bool.and_eq_true, decide_eq_true_eq] at h
    rcases List.mem_cons.1 hx with e | e
    · subst e; exact ⟨by simp [lk], h.1.1⟩
    · have := fresh1_lk h.2 x e
      have h2 := List.all_eq_true.1 h.1.2 x e
      simp only [bne_iff_ne, ne_eq] at h2
      exact ⟨by simp only [lk]; rw [if_neg (Ne.symm h2)]; exact this.1, this.2⟩
theorem mem_up {α : Type} : ∀ {l : List (Nat × α)} {k : Nat} {v : α} {x : Nat × α}, (∀ y ∈ l, y.1 < k) → x ∈ up l k v → x ∈ l ∨ x = (k, v)
  | [], k, v, x, _, h => by simp [up] at h; exact .inr h
  | (t, u) :: l, k, v, x, hl, h => by
    have ht := hl _ (List.mem_cons_self ..)
    simp only [up] at h
    rw [if_neg (by simp only at ht; omega)] at h
    rcases List.mem_cons.1 h with e | e
    · exact .inl (by rw [e]; exact List.mem_cons_self ..)
    · exact (mem_up (fun y hy => hl y (List.mem_cons_of_mem _ hy)) e).imp (List.mem_cons_of_mem _) id
section
variable {P : Program} {W0 : Base} {fr : Fr} {H : Heap} {o : Oper}
theorem back_all {ok : AV → Prop} {m : List (Nat × Nat)} {Hout : Heap} : ∀ {l : List (Nat × (Nat × List AV))}, (∀ x ∈ l, lk H.objs x.1 = some x.2 ∨ ∃ i es, lk m i = some x.1 ∧ lk Hout.objs i = some (x.2.1, es) ∧ RenL ok m es x.2.2) → Back ok H [] m Hout l
  | [], _ => trivial
  | (_, (_, _)) :: _, h => ⟨(h _ (List.mem_cons_self ..)).imp (fun q => ⟨q, rfl⟩) id, back_all fun x hx => h x (List.mem_cons_of_mem _ hx)⟩
theorem seen_same {H : Heap} {g : List (Nat × Nat)} {nw : List Nat} : ∀ {fr fr0 : List (Nat × AV)}, (∀ x ∈ fr, lk fr0 x.1 = some x.2 ∧ NoId x.2) → Seen H g nw fr0 fr
  | [], _, _ => trivial
  | (_, x) :: _, _, h => ⟨⟨x, (h _ (List.mem_cons_self ..)).1, .same x (h _ (List.mem_cons_self ..)).2⟩, seen_same fun y hy => h y (List.mem_cons_of_mem _ hy)⟩
theorem argsFr_mem : ∀ (ys : List AV) (k : Nat) (x : Nat × AV), x ∈ argsFr k ys → k ≤ x.1 ∧ x.2 ∈ ys ∧ lk (argsFr k ys) x.1 = some x.2
  | [], k, x, h => by simp [argsFr] at h
  | y :: ys, k, x, h => by
    simp only [argsFr] at h ⊢
    rcases List.mem_cons.1 h with e | e
    · subst e; exact ⟨Nat.le_refl _, List.mem_cons_self .., by simp [lk]⟩
    · obtain ⟨h1, h2, h3⟩ := argsFr_mem ys (k + 1) x e
      exact ⟨by omega, List.mem_cons_of_mem _ h2, by simp only [lk]; rw [if_neg (by omega)]; exact h3⟩
theorem aop_newE {f : FuncId} {ys : List AV} {s : Nat} {e : AV} (he : Enters P o fr f ys) (hf : Fun3 P (.pinned W0.w 0) f ys .empty (.ref 0 0 0) ⟨1, [(0, (s, [e]))], []⟩) (hys : ∀ y ∈ ys, NoId y) (hno : ∀ x ∈ e.flat, NoId x)
    (hfr : fresh1 H.objs H.next = true := by rfl) : AOp P W0 o fr H (.ref H.next 0 0) (H.push s [e]) := by
  have hk := fresh1_lk hfr
  refine aop_call3E (ok := NoId) (ys := ys) (xs := ys) (r' := .ref H.next 0 0) (Hs := ⟨H.next, [], []⟩) (H' := H.push s [e]) (g := []) (m := [(0, H.next)]) (nw := []) (p := 0) he hf { next := rfl, part := trivial, inj := rfl, lt := rfl, nwf := rfl, gin := rfl, held := trivial, seen := seen_same fun x hx => ?_, inlps := rfl, ple := rfl, map := ?_, next' := rfl, back := back_all fun x hx => ?_, lps := .inl ⟨rfl, rfl⟩, mode := .inr ⟨fun _ h => h, ?_⟩, ren := .ref rfl } rfl
  · obtain ⟨_, h2, h3⟩ := argsFr_mem ys 0 x hx
    exact ⟨h3, hys _ h2⟩
  · simp [mapOk]
  · rcases mem_up (fun y hy => (hk y hy).2) hx with h | h
    · exact .inl (hk x h).1
    · subst h
      exact .inr ⟨0, [e], rfl, rfl, RenL.same fun e' h' => by
        have : e' = e := by simpa using h'
        subst this; exact hno⟩
  · simp [lk]
end
end Go.Av
end

section
/- An own slice made shorter: the object under a new name. -/
namespace Go.Av
open Go.RowKit (Below)
section
variable {P : Program} {W0 : Base} {C : Ctx} {fr : Fr} {H : Heap} {o : Oper}

theorem cut_object (hI : Inv W0 C) {id s k : Nat} {es : List AV} (hid : C.H.get id = some es) (hs : C.H.sz id = some s) (hk : k ≤ es.length) {v : Value} (hv : Rep C (.view id 0 k) v) :
    ∃ C', C'.w = C.w ∧ Ext C C' ∧ Inv W0 C' ∧ C'.H = (C.H.del id).push s (es.take k) ∧ Rep C' (.view C.H.next 0 k) v := by
  have hv2 : SliceAt (C.pl id) 0 k v ∧ v.oneCell' = true := match hv with | .view _ _ _ _ _ h2 h3 => ⟨h2 es hid, h3⟩
  obtain ⟨hv1, hone⟩ := hv2
  have hE : Ext C ((C.del id).push ⟨(C.pl id).blk, s, k, (C.pl id).cap, (C.pl id).nil⟩ (es.take k)) := ext_push (C := C.del id) (ext_del id) _ _ (fun hn => .inr (.inl ⟨id, es, hid, hn, rfl⟩))
  refine ⟨(C.del id).push ⟨(C.pl id).blk, s, k, (C.pl id).cap, (C.pl id).nil⟩ (es.take k), rfl, hE, ?_, rfl, ?_⟩
  · refine (hI.del id).push _ _ (fun hn => ?_) (fun hn => ⟨?_, hI.prot id es hid hn, ?_⟩) (fun q e' hq hn => ?_) (fun hn => ?_) (W0.st C _ hE.mem hI.pinlt hI.gh)
    · have := hI.nil id es hid hn
      rw [this]; simp
    · obtain ⟨arr, el, harr, _⟩ := (hI.obj id es hid hn).blk
      rintro (⟨q, e', h1, h2, h3⟩ | h)
      · have h1' := h1
        simp only [Ctx.del, Heap.get_del] at h1'
        split at h1'
        · cases h1'
        · rename_i hne
          exact hne (hI.sep q id e' es h1' hid h2 hn h3)
      · exact hI.sp_ne h harr
    · rcases Nat.lt_or_ge (C.pl id).blk W0.w.heap.size with h | h
      · exact absurd (.inl ⟨id, es, hid, hn, rfl⟩) (hI.glob _ h).2
      · exact h
    · simp only [Ctx.del, Heap.get_del] at hq
      split at hq
      · cases hq
      · exact (hI.obj q e' hq hn).ext hE rfl
    · have hO := hI.obj id es hid hn
      have hsz := hI.szok id s hs hn
      have hnn := hO.n
      refine ⟨by simp; omega, by show k ≤ (C.pl id).cap; have := hO.cap; omega, ?_, hO.one, fun i e he => ?_, fun i j e x u h1 h2 h3 => ?_⟩
      · obtain ⟨arr, el, h1, h2⟩ := hO.blk
        exact ⟨arr, el, h1, by rw [hsz] at h2; exact h2⟩
      · rw [List.getElem?_take] at he
        split at he
        · rw [← hsz]; exact hO.flat i e he
        · cases he
      · rw [List.getElem?_take] at h1
        split at h1
        · have := hO.cell i j e x u h1 h2
          rw [hsz] at this
          exact (this h3).ext hE
        · cases h1
  · refine rep_view_push (C := C.del id) ?_ hone
    unfold SliceAt at *
    split at hv1
    · rename_i hn
      rw [if_pos hn]; exact hv1
    · rename_i hn
      have hn' : (C.pl id).nil = false := by simpa using hn
      rw [if_neg hn]
      have hsz := hI.szok id s hs hn'
      obtain ⟨A, cap, h1, h2, h3, h4, h5⟩ := hv1
      refine ⟨A, cap, h1, by simp, h3, h4, h5.imp (fun h => h) fun h => ?_⟩
      rw [h, hsz]
theorem AOp.cut {id s k : Nat} {es : List AV} (h : AOp P W0 o fr H (.view id 0 k) H) (hid : H.get id = some es) (hs : H.sz id = some s) (hk : k ≤ es.length) : AOp P W0 o fr H (.view H.next 0 k) ((H.del id).push s (es.take k)) := by
  intro C a hI hH hop K Q hK
  refine h C a hI hH hop K Q (fun v C' h1 h2 h3 h4 => ?_)
  obtain ⟨C2, q1, q2, q3, q4, q5⟩ := cut_object h2 (by rw [h3]; exact hid) (by rw [h3]; exact hs) hk h4
  rw [← q1]
  rw [h3] at q4 q5
  exact hK v C2 (h1.trans q2) q3 q4 q5
theorem t_cut {α : Type} {t e : TypeId} {s by' id n : Nat} {xo yo : Operand} {kb : IntKind} {b : Int} (enc : α → AV) (l L : List α) (hL : Sh.sub l 0 b = some L) (hn : n = (l.map enc).length) (hfl : ∀ x : α, (enc x).flat.length = s) (ho : o.op = .slice t xo none (some yo) none) (hx : evalA fr xo = some (.view id 0 n)) (hid : H.get id = some (l.map enc)) (hs : H.sz id = some s)
    (hy : evalA fr yo = some (.imm (.int kb b))) (ht : elT P t = some (e, s, by')) : AOp P W0 o fr H (.view H.next 0 (L.map enc).length) ((H.del id).push s (L.map enc)) := by
  subst hn
  obtain ⟨m, k, h0, rfl, _, h2, rfl⟩ := Sh.sub_some hL
  have hm : m = 0 := by omega
  subst hm
  have hb : optNat fr (some yo) (l.map enc).length = some k := by simp [optNat, hy]
  have h1 := aop_slice_view (P := P) (W0 := W0) (o := o) (fr := fr) (H := H) ho hx hid ht (l := 0) rfl hb (Nat.zero_le _) (by simpa using h2) (flat_map hfl l)
  rw [Nat.zero_add, Nat.sub_zero] at h1
  have h3 := h1.cut hid hs (by simpa using h2)
  rw [← List.map_take] at h3
  have hl : k = ((l.take k).map enc).length := by simp; omega
  simp only [List.drop_zero, Nat.sub_zero]
  rw [← hl]
  exact h3
end
end Go.Av
end

section
/- What an operation makes, some of it given up at once. -/
namespace Go.Av
section
variable {P : Program} {W0 : Base} {fr : Fr} {H : Heap} {o : Oper}
theorem AOp.re {r r' : AV} {H1 H2 : Heap} (h : AOp P W0 o fr H r H1) (g : List (Nat × Nat)) (hs : See H1 g [] r r') (hH : Held H1 g [] H2.next H2.objs) (hid : g.all (fun p => p.1 == p.2) = true := by rfl) (hnext : H1.next ≤ H2.next := by exact Nat.le_refl _)
    (hinj : g.all (fun p => g.all (fun q => p.2 != q.2 || p.1 == q.1)) = true := by rfl) (hlt : g.all (fun p => decide (p.1 < H2.next)) = true := by rfl) (hpo : pinOk W0.p g [] H2.next = true := by rfl) (hlp : H2.lps = H1.lps := by rfl) : AOp P W0 o fr H r' H2 := by
  intro C a hI hCH hop K Q hK
  refine h C a hI hCH hop K Q (fun v C1 h1 h2 h3 h4 => ?_)
  have hr : Rel W0 1 (lk [(0, r)]) H1 C1 { a with tmps := #[v], defers := (C1.dfs.map fun d => { target := .collected d, args := #[] }) ++ W0.dx } := ⟨h3, h2, rfl, rfl, fun t x hx => by
    simp only [lk] at hx
    split at hx
    · rename_i ht; subst ht; cases hx; exact h4
    · cases hx⟩
  obtain ⟨hM, hR⟩ := re_rel (st := ⟨[(0, r)], H1⟩) (fr' := [(0, r')]) (H' := H2) g [] hinj hlt rfl hH ⟨⟨r, rfl, hs⟩, trivial⟩ hpo hlp hr
  refine hK v (C1.re g H2) (h1.trans ?_) hR.inv rfl (hR.rep 0 r' rfl)
  refine ⟨hM.below, hM.keep, hM.own, by rw [h3]; exact hnext, fun id es' hlt' hg => ?_, rfl, rfl, rfl⟩
  simp only [Ctx.re, Heap.get, Option.map_eq_some_iff] at hg
  obtain ⟨⟨s, e⟩, hq, rfl⟩ := hg
  obtain ⟨h5, _⟩ := hH.spec hq
  rcases h5 with ⟨old, es, q1, q2, _⟩ | ⟨q, _⟩
  · have := List.all_eq_true.1 hid _ (lk_mem q1)
    simp only [beq_iff_eq] at this
    subst this
    refine ⟨⟨es, ?_⟩, ?_⟩
    · rw [h3]; simp only [Heap.get, q2, Option.map_some]
    · show (match lk g id with | some old => C1.pl old | none => _) = _
      rw [q1]
  · cases q
end
end Go.Av
end

section
/- A family of objects, as many as a list is long: the rows of a slice of slices that is the proof's own. -/
namespace Go.Av
section
variable {α : Type}
def fam (enc : α → AV) (sz : Nat) : Nat → List (List α) → List (Nat × (Nat × List AV))
  | _, [] => []
  | M, l :: L => (M, (sz, l.map enc)) :: fam enc sz (M + 1) L
def famV (enc : α → AV) : Nat → List (List α) → List AV
  | _, [] => []
  | M, l :: L => .view M 0 (l.map enc).length :: famV enc (M + 1) L
@[simp] theorem famV_len (enc : α → AV) : ∀ (L : List (List α)) (M : Nat), (famV enc M L).length = L.length
  | [], _ => rfl
  | _ :: L, M => by simp [famV, famV_len enc L]
theorem famV_get (enc : α → AV) : ∀ (L : List (List α)) (M i : Nat), (famV enc M L)[i]? = L[i]?.map fun l => .view (M + i) 0 (l.map enc).length
  | [], _, i => by simp [famV]
  | l :: L, M, 0 => by simp [famV]
  | l :: L, M, i + 1 => by simp only [famV, List.getElem?_cons_succ, famV_get enc L]; rw [Nat.add_assoc, Nat.add_comm 1 i]
theorem lk_fam (enc : α → AV) (sz : Nat) : ∀ (L : List (List α)) (M k : Nat), lk (fam enc sz M L) k = if M ≤ k then L[k - M]?.map fun l => (sz, l.map enc) else none
  | [], M, k => by simp [fam, lk]
  | l :: L, M, k => by
    simp only [fam, lk]
    by_cases h : M = k
    · subst h; simp
    · rw [if_neg h, lk_fam enc sz L]
      by_cases h1 : M ≤ k
      · have h2 : M + 1 ≤ k := by omega
        rw [if_pos h1, if_pos h2]
        have : k - M = (k - (M + 1)) + 1 := by omega
        rw [this, List.getElem?_cons_succ]
      · rw [if_neg h1, if_neg (by omega)]
abbrev famH (F : List (Nat × (Nat × List AV))) (enc : α → AV) (sz M : Nat) (L : List (List α)) : Heap := ⟨M + L.length, F ++ fam enc sz M L, []⟩
theorem low_lt {F : List (Nat × (Nat × List AV))} {M : Nat} (hF : F.all (fun p => decide (p.1 < M)) = true) {k : Nat} {x : Nat × List AV} (h : lk F k = some x) : k < M := by simpa using List.all_eq_true.1 hF _ (lk_mem h)
theorem lk_famH {F : List (Nat × (Nat × List AV))} {enc : α → AV} {sz M : Nat} {L : List (List α)} (hF : F.all (fun p => decide (p.1 < M)) = true) {i : Nat} {l : List α} (h : L[i]? = some l) : lk (F ++ fam enc sz M L) (M + i) = some (sz, l.map enc) := by
  rw [lk_append]
  have h0 : lk F (M + i) = none := by
    cases hc : lk F (M + i) with
    | none => rfl
    | some v => have := low_lt hF hc; omega
  rw [h0, lk_fam, if_pos (Nat.le_add_right _ _), Nat.add_sub_cancel_left, h]; rfl
theorem lk_famL {F : List (Nat × (Nat × List AV))} {enc : α → AV} {sz M : Nat} {L : List (List α)} {k : Nat} (hk : k < M) : lk (F ++ fam enc sz M L) k = lk F k := by
  rw [lk_append, lk_fam, if_neg (by omega)]
  cases lk F k <;> rfl

def famG (gr : Nat → Option Nat) (M : Nat) : Nat → Nat → List (Nat × Nat)
  | _, 0 => []
  | i, n + 1 => match gr i with
    | some o => (M + i, o) :: famG gr M (i + 1) n
    | none => famG gr M (i + 1) n
def famN (gr : Nat → Option Nat) (M : Nat) : Nat → Nat → List Nat
  | _, 0 => []
  | i, n + 1 => match gr i with
    | some _ => famN gr M (i + 1) n
    | none => (M + i) :: famN gr M (i + 1) n
theorem mem_famG {gr : Nat → Option Nat} {M : Nat} : ∀ {n i : Nat} {p : Nat × Nat}, p ∈ famG gr M i n ↔ ∃ j o, i ≤ j ∧ j < i + n ∧ gr j = some o ∧ p = (M + j, o)
  | 0, i, p => by simp [famG]; intro j h1 h2; omega
  | n + 1, i, p => by
    unfold famG
    cases hg : gr i with
    | none =>
      simp only [mem_famG (n := n)]
      constructor
      · rintro ⟨j, o, h1, h2, h3⟩; exact ⟨j, o, by omega, by omega, h3⟩
      · rintro ⟨j, o, h1, h2, h3, h4⟩
        by_cases h : j = i
        · subst h; rw [hg] at h3; cases h3
        · exact ⟨j, o, by omega, by omega, h3, h4⟩
    | some o =>
      simp only [List.mem_cons, mem_famG (n := n)]
      constructor
      · rintro (h | ⟨j, o, h1, h2, h3⟩)
        · exact ⟨i, o, Nat.le_refl _, by omega, hg, h⟩
        · exact ⟨j, o, by omega, by omega, h3⟩
      · rintro ⟨j, o', h1, h2, h3, h4⟩
        by_cases h : j = i
        · subst h; rw [hg] at h3; cases h3; exact .inl h4
        · exact .inr ⟨j, o', by omega, by omega, h3, h4⟩
theorem mem_famN {gr : Nat → Option Nat} {M : Nat} : ∀ {n i k : Nat}, k ∈ famN gr M i n ↔ ∃ j, i ≤ j ∧ j < i + n ∧ gr j = none ∧ k = M + j
  | 0, i, p => by simp [famN]; intro j h1 h2; omega
  | n + 1, i, p => by
    unfold famN
    cases hg : gr i with
    | some o =>
      simp only [mem_famN (n := n)]
      constructor
      · rintro ⟨j, h1, h2, h3⟩; exact ⟨j, by omega, by omega, h3⟩
      · rintro ⟨j, h1, h2, h3, h4⟩
        by_cases h : j = i
        · subst h; rw [hg] at h3; cases h3
        · exact ⟨j, by omega, by omega, h3, h4⟩
    | none =>
      simp only [List.mem_cons, mem_famN (n := n)]
      constructor
      · rintro (h | ⟨j, h1, h2, h3⟩)
        · exact ⟨i, Nat.le_refl _, by omega, hg, h⟩
        · exact ⟨j, by omega, by omega, h3⟩
      · rintro ⟨j, h1, h2, h3, h4⟩
        by_cases h : j = i
        · subst h; exact .inl h4
        · exact .inr ⟨j, by omega, by omega, h3, h4⟩
theorem lk_famG {gr : Nat → Option Nat} {M : Nat} : ∀ {n i j : Nat}, i ≤ j → j < i + n → lk (famG gr M i n) (M + j) = gr j
  | 0, i, j, h1, h2 => by omega
  | n + 1, i, j, h1, h2 => by
    unfold famG
    by_cases h : j = i
    · subst h
      cases hg : gr j with
      | some o => simp [lk]
      | none =>
        cases hc : lk (famG gr M (j + 1) n) (M + j) with
        | none => rfl
        | some v =>
          obtain ⟨k, o, k1, _, _, k2⟩ := mem_famG.1 (lk_mem hc)
          simp only [Prod.mk.injEq] at k2
          omega
    · cases hg : gr i with
      | some o => simp only [lk]; rw [if_neg (by omega), lk_famG (n := n) (by omega) (by omega)]
      | none => simp only; rw [lk_famG (n := n) (by omega) (by omega)]
theorem Held.append {H : Heap} {g : List (Nat × Nat)} {nw : List Nat} {next : Nat} : ∀ {l m : List (Nat × (Nat × List AV))}, Held H g nw next l → Held H g nw next m → Held H g nw next (l ++ m)
  | [], _, _, h => h
  | _ :: _, _, h1, h2 => ⟨h1.1, h1.2.1, Held.append h1.2.2 h2⟩
theorem Held.rows {H : Heap} {g : List (Nat × Nat)} {nw : List Nat} {next sz : Nat} {enc : α → AV} (hno : ∀ x, NoId (enc x)) : ∀ (L : List (List α)) (M : Nat), (∀ i l, L[i]? = some l → (∃ o, lk g (M + i) = some o ∧ lk H.objs o = some (sz, l.map enc)) ∨ (M + i ∈ nw ∧ l = [])) → M + L.length ≤ next → Held H g nw next (fam enc sz M L)
  | [], M, _, _ => trivial
  | l :: L, M, h, hn => by
    simp only [List.length_cons] at hn
    refine ⟨?_, by omega, Held.rows hno L (M + 1) (fun i l' hi => ?_) (by omega)⟩
    · rcases h 0 l rfl with ⟨o, h1, h2⟩ | ⟨h1, h2⟩
      · rw [Nat.add_zero] at h1
        refine .inl ⟨_, _, h1, h2, .same fun e he => ?_⟩
        obtain ⟨x, _, rfl⟩ := List.mem_map.1 he; exact hno x
      · exact .inr ⟨h1, by rw [h2]; rfl⟩
    · have := h (i + 1) l' (by simpa using hi)
      rwa [show M + (i + 1) = M + 1 + i by omega] at this
theorem seeL_rows {H : Heap} {g0 : List (Nat × Nat)} {gr : Nat → Option Nat} {M : Nat} {enc : α → AV} {L : List (List α)} {es : List AV} (hg0 : g0.all (fun p => decide (p.1 < M)) = true) (hl : es.length = L.length)
    (h : ∀ i l, L[i]? = some l → (∃ o, gr i = some o ∧ es[i]? = some (.view o 0 (l.map enc).length)) ∨ (gr i = none ∧ es[i]? = some nilS ∧ l = [])) : SeeL H (g0 ++ famG gr M 0 L.length) (famN gr M 0 L.length) es (famV enc M L) :=
  ⟨by simp [hl], fun k e e' h1 h2 => by
    rw [famV_get] at h2
    simp only [Option.map_eq_some_iff] at h2
    obtain ⟨l, h2, rfl⟩ := h2
    have hk : k < L.length := (List.getElem?_eq_some_iff.1 h2).1
    have hlk : lk (g0 ++ famG gr M 0 L.length) (M + k) = gr k := by
      rw [lk_append]
      have : lk g0 (M + k) = none := by
        cases hc : lk g0 (M + k) with
        | none => rfl
        | some v =>
          have := List.all_eq_true.1 hg0 _ (lk_mem hc)
          simp only [decide_eq_true_eq] at this
          omega
      rw [this]; exact lk_famG (Nat.zero_le _) (by omega)
    rcases h k l h2 with ⟨o, h3, h4⟩ | ⟨h3, h4, h5⟩
    · rw [h1] at h4; cases h4
      exact ⟨.view (hlk.trans h3), rfl⟩
    · rw [h1] at h4; cases h4
      subst h5
      exact ⟨.nil (mem_famN.2 ⟨k, Nat.zero_le _, by omega, h3, rfl⟩), rfl⟩⟩
theorem Weak.rows {W0 : Base} {N : Nat} {st : St} {fr' : List (Nat × AV)} {F' : List (Nat × (Nat × List AV))} (g0 : List (Nat × Nat)) {M sz : Nat} {enc : α → AV} (L : List (List α)) (gr : Nat → Option Nat) (hno : ∀ x, NoId (enc x))
    (hrow : ∀ i l, L[i]? = some l → (∃ o, gr i = some o ∧ lk st.H.objs o = some (sz, l.map enc)) ∨ (gr i = none ∧ l = []))
    (hinj : ∀ i j o, i < L.length → j < L.length → gr i = some o → gr j = some o → i = j)
    (hdis : ∀ i o, i < L.length → gr i = some o → ∀ p ∈ g0, p.2 ≠ o)
    (hfront : Held st.H (g0 ++ famG gr M 0 L.length) (famN gr M 0 L.length) (M + L.length) F')
    (hfr : Seen st.H (g0 ++ famG gr M 0 L.length) (famN gr M 0 L.length) st.fr fr')
    (hg0 : g0.all (fun p => decide (p.1 < M)) = true := by rfl) (hinj0 : g0.all (fun p => g0.all (fun q => p.2 != q.2 || p.1 == q.1)) = true := by rfl) (hp : W0.p = 0 := by rfl) (hlp : st.H.lps = [] := by rfl) :
    Weak W0 N st ⟨fr', ⟨M + L.length, F' ++ fam enc sz M L, []⟩⟩ := by
  have hlt0 : ∀ p ∈ g0, p.1 < M := fun p hp => by simpa using List.all_eq_true.1 hg0 p hp
  have hno0 : ∀ i, lk g0 (M + i) = none := fun i => by
    cases hc : lk g0 (M + i) with
    | none => rfl
    | some v => have := hlt0 _ (lk_mem hc); simp only at this; omega
  have hlk : ∀ i, i < L.length → lk (g0 ++ famG gr M 0 L.length) (M + i) = gr i := fun i hi => by
    rw [lk_append, hno0]; exact lk_famG (Nat.zero_le _) (by omega)
  refine Weak.re (H' := ⟨M + L.length, F' ++ fam enc sz M L, []⟩) (g0 ++ famG gr M 0 L.length) (famN gr M 0 L.length) ?_ ?_ ?_ (Held.append hfront (Held.rows hno L M (fun i l hi => ?_) (Nat.le_refl _))) hfr ?_ hlp.symm
  · rw [List.all_eq_true]
    intro p hp'
    rw [List.all_eq_true]
    intro q hq
    simp only [Bool.or_eq_true, bne_iff_ne, ne_eq, beq_iff_eq]
    rcases List.mem_append.1 hp' with h1 | h1 <;> rcases List.mem_append.1 hq with h2 | h2
    · simpa using List.all_eq_true.1 (List.all_eq_true.1 hinj0 p h1) q h2
    · obtain ⟨j, o, _, hj, ho, rfl⟩ := mem_famG.1 h2
      exact .inl (hdis j o (by omega) ho p h1)
    · obtain ⟨j, o, _, hj, ho, rfl⟩ := mem_famG.1 h1
      exact .inl (fun h => hdis j o (by omega) ho q h2 h.symm)
    · obtain ⟨i, o, _, hi, ho, rfl⟩ := mem_famG.1 h1
      obtain ⟨j, o', _, hj, ho', rfl⟩ := mem_famG.1 h2
      by_cases h : o = o'
      · subst h; exact .inr (by rw [hinj i j o (by omega) (by omega) ho ho'])
      · exact .inl h
  · rw [List.all_eq_true]
    intro p hp'
    simp only [decide_eq_true_eq]
    rcases List.mem_append.1 hp' with h1 | h1
    · have := hlt0 p h1; omega
    · obtain ⟨j, o, _, hj, _, rfl⟩ := mem_famG.1 h1
      show M + j < M + L.length
      omega
  · rw [List.all_eq_true]
    intro k hk
    obtain ⟨j, _, hj, hn, rfl⟩ := mem_famN.1 hk
    rw [hlk j (by omega), hn]
    simp; omega
  · have hi' : i < L.length := (List.getElem?_eq_some_iff.1 hi).1
    rcases hrow i l hi with ⟨o, h1, h2⟩ | ⟨h1, h2⟩
    · exact .inl ⟨o, (hlk i hi').trans h1, h2⟩
    · exact .inr ⟨mem_famN.2 ⟨i, Nat.zero_le _, by omega, h1, rfl⟩, h2⟩
  · rw [hp]; simp [pinOk]

theorem Weak.newRow {W0 : Base} {N : Nat} {fr fr' : List (Nat × AV)} {F F' : List (Nat × (Nat × List AV))} (g0 : List (Nat × Nat)) {M sz oid : Nat} {enc : α → AV} {L : List (List α)} (L2 : List (List α)) (h2 : L2 = L ++ [[]]) (hno : ∀ x, NoId (enc x)) (ho : lk F oid = some (1, famV enc M L))
    (hfront : ∀ (H : Heap) (g : List (Nat × Nat)) (nw : List Nat), (∀ n, n < M → lk g n = lk g0 n) → (∀ n x, n ≠ oid → lk F n = some x → lk H.objs n = some x) →
      ∀ es, lk H.objs (M + L.length) = some (1, es) → SeeL H g nw es (famV enc M L2) → Held H g nw (M + L2.length) F' ∧ Seen H g nw fr fr')
    (hF : F.all (fun p => decide (p.1 < M)) = true := by rfl) (hg0 : g0.all (fun p => decide (p.1 < M)) = true := by rfl) (hg2 : ∀ p ∈ g0, p.2 < M ∨ p.2 = M + L.length := by simp) (hinj0 : g0.all (fun p => g0.all (fun q => p.2 != q.2 || p.1 == q.1)) = true := by simp) (hp : W0.p = 0 := by rfl) :
    Weak W0 N ⟨fr, (((famH F enc sz M L).del oid).push 1 (famV enc M L ++ [nilS]))⟩ ⟨fr', famH F' enc sz M L2⟩ := by
  subst h2
  have hoM := low_lt hF ho
  have hlk : ∀ n, lk ((((famH F enc sz M L).del oid).push 1 (famV enc M L ++ [nilS]))).objs n = if n = M + L.length then some (1, famV enc M L ++ [nilS]) else if n = oid then none else lk (F ++ fam enc sz M L) n := fun n => by
    simp only [Heap.push, Heap.del, lk_up, lk_del]
  let gr : Nat → Option Nat := fun i => if i < L.length then some (M + i) else none
  have hsee := seeL_rows (H := (((famH F enc sz M L).del oid).push 1 (famV enc M L ++ [nilS]))) (g0 := g0) (gr := gr) (M := M) (enc := enc) (L := L ++ [[]]) (es := famV enc M L ++ [nilS]) hg0 (by simp) (fun i l2 hi => by
    rw [List.getElem?_append] at hi ⊢
    rw [famV_len]
    by_cases hik : i < L.length
    · rw [if_pos hik] at hi ⊢
      rw [famV_get, hi]
      exact .inl ⟨M + i, if_pos hik, rfl⟩
    · rw [if_neg hik] at hi ⊢
      have h0 : i - L.length = 0 := by
        have := (List.getElem?_eq_some_iff.1 hi).1
        simp at this; omega
      rw [h0] at hi ⊢
      simp at hi
      exact .inr ⟨if_neg hik, rfl, hi⟩)
  obtain ⟨hf1, hf2⟩ := hfront (((famH F enc sz M L).del oid).push 1 (famV enc M L ++ [nilS])) (g0 ++ famG gr M 0 (L ++ [[]]).length) (famN gr M 0 (L ++ [[]]).length) (fun n hn => by
      rw [lk_append]
      cases hc : lk g0 n with
      | some v => rfl
      | none =>
        cases hc2 : lk (famG gr M 0 (L ++ [[]]).length) n with
        | none => rfl
        | some v =>
          obtain ⟨j, o, _, _, _, h5⟩ := mem_famG.1 (lk_mem hc2)
          simp only [Prod.mk.injEq] at h5
          omega) (fun n x hn hx => by
      have := low_lt hF hx
      rw [hlk, if_neg (by omega), if_neg hn, lk_famL this, hx]) _ (by rw [hlk, if_pos rfl]) hsee
  refine Weak.rows g0 (L ++ [[]]) gr hno (fun i l2 hi => ?_) (fun i j o hi hj h1 h2 => ?_) (fun i o hi h1 p hp' => ?_) hf1 hf2 hg0 hinj0 hp rfl
  · rw [List.getElem?_append] at hi
    by_cases hik : i < L.length
    · rw [if_pos hik] at hi
      refine .inl ⟨M + i, if_pos hik, ?_⟩
      rw [hlk, if_neg (by omega), if_neg (by omega)]
      exact lk_famH hF hi
    · rw [if_neg hik] at hi
      have := List.mem_of_getElem? hi
      simp at this
      exact .inr ⟨if_neg hik, this⟩
  · simp only [gr] at h1 h2
    split at h1 <;> split at h2
    · rw [Option.some.injEq] at h1 h2; omega
    · cases h2
    · cases h1
    · cases h1
  · simp only [gr] at h1
    split at h1
    · cases h1
      rcases hg2 p hp' with k | k <;> omega
    · cases h1
end

section
variable {P : Program} {W0 : Base} {fr : Fr} {H : Heap} {o : Oper} {α : Type} {i : Int} {x : List α} {ki : IntKind}
end
end Go.Av
end

section
/- Calls that panic, and what takes the panic back. -/
namespace Go.Av
open Go.RowKit (Below)

section
variable {P : Program} {W0 : Base} {C : Ctx} {fr : Fr} {a : Act} {H : Heap} {o : Oper} {N : Nat} {ops : Array Oper} {Q : Exit → St → Prop}


@[reducible] def Base.off (W : World) (p : Nat) (ds : List Deferred) : Base := ⟨W, p, none, fun _ => True, fun _ _ _ _ _ => trivial, ds⟩

theorem Inv.off {W : World} {B : Base} (hI : Inv B C) (hB : B.w = W) (p : Nat) (ds : List Deferred) (hle : p ≤ C.H.next) : Inv (.off W p ds) { C with pin := p } where
  fresh := hI.fresh
  nil := hI.nil
  obj id es h hn := by
    have hO := hI.obj id es h hn
    exact ⟨hO.n, hO.cap, hO.blk, hO.one, hO.flat, fun i j e x v h1 h2 h3 => (hO.cell i j e x v h1 h2 h3).sub rfl (Nat.le_refl _) (fun id es _ h => ⟨es, h⟩) (fun _ _ => rfl) (fun b h => h)⟩
  sep := hI.sep
  prot := hI.prot
  szok := hI.szok
  protlt := hI.protlt
  protge b h := by subst hB; exact hI.protge b h
  size := by subst hB; exact hI.size
  glob b h := by subst hB; exact hI.glob b h
  lps := hI.lps
  dfs := hI.dfs
  dnd := hI.dnd
  rod _ h := by cases h
  spprot := hI.spprot
  pinB := rfl
  pinlt := hle
  gh := trivial

theorem Inv.dx {W : World} {p : Nat} {ds ds' : List Deferred} (h : Inv (.off W p ds) C) : Inv (.off W p ds') C :=
  ⟨h.fresh, h.nil, h.obj, h.sep, h.prot, h.szok, h.protlt, h.protge, h.size, h.glob, h.lps, h.dfs, h.dnd, h.rod, h.spprot, h.pinB, h.pinlt, h.gh⟩
theorem Inv.on {W : World} {p : Nat} {ds : List Deferred} (h : Inv (.off W p ds) C) : Inv (.of W) { C with pin := 0 } :=
  have k := h.off (W := W) rfl 0 [] (Nat.zero_le _)
  ⟨k.fresh, k.nil, k.obj, k.sep, k.prot, k.szok, k.protlt, k.protge, k.size, k.glob, k.lps, k.dfs, k.dnd, k.rod, k.spprot, k.pinB, k.pinlt, k.gh⟩

end
end Go.Av
end

section
/- Rows of numbers sorted by their first ones: what the library's function does, in the words of the walks. -/
namespace Go.Av
open Go.Proofs Go.Shelf Go.Lib

theorem first_lt (x y : Int) : decide (compareInt x y < 0) = decide (x < y) := by
  unfold compareInt
  by_cases h1 : x < y
  · simp [h1]
  · by_cases h2 : y < x <;> simp [h1, h2]
theorem sortFirst_of {P : Program} {f g : FuncId} (call : Callable P f) (no : ∀ (p : Option Addr) (cap : Nat) (fv : Value) (w : World), Calls P f #[.slice p 0 cap, fv] w fun e w' => e = .returned (.tuple #[]) ∧ w' = w)
    (is : ∀ (m : Nat) (v : Fin (m + 1) → Value) (k : Fin (m + 1) → Int) (blk off cap : Nat) (d : Array (Fin (m + 1))) (w : World), OneCell v → (∀ args w, (callFunc g args).run P w = .ok (.enter g args) w) → CmpLays1 P g #[] v (fun i j => compareInt (k i) (k j)) blk off d.size w → Sort.Holds v w blk off d → blk < w.heap.size → d.size < 4611686018427387904 →
      Sort.SWO (ltOf fun i j => compareInt (k i) (k j)) → (∀ x y, (ltOf fun i j => compareInt (k i) (k j)) x y = false → (ltOf fun i j => compareInt (k i) (k j)) y x = false → x = y) →
      Calls P f #[.slice (some ⟨blk, off, none⟩) d.size cap, .func (.func g) #[] #[]] w fun e w' => e = .returned (.tuple #[]) ∧ ∃ n os, w' = sortWorld v w blk off n (d.toList.mergeSort fun x y => !(ltOf fun i j => compareInt (k i) (k j)) y x).toArray os)
    (eg : ∀ args w, (callFunc g args).run P w = .ok (.enter g args) w)
    (cl : ∀ (b1 o1 l1 c1 b2 o2 l2 c2 : Nat) (x1 x2 : Int) (W : World), 0 < l1 → 0 < l2 → W.cell? ⟨b1, o1, none⟩ = some (.int .i64 x1) → W.cell? ⟨b2, o2, none⟩ = some (.int .i64 x2) → Calls P g #[.slice (some ⟨b1, o1, none⟩) l1 c1, .slice (some ⟨b2, o2, none⟩) l2 c2] W fun e w' => e = .returned (.int .i64 (compareInt x1 x2)) ∧ ∃ q os', w' = Sort.grow (W.drewN q) os') : SortFirstFn P f g where
  call := call
  no := fun p cap w => no p cap _ w
  is blk off cap m v k w h1 hk hrow hH hblk hsz := by
    have hlt : ∀ i j, (ltOf fun i j => compareInt (k i) (k j)) i j = decide (k i < k j) := fun i j => first_lt (k i) (k j)
    have hcell : ∀ (b o : Nat) (m' : Nat) (os : Array Obj) (dk : Array (Fin (m + 1))) (x : Value), b ≠ blk → b < w.heap.size → w.cell? ⟨b, o, none⟩ = some x → (sortWorld v w blk off m' dk os).cell? ⟨b, o, none⟩ = some x := fun b o m' os dk x hb hbs hx => by
      rw [← hx]
      refine World.cell?_of_block (a := ⟨b, o, none⟩) ?_
      unfold sortWorld
      rw [Sort.heap_grow_old _ _ (by simpa [Sort.putRow, Sort.mapBlock, Sort.ahead] using hbs)]
      simp [Sort.putRow, Sort.mapBlock, Sort.ahead, Array.getElem?_modify, Ne.symm hb]
    have h := is m v k blk off cap (List.finRange (m + 1)).toArray w h1 eg (fun m' os dk _ x y => by
      obtain ⟨b1, o1, l1, c1, e1, p1, q1, r1, s1⟩ := hrow x
      obtain ⟨b2, o2, l2, c2, e2, p2, q2, r2, s2⟩ := hrow y
      rw [e1, e2]
      exact cl b1 o1 l1 c1 b2 o2 l2 c2 (k x) (k y) _ p1 p2 (hcell _ _ _ _ _ _ q1 r1 s1) (hcell _ _ _ _ _ _ q2 r2 s2)) hH hblk (by simpa using hsz)
      ⟨fun x => by rw [hlt]; simp, fun x y z a b => by rw [hlt] at *; simp at *; omega, fun x y z a b => by rw [hlt] at *; simp at *; omega⟩
      (fun x y a b => by rw [hlt] at a b; simp at a b; exact hk x y (by omega))
    have hsize : (List.finRange (m + 1)).toArray.size = m + 1 := by simp
    rw [hsize] at h
    refine h.mono ?_
    rintro e w' ⟨rfl, n, os, rfl⟩
    refine ⟨rfl, n, os, _, List.mergeSort_perm _ _, ?_, rfl⟩
    have hp := List.pairwise_mergeSort (le := fun x y => !(ltOf fun i j => compareInt (k i) (k j)) y x) (fun a b c h1 h2 => by simp only [hlt] at *; simp at *; omega) (fun a b => by simp only [hlt]; simp; omega) (List.finRange (m + 1))
    exact hp.imp fun {a b} hab => by simp only [hlt] at hab; simpa using hab
end Go.Av
end

section
/- From the reading of a claim's arguments to what the proof sees of them; and from what a law's function does to what its row asks. -/
namespace Go.Av
open Go.RowKit (Below)

mutual
def avOf {H : Type} : DataW H → AV
  | .lit (.bool b) => .imm (.bool b)
  | .lit (.int k n) => .imm (.int k n)
  | .lit (.string bs) => .imm (.string ⟨bs.toArray⟩)
  | .nil => .sl []
  | .slice es _ => .sl (avAll es)
  | .agg ps => .agg (cellsAll ps)
  | _ => .any
def avAll {H : Type} : List (DataW H) → List AV
  | [] => []
  | d :: r => avOf d :: avAll r
def cellsAll {H : Type} : List (DataW H) → List AV
  | [] => []
  | d :: r => (avOf d).flat ++ cellsAll r
end

theorem avAll_map {H : Type} (l : List (DataW H)) : avAll l = l.map avOf := by
  induction l with
  | nil => rfl
  | cons d r ih => simp [avAll, ih]

def plainTy (P : Program) : Nat → TypeId → Bool
  | 0, _ => false
  | n + 1, t =>
    match P.underlying t with
    | some .bool | some (.int _) | some .string => true
    | some (.slice e) => P.cellsOf e != 0 && plainTy P n e
    | some (.struct fs) => fs.toList.all (fun f => plainTy P n f.type) && (fs.toList.foldl (fun (acc : Option Nat) f => acc.bind fun a => if f.offset == a then some (a + P.cellsOf f.type) else none) (some 0)) == some (P.cellsOf t)
    | some (.array m e) => plainTy P n e && m * P.cellsOf e == P.cellsOf t
    | _ => false

theorem flat_agg (cs : List AV) : (AV.agg cs).flat = cs := rfl

structure ReadsAs (C : Ctx) (cs : List Value) (x : AV) : Prop where
  len : x.flat.length = cs.length
  one : ∀ c ∈ cs, c.oneCell' = true
  rep : ∀ (k : Nat) (y : AV), x.flat[k]? = some y → ∃ c, cs[k]? = some c ∧ Rep C y c

theorem mapM_some {α β : Type} (f : α → Option β) : ∀ (l : List α) (ys : List β), l.mapM f = some ys → ys.length = l.length ∧ ∀ (k : Nat) (x : α), l[k]? = some x → ∃ y, ys[k]? = some y ∧ f x = some y := by
  intro l
  induction l with
  | nil => intro ys h; simp only [List.mapM_nil, Option.pure_def, Option.some.injEq] at h; subst h; exact ⟨rfl, fun k x hk => by simp at hk⟩
  | cons y l ih =>
    intro ys h
    rw [List.mapM_cons] at h
    simp only [Option.bind_eq_bind, Option.bind_eq_some_iff, Option.pure_def, Option.some.injEq] at h
    obtain ⟨z, hz, zs, hzs, rfl⟩ := h
    obtain ⟨h1, h2⟩ := ih zs hzs
    refine ⟨by simp [h1], fun k x hk => ?_⟩
    cases k with
    | zero => simp at hk; subst hk; exact ⟨z, rfl, hz⟩
    | succ k => simp at hk; simpa using h2 k x hk

theorem readsAs_one {C : Ctx} {c : Value} {x : AV} (h1 : c.oneCell' = true) (hr : Rep C x c) : ReadsAs C [c] x := by
  have hf := rep_flat_one hr h1
  refine ⟨by rw [hf]; rfl, fun c' hc => by simp at hc; subst hc; exact h1, fun k y hk => ?_⟩
  rw [hf] at hk
  cases k with
  | zero => simp at hk; subst hk; exact ⟨c, rfl, hr⟩
  | succ k => simp at hk

section
variable {H : Type} {enc : TypeId × Value → H} {P : Program} {w : World} {spare : Nat → Bool} {held : Bool} {C : Ctx}

theorem reads_segs {ι : Type} (ty : ι → TypeId) (off : ι → Nat) (fuel : Nat) (cs : List Value) :
    ∀ (l : List ι) (acc : Nat) (xs : List (DataW H × List MemPlace)), (∀ x ∈ l, ∀ (seg : List Value) (y : DataW H × List MemPlace), DataW.trod enc P w 0 spare held fuel (ty x) seg = some y → seg.length = P.cellsOf (ty x) → ReadsAs C seg (avOf y.1)) → (∀ (i : Nat) (x : ι), l[i]? = some x → off x = acc + ((l.take i).map fun y => P.cellsOf (ty y)).sum) → acc + (l.map fun y => P.cellsOf (ty y)).sum = cs.length →
      l.mapM (fun x => DataW.trod enc P w 0 spare held fuel (ty x) ((cs.drop (off x)).take (P.cellsOf (ty x)))) = some xs → ReadsAs C (cs.drop acc) (.agg (cellsAll (xs.map (·.1)))) := by
  intro l
  induction l with
  | nil =>
    intro acc xs _ _ hlen h
    simp only [List.mapM_nil, Option.pure_def, Option.some.injEq] at h; subst h
    have : cs.drop acc = [] := List.drop_eq_nil_of_le (by simp at hlen; omega)
    rw [this]
    exact ⟨rfl, fun c hc => (by cases hc), fun k y hk => (by simp [cellsAll, AV.flat] at hk)⟩
  | cons x l ihl =>
    intro acc xs ih hoff hlen h
    rw [List.mapM_cons] at h
    simp only [Option.bind_eq_bind, Option.bind_eq_some_iff, Option.pure_def, Option.some.injEq] at h
    obtain ⟨z, hz, zs, hzs, rfl⟩ := h
    have h0 : off x = acc := by have := hoff 0 x rfl; simpa using this
    simp only [List.map_cons, List.sum_cons] at hlen
    rw [h0] at hz
    have hseg : ((cs.drop acc).take (P.cellsOf (ty x))).length = P.cellsOf (ty x) := by simp; omega
    have r1 := ih x (List.mem_cons_self ..) _ z hz hseg
    have r2 := ihl (acc + P.cellsOf (ty x)) zs (fun y hy => ih y (List.mem_cons_of_mem _ hy)) (fun i y hy => by
      have := hoff (i + 1) y (by simpa using hy)
      rw [this]; simp only [List.take_succ_cons, List.map_cons, List.sum_cons]; omega) (by omega) hzs
    have hsplit : cs.drop acc = (cs.drop acc).take (P.cellsOf (ty x)) ++ cs.drop (acc + P.cellsOf (ty x)) := by
      rw [← List.drop_drop]; exact (List.take_append_drop _ _).symm
    rw [hsplit]
    have l1 := r1.len
    have l2 := r2.len
    simp only [flat_agg] at l2
    refine ⟨by simp only [flat_agg, List.map_cons, cellsAll, List.length_append, l1, l2], fun c hc => ?_, fun k y hk => ?_⟩
    · rcases List.mem_append.1 hc with h | h
      · exact r1.one c h
      · exact r2.one c h
    · simp only [flat_agg, List.map_cons, cellsAll] at hk
      by_cases hlt : k < (avOf z.1).flat.length
      · rw [List.getElem?_append_left hlt] at hk
        obtain ⟨c, g1, g2⟩ := r1.rep k y hk
        exact ⟨c, by rw [List.getElem?_append_left (by omega)]; exact g1, g2⟩
      · rw [List.getElem?_append_right (by omega)] at hk
        obtain ⟨c, g1, g2⟩ := r2.rep _ y hk
        exact ⟨c, by rw [List.getElem?_append_right (by omega), ← l1]; exact g1, g2⟩

theorem foldl_contig (P : Program) : ∀ (fs : List Field) (a tot : Nat), fs.foldl (fun (acc : Option Nat) f => acc.bind fun a => if f.offset == a then some (a + P.cellsOf f.type) else none) (some a) = some tot →
    (∀ (i : Nat) (x : Field), fs[i]? = some x → x.offset = a + ((fs.take i).map fun y => P.cellsOf y.type).sum) ∧ a + (fs.map fun y => P.cellsOf y.type).sum = tot := by
  intro fs
  induction fs with
  | nil => intro a tot h; simp only [List.foldl_nil, Option.some.injEq] at h; subst h; exact ⟨fun i x h => by simp at h, by simp⟩
  | cons f fs ih =>
    intro a tot h
    simp only [List.foldl_cons, Option.bind_some] at h
    by_cases hf : f.offset == a
    · rw [if_pos hf] at h
      obtain ⟨h1, h2⟩ := ih _ _ h
      have hf' : f.offset = a := by simpa using hf
      refine ⟨fun i x hx => ?_, by simp only [List.map_cons, List.sum_cons]; omega⟩
      cases i with
      | zero => simp at hx; subst hx; simpa using hf'
      | succ i =>
        simp only [List.getElem?_cons_succ] at hx
        rw [h1 i x hx]
        simp only [List.take_succ_cons, List.map_cons, List.sum_cons]; omega
    · rw [if_neg hf] at h
      have : ∀ (l : List Field), l.foldl (fun (acc : Option Nat) f => acc.bind fun a => if f.offset == a then some (a + P.cellsOf f.type) else none) none = none := by
        intro l; induction l with
        | nil => rfl
        | cons _ _ ih => simpa using ih
      rw [this] at h; cases h

theorem trod_slice_inv {fuel : Nat} {t e : TypeId} {cs : List Value} {d : DataW H} {ps : List MemPlace} (hu : P.underlying t = some (.slice e)) (h : DataW.trod enc P w 0 spare held (fuel + 1) t cs = some (d, ps)) :
    (cs = [.slice none 0 0] ∧ d = .nil) ∨ ∃ a len cap elems rest, cs = [.slice (some a) len cap] ∧ d = .slice (elems.map (·.1)) rest ∧ len ≤ cap ∧ cap ≤ maxLen ∧
      (List.range len).mapM (fun i => (w.cells? 0 (a.add (i * P.cellsOf e)) (P.cellsOf e)).bind (DataW.trod enc P w 0 spare held fuel e)) = some elems := by
  rcases cs with _ | ⟨c, _ | ⟨c', cs⟩⟩
  · simp [DataW.trod, hu] at h
  · cases c <;> try (simp [DataW.trod, hu] at h; done)
    rename_i a len cap
    cases a with
    | none =>
      cases len <;> cases cap <;> simp [DataW.trod, hu] at h
      exact .inl ⟨rfl, h.1.symm⟩
    | some a =>
      simp only [DataW.trod, hu] at h
      split at h
      · rename_i hc
        simp only [Option.bind_eq_some_iff, Option.map_eq_some_iff, Prod.mk.injEq] at h
        obtain ⟨elems, h1, rest, h2, rfl, _⟩ := h
        exact .inr ⟨a, len, cap, elems, _, rfl, rfl, hc.2.1, hc.2.2, h1⟩
      · cases h
  · simp [DataW.trod, hu] at h

theorem trod_bool_inv {fuel : Nat} {t : TypeId} {cs : List Value} {d : DataW H} {ps : List MemPlace} (hu : P.underlying t = some .bool) (h : DataW.trod enc P w 0 spare held (fuel + 1) t cs = some (d, ps)) : ∃ b, cs = [.bool b] ∧ d = .lit (.bool b) := by
  rcases cs with _ | ⟨c, _ | ⟨c', cs⟩⟩
  · simp [DataW.trod, hu] at h
  · cases c <;> try (simp [DataW.trod, hu] at h; done)
    rename_i b
    simp only [DataW.trod, hu, Option.some.injEq, Prod.mk.injEq] at h
    exact ⟨b, rfl, h.1.symm⟩
  · simp [DataW.trod, hu] at h

theorem trod_int_inv {fuel : Nat} {t : TypeId} {k : IntKind} {cs : List Value} {d : DataW H} {ps : List MemPlace} (hu : P.underlying t = some (.int k)) (h : DataW.trod enc P w 0 spare held (fuel + 1) t cs = some (d, ps)) : ∃ n, cs = [.int k n] ∧ d = .lit (.int k n) ∧ (Lit.int k n).wf = true := by
  rcases cs with _ | ⟨c, _ | ⟨c', cs⟩⟩
  · simp [DataW.trod, hu] at h
  · cases c <;> try (simp [DataW.trod, hu] at h; done)
    rename_i k' n
    simp only [DataW.trod, hu] at h
    split at h
    · rename_i hk
      obtain ⟨rfl, hwf⟩ := hk
      simp only [Option.some.injEq, Prod.mk.injEq] at h
      exact ⟨n, rfl, h.1.symm, hwf⟩
    · cases h
  · simp [DataW.trod, hu] at h

theorem trod_string_inv {fuel : Nat} {t : TypeId} {cs : List Value} {d : DataW H} {ps : List MemPlace} (hu : P.underlying t = some .string) (h : DataW.trod enc P w 0 spare held (fuel + 1) t cs = some (d, ps)) : ∃ s, cs = [.string s] ∧ d = .lit (.string s.data.toList) := by
  rcases cs with _ | ⟨c, _ | ⟨c', cs⟩⟩
  · simp [DataW.trod, hu] at h
  · cases c <;> try (simp [DataW.trod, hu] at h; done)
    rename_i s
    simp only [DataW.trod, hu] at h
    split at h
    · simp only [Option.some.injEq, Prod.mk.injEq] at h
      exact ⟨s, rfl, h.1.symm⟩
    · cases h
  · simp [DataW.trod, hu] at h

theorem trod_struct_inv {fuel : Nat} {t : TypeId} {fs : Array Field} {cs : List Value} {d : DataW H} {ps : List MemPlace} (hu : P.underlying t = some (.struct fs)) (h : DataW.trod enc P w 0 spare held (fuel + 1) t cs = some (d, ps)) :
    ∃ xs, cs.length = P.cellsOf t ∧ d = .agg (xs.map (·.1)) ∧ fs.toList.mapM (fun f => DataW.trod enc P w 0 spare held fuel f.type ((cs.drop f.offset).take (P.cellsOf f.type))) = some xs := by
  have key : (if cs.length = P.cellsOf t then (fs.toList.mapM fun f => DataW.trod enc P w 0 spare held fuel f.type ((cs.drop f.offset).take (P.cellsOf f.type))).map fun xs => ((.agg (xs.map (·.1)) : DataW H), xs.flatMap (·.2)) else none) = some (d, ps) := by
    rcases cs with _ | ⟨c, _ | ⟨c', cs⟩⟩
    · simpa only [DataW.trod, hu] using h
    · cases c <;> simpa only [DataW.trod, hu] using h
    · simpa only [DataW.trod, hu] using h
  split at key
  · rename_i hl
    obtain ⟨xs, h1, h2⟩ := Option.map_eq_some_iff.1 key
    simp only [Prod.mk.injEq] at h2
    exact ⟨xs, hl, h2.1.symm, h1⟩
  · cases key

theorem trod_array_inv {fuel : Nat} {t e : TypeId} {m : Nat} {cs : List Value} {d : DataW H} {ps : List MemPlace} (hu : P.underlying t = some (.array m e)) (h : DataW.trod enc P w 0 spare held (fuel + 1) t cs = some (d, ps)) :
    ∃ xs, cs.length = P.cellsOf t ∧ d = .agg (xs.map (·.1)) ∧ (List.range m).mapM (fun i => DataW.trod enc P w 0 spare held fuel e ((cs.drop (i * P.cellsOf e)).take (P.cellsOf e))) = some xs := by
  have key : (if cs.length = P.cellsOf t then ((List.range m).mapM fun i => DataW.trod enc P w 0 spare held fuel e ((cs.drop (i * P.cellsOf e)).take (P.cellsOf e))).map fun xs => ((.agg (xs.map (·.1)) : DataW H), xs.flatMap (·.2)) else none) = some (d, ps) := by
    rcases cs with _ | ⟨c, _ | ⟨c', cs⟩⟩
    · simpa only [DataW.trod, hu] using h
    · cases c <;> simpa only [DataW.trod, hu] using h
    · simpa only [DataW.trod, hu] using h
  split at key
  · rename_i hl
    obtain ⟨xs, h1, h2⟩ := Option.map_eq_some_iff.1 key
    simp only [Prod.mk.injEq] at h2
    exact ⟨xs, hl, h2.1.symm, h1⟩
  · cases key

theorem cells?_get {a : Addr} {n : Nat} {seg : List Value} (h : w.cells? 0 a n = some seg) : seg.length = n ∧ ∀ (j : Nat) (c : Value), seg[j]? = some c → w.cell? (a.add j) = some c := by
  unfold World.cells? at h
  rw [if_pos (Nat.zero_le _)] at h
  obtain ⟨h1, h2⟩ := mapM_some _ _ _ h
  refine ⟨by simpa using h1, fun j c hc => ?_⟩
  have hj : j < n := by have := (List.getElem?_eq_some_iff.1 hc).1; rw [h1] at this; simpa using this
  obtain ⟨y, g1, g2⟩ := h2 j j (by simp [hj])
  rw [g1] at hc; cases hc; exact g2

theorem reads_of_trod (hw : C.w = w) (hbad : ∀ b, ¬ C.bad b) : ∀ (fuel n : Nat) (t : TypeId) (cs : List Value) (d : DataW H) (ps : List MemPlace), plainTy P n t = true →
    DataW.trod enc P w 0 spare held fuel t cs = some (d, ps) → ReadsAs C cs (avOf d) := by
  intro fuel
  induction fuel with
  | zero => intro n t cs d ps _ h; simp [DataW.trod] at h
  | succ fuel ih =>
    intro n t cs d ps hp h
    cases n with
    | zero => simp [plainTy] at hp
    | succ n =>
    unfold plainTy at hp
    split at hp
    · rename_i hu
      obtain ⟨b, rfl, rfl⟩ := trod_bool_inv hu h
      exact readsAs_one rfl (.imm _ rfl)
    · rename_i k hu
      obtain ⟨q, rfl, rfl, _⟩ := trod_int_inv hu h
      exact readsAs_one rfl (.imm _ rfl)
    · rename_i hu
      obtain ⟨q, rfl, rfl⟩ := trod_string_inv hu h
      refine readsAs_one (c := .string q) rfl ?_
      have : (⟨q.data.toList.toArray⟩ : ByteArray) = q := by cases q; simp
      simp only [avOf, this]
      exact .imm _ rfl
    · -- slice
      rename_i e hu
      simp only [Bool.and_eq_true, bne_iff_ne, ne_eq] at hp
      obtain ⟨hs0, hpe⟩ := hp
      rcases trod_slice_inv hu h with ⟨rfl, rfl⟩ | ⟨a, len, cap, elems, rest, rfl, rfl, hlc, _, hm⟩
      · exact readsAs_one rfl (.slNil _ _)
      · obtain ⟨l1, l2⟩ := mapM_some _ _ _ hm
        simp only [List.length_range] at l1
        refine readsAs_one rfl ?_
        simp only [avOf, avAll_map, List.map_map]
        subst l1
        by_cases h0 : elems = []
        · subst h0; exact .slNil _ _
        · have hpos : 0 < elems.length := List.length_pos_iff.2 h0
          obtain ⟨b, off, sp⟩ := a
          -- each element's cells
          have hel : ∀ i, i < elems.length → ∃ seg z, elems[i]? = some z ∧ w.cells? 0 ((⟨b, off, sp⟩ : Addr).add (i * P.cellsOf e)) (P.cellsOf e) = some seg ∧ ReadsAs C seg (avOf z.1) := fun i hi => by
            obtain ⟨z, g1, g2⟩ := l2 i i (by simp [hi])
            obtain ⟨seg, g3, g4⟩ := Option.bind_eq_some_iff.1 g2
            exact ⟨seg, z, g1, g3, ih n e seg z.1 z.2 hpe g4⟩
          have hsp : sp = none := by
            obtain ⟨seg, z, _, g2, _⟩ := hel 0 hpos
            obtain ⟨q1, q2⟩ := cells?_get g2
            have hs : 0 < seg.length := by omega
            have := q2 0 _ (List.getElem?_eq_getElem hs)
            rw [Nat.zero_mul] at this
            cases sp with
            | none => rfl
            | some x => simp [Addr.add, World.cell?] at this; split at this <;> simp at this
          subst hsp
          have cell : ∀ (i j : Nat) (q x : AV), (elems.map (avOf ∘ (·.1)))[i]? = some q → q.flat[j]? = some x → ∃ v, Holds C.w b (off + i * P.cellsOf e + j) v ∧ Rep C x v := fun i j q x hq hx => by
            have hi : i < elems.length := by have := (List.getElem?_eq_some_iff.1 hq).1; simpa using this
            obtain ⟨seg, z, g1, g2, g3⟩ := hel i hi
            simp only [List.getElem?_map, g1, Option.map_some, Function.comp, Option.some.injEq] at hq
            subst hq
            obtain ⟨c, g4, g5⟩ := g3.rep j x hx
            have := (cells?_get g2).2 j c g4
            rw [addr_add, addr_add] at this
            exact ⟨c, ⟨by rw [hw]; exact this, g3.one c (List.mem_of_getElem? g4)⟩, g5⟩
          have hfl : ∀ (i : Nat) (q : AV), (elems.map (avOf ∘ (·.1)))[i]? = some q → q.flat.length = P.cellsOf e := fun i q hq => by
            have hi : i < elems.length := by have := (List.getElem?_eq_some_iff.1 hq).1; simpa using this
            obtain ⟨seg, z, g1, g2, g3⟩ := hel i hi
            simp only [List.getElem?_map, g1, Option.map_some, Function.comp, Option.some.injEq] at hq
            subst hq
            rw [g3.len]; exact (cells?_get g2).1
          have hb : b < C.w.heap.size := by
            obtain ⟨seg, z, g1, g2, g3⟩ := hel 0 hpos
            have hs : 0 < (avOf z.1).flat.length := by
              rw [hfl 0 _ (by simp [g1])]; omega
            obtain ⟨v, g4, _⟩ := cell 0 0 _ _ (by simp [g1]) (List.getElem?_eq_getElem hs)
            have := g4.1
            unfold World.cell? at this
            split at this
            · rename_i h9; exact (Array.getElem?_eq_some_iff.1 h9).1
            · cases this
          have hlen : (elems.map (avOf ∘ (·.1))).length = elems.length := by simp
          have := Rep.sl (C := C) (elems.map (avOf ∘ (·.1))) b off (P.cellsOf e) cap (fun i j => (C.w.cell? ⟨b, off + i * P.cellsOf e + j, none⟩).getD undef) hb (hbad b) (by rw [hlen]; exact hlc) hfl
            (fun i j q x hq hx => by
              obtain ⟨v, g1, g2⟩ := cell i j q x hq hx
              rw [g1.1]; exact g1)
            (fun i j q x hq hx => by
              obtain ⟨v, g1, g2⟩ := cell i j q x hq hx
              rw [g1.1]; exact g2)
          rw [hlen] at this
          exact this
    · -- struct
      rename_i fs hu
      rw [Bool.and_eq_true, List.all_eq_true] at hp
      obtain ⟨hpf, hct⟩ := hp
      rw [beq_iff_eq] at hct
      obtain ⟨xs, hl, rfl, hm⟩ := trod_struct_inv hu h
      obtain ⟨c1, c2⟩ := foldl_contig P fs.toList 0 _ hct
      have := reads_segs (C := C) (P := P) (w := w) (enc := enc) (spare := spare) (held := held) (fun f : Field => f.type) (fun f => f.offset) fuel cs
        fs.toList 0 xs (fun x hx seg y hy _ => ih n x.type seg y.1 y.2 (hpf x hx) hy) c1 (by rw [hl]; exact c2) hm
      simpa [avOf] using this
    · -- array
      rename_i m e hu
      simp only [Bool.and_eq_true, beq_iff_eq] at hp
      obtain ⟨hpe, hct⟩ := hp
      obtain ⟨xs, hl, rfl, hm⟩ := trod_array_inv hu h
      have hsum : ∀ (l : List Nat), (l.map fun _ => P.cellsOf e).sum = l.length * P.cellsOf e := by
        intro l; induction l with
        | nil => simp
        | cons _ l ih => simp [ih, Nat.add_mul, Nat.add_comm]
      have := reads_segs (C := C) (P := P) (w := w) (enc := enc) (spare := spare) (held := held) (fun _ : Nat => e) (fun i => i * P.cellsOf e) fuel cs
        (List.range m) 0 xs (fun x _ seg y hy _ => ih n e seg y.1 y.2 hpe hy)
        (fun i x hx => by
          have hi : i < m := by have := (List.getElem?_eq_some_iff.1 hx).1; simpa using this
          have hx' : x = i := by simp [hi] at hx; exact hx.symm
          subst hx'
          rw [hsum]; simp; rw [Nat.min_eq_left (by omega)]) (by rw [hsum, hl]; simpa using hct) hm
      simpa [avOf] using this
    · cases hp
end
end Go.Av
end
