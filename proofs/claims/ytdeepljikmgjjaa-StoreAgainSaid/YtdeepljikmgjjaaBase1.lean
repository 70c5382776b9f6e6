/- What a proof sees of a run, and the rules by which it goes through a text. -/
import Derived.Test.YtdeepljikmgjjaaBase
import Derived.RangeFuncRecord
import Derived.ScopeJumps
import Derived.Laws.StructEq
import Derived.KernelRfl
import Derived.WideKeyRuns
import Derived.Laws.Pointers
import Derived.Laws.Cover3
import Derived.Laws.BytesString
import Derived.Sort.Grow
import Derived.Lib.SlicesCompact
import Derived.Lib.Slices
import Derived.RecoverIn
set_option linter.unusedSimpArgs false
set_option linter.unusedVariables false
section
/- Loops by their own rounds; functions that hand back what is their own. -/
namespace Go.Av
open Go.RowKit (Below)

section
variable {P : Program} {W0 : Base} {N : Nat} {st : St} {Q : Exit → St → Prop}

theorem awp_iter {c : Code} {σ α : Type} (b : σ → Option (σ ⊕ α)) (S : σ → St) {s0 : σ} {r : α} (h : Sh.loop b s0 = some r) (hw : Weak W0 N st (S s0))
    (round : ∀ s o, b s = some o → (∀ x, o = .inr x → x = r) → AWP P W0 N c (S s) (Then (fun s1 => ∃ s', o = .inl s' ∧ Weak W0 N s1 (S s')) Q)) : AWP P W0 N (.loop c) st Q := by
  refine awp_loopS (σ := σ × Nat) (fun p => S p.1) (fun p => Sh.iter b p.2 p.1 = some r) (fun p => p.2) (s0, Sh.FUEL) h hw ?_
  rintro ⟨s, n⟩ hn
  cases n with
  | zero => cases hn
  | succ n =>
    simp only [Sh.iter] at hn
    cases hb : b s with
    | none => simp [hb] at hn
    | some o =>
      rw [hb] at hn
      refine (round s o hb (fun x hx => ?_)).mono fun e s1 h1 => ?_
      · subst hx; simpa using hn
      · cases e with
        | normal =>
          obtain ⟨s', rfl, h2⟩ := h1
          exact ⟨(s', n), hn, Nat.lt_succ_self n, h2⟩
        | _ => exact h1


inductive Shift (ok : AV → Prop) (n : Nat) : AV → AV → Prop
  | same (x : AV) : ok x → Shift ok n x x
  | view (id off len : Nat) : Shift ok n (.view id off len) (.view (n + id) off len)
  | ref (id i j : Nat) : Shift ok n (.ref id i j) (.ref (n + id) i j)
  | mref (id : Nat) : Shift ok n (.mref id) (.mref (n + id))
  | agg (cs cs' : List AV) : cs.length = cs'.length → (∀ (k : Nat) (x x' : AV), cs[k]? = some x → cs'[k]? = some x' → Shift ok n x x') → Shift ok n (.agg cs) (.agg cs')
  | tuple (cs cs' : List AV) : cs.length = cs'.length → (∀ (k : Nat) (x x' : AV), cs[k]? = some x → cs'[k]? = some x' → Shift ok n x x') → Shift ok n (.tuple cs) (.tuple cs')
  | clo (fn : Fn) (cs cs' : List AV) : cs.length = cs'.length → (∀ (k : Nat) (x x' : AV), cs[k]? = some x → cs'[k]? = some x' → Shift ok n x x') → Shift ok n (.clo fn cs) (.clo fn cs')
  | ifc (t : TypeId) (x x' : AV) : Shift ok n x x' → Shift ok n (.ifc t x) (.ifc t x')

structure ShiftL (ok : AV → Prop) (n : Nat) (es es' : List AV) : Prop where
  len : es.length = es'.length
  see : ∀ (k : Nat) (e e' : AV), es[k]? = some e → es'[k]? = some e' → e.flat.length = e'.flat.length ∧ ∀ (j : Nat) (x x' : AV), e.flat[j]? = some x → e'.flat[j]? = some x' → Shift ok n x x'
  mapd : ∀ l, es' = [.mapd l] → es = [.mapd l]

def Joined (ok : AV → Prop) (n : Nat) : List (Nat × (Nat × List AV)) → List (Nat × (Nat × List AV)) → Prop
  | [], [] => True
  | (i, (s, es)) :: l, (j, (s', es')) :: l' => j = n + i ∧ s = s' ∧ ShiftL ok n es es' ∧ Joined ok n l l'
  | _, _ => False

theorem ShiftL.same {ok : AV → Prop} {n : Nat} {es : List AV} (h : ∀ e ∈ es, ∀ x ∈ e.flat, ok x) : ShiftL ok n es es :=
  ⟨rfl, fun k e e' h1 h2 => by
    rw [h1] at h2; cases h2
    exact ⟨rfl, fun j x x' h3 h4 => by rw [h3] at h4; cases h4; exact .same x (h e (List.mem_of_getElem? h1) x (List.mem_of_getElem? h3))⟩, fun _ h => h⟩

theorem Joined.at {ok : AV → Prop} {n : Nat} : ∀ {l l' : List (Nat × (Nat × List AV))}, Joined ok n l l' → ∀ {k s : Nat} {es' : List AV}, lk l' k = some (s, es') → ∃ i es, k = n + i ∧ lk l i = some (s, es) ∧ ShiftL ok n es es'
  | [], [], _, _, _, _, h => by cases h
  | (i, (s, es)) :: l, (j, (s', es')) :: l', h, k, q, es2, hk => by
    obtain ⟨rfl, rfl, h1, h2⟩ := h
    simp only [lk] at hk
    split at hk
    · rename_i e; subst e; cases hk
      exact ⟨i, es, rfl, by simp [lk], h1⟩
    · rename_i e
      obtain ⟨i', es3, rfl, h3, h4⟩ := Joined.at h2 hk
      refine ⟨i', es3, rfl, ?_, h4⟩
      simp only [lk]
      rw [if_neg (by omega)]; exact h3
  | [], _ :: _, h, _, _, _, _ => h.elim
  | _ :: _, [], h, _, _, _, _ => h.elim

theorem lk_append {α : Type} (l1 l2 : List (Nat × α)) (k : Nat) : lk (l1 ++ l2) k = match lk l1 k with | some x => some x | none => lk l2 k := by
  induction l1 with
  | nil => rfl
  | cons p l ih =>
    obtain ⟨s, u⟩ := p
    simp only [List.cons_append, lk]
    split <;> simp [*]

structure Fun2 (P : Program) (W0 : World) (f : FuncId) (xs : List AV) (r : AV) (Hr : Heap) : Prop where
  call : Callable P f
  runs : ∀ (C : Ctx) (vals : Array Value), Inv (.of W0) C → C.H = .empty → C.dfs = [] → vals.size = xs.length → (∀ (k : Nat) (x : AV), xs[k]? = some x → Rep C x (vals.getD k undef)) →
    Calls P f vals C.w (fun e w' => ∃ v C', e = .returned v ∧ C'.w = w' ∧ Ext C C' ∧ Inv (.of W0) C' ∧ C'.H = Hr ∧ Rep C' r v)

variable {C C1 : Ctx}

def Ctx.join (C C1 : Ctx) (objs' : List (Nat × (Nat × List AV))) : Ctx :=
  { w := C1.w, H := { next := C.H.next + C1.H.next, objs := C.H.objs ++ objs', lps := C.H.lps }, pl := fun k => if k < C.H.next then C.pl k else C1.pl (k - C.H.next), prot := C.prot, dfs := C.dfs, pin := C.pin }

theorem join_rules {ok : AV → Prop} {pr : Nat → Prop} {objs' : List (Nat × (Nat × List AV))} (hI : Inv W0 C) (hI1 : Inv (.of W0.w) C1) (hE : Ext (C.bare pr) C1) (hpr : ∀ b, C.prot b → pr b) (hJ : Joined ok C.H.next C1.H.objs objs')
    (hok : ∀ x v, ok x → Rep C1 x v → (∀ b, b < C1.w.heap.size → ¬ C1.bad b → ¬ (C.join C1 objs').bad b ∨ ∀ C' : Ctx, Rep C' x v) → Rep (C.join C1 objs') x v) (hbad : (∀ b, C.own b → pr b) ∨ ∀ x, ok x → Dry x) :
    Ext C (C.join C1 objs') ∧ Inv W0 (C.join C1 objs') ∧ ∀ x x' v, Shift ok C.H.next x x' → Rep C1 x v → Rep (C.join C1 objs') x' v := by
  have hkeep : ∀ b, b < C.w.heap.size → C1.w.heap[b]? = C.w.heap[b]? := fun b hb => hE.keep b hb (bare_own _ b)
  have hnew : ∀ b, C1.own b → C.w.heap.size ≤ b := fun b hb => by
    rcases Nat.lt_or_ge b C.w.heap.size with h | h
    · exact absurd (hE.own b h hb) (bare_own _ b)
    · exact h
  have hprot1 : C1.prot = pr := hE.prot
  have hold : ∀ {k : Nat} {p : Nat × List AV}, lk C.H.objs k = some p → k < C.H.next := fun {k p} h => hI.fresh k p.2 (by simp [Heap.get, h])
  -- an object of the joined heap
  have getJ : ∀ {k s : Nat} {es' : List AV}, lk (C.H.objs ++ objs') k = some (s, es') → (lk C.H.objs k = some (s, es') ∧ k < C.H.next) ∨ ∃ i es, k = C.H.next + i ∧ lk C1.H.objs i = some (s, es) ∧ ShiftL ok C.H.next es es' := fun {k s es'} h => by
    rw [lk_append] at h
    cases hk : lk C.H.objs k with
    | some p => rw [hk] at h; simp only [Option.some.injEq] at h; subst h; exact .inl ⟨rfl, hold hk⟩
    | none => rw [hk] at h; exact .inr (hJ.at h)
  have plO : ∀ {k : Nat}, k < C.H.next → (C.join C1 objs').pl k = C.pl k := fun {k} h => by simp [Ctx.join, h]
  have plN : ∀ i, (C.join C1 objs').pl (C.H.next + i) = C1.pl i := fun i => by
    have h1 : ¬ C.H.next + i < C.H.next := by omega
    have h2 : C.H.next + i - C.H.next = i := by omega
    show (if C.H.next + i < C.H.next then _ else _) = _
    rw [if_neg h1, h2]
  have getG : ∀ {k : Nat} {es' : List AV}, (C.join C1 objs').H.get k = some es' → ∃ s, lk (C.H.objs ++ objs') k = some (s, es') := fun {k es'} h => by
    simp only [Ctx.join, Heap.get, Option.map_eq_some_iff] at h
    obtain ⟨⟨s, e⟩, h1, rfl⟩ := h
    exact ⟨s, h1⟩
  have ownJ : ∀ b, (C.join C1 objs').own b → C.own b ∨ C1.own b := by
    rintro b (⟨k, es', h1, h2, h3⟩ | h)
    · obtain ⟨s, h4⟩ := getG h1
      rcases getJ h4 with ⟨h5, h6⟩ | ⟨i, es, rfl, h5, _⟩
      · rw [plO h6] at h2 h3; exact .inl (.inl ⟨k, es', by simp [Heap.get, h5], h2, h3⟩)
      · rw [plN] at h2 h3; exact .inr (.inl ⟨i, es, by simp [Heap.get, h5], h2, h3⟩)
    · exact .inl (.inr h)
  have ext : Ext C (C.join C1 objs') := {
    below := hE.below
    keep := fun b hb _ => hkeep b hb
    own := fun b hb h => by
      rcases ownJ b h with h | h
      · exact h
      · have := hnew b h; omega
    next := Nat.le_add_right _ _
    id := fun k es' hk h => by
      obtain ⟨s, h4⟩ := getG h
      rcases getJ h4 with ⟨h5, h6⟩ | ⟨i, es, rfl, _, _⟩
      · exact ⟨⟨es', by simp [Heap.get, h5]⟩, plO h6⟩
      · omega
    prot := rfl
    dfs := rfl
    pin := rfl }
  have badJ : ∀ b, b < C1.w.heap.size → ¬ C1.bad b → ∀ (x : AV) (v : Value), ok x → Rep C1 x v → ¬ (C.join C1 objs').bad b ∨ ∀ C' : Ctx, Rep C' x v := fun b _ hb x v hx hr => by
    rcases hbad with h | h
    · left
      rintro (h1 | h1)
      · rcases ownJ b h1 with h2 | h2
        · exact hb (.inr (by rw [hprot1]; exact h b h2))
        · exact hb (.inl h2)
      · exact hb (.inr (by rw [hprot1]; exact hpr b h1))
    · right; intro C'; exact (h x hx).rep hr
  have repJ : ∀ x x' v, Shift ok C.H.next x x' → Rep C1 x v → Rep (C.join C1 objs') x' v := by
    intro x x' v hs
    induction hs generalizing v with
    | same x hx => intro h; exact hok x v hx h (fun b hb hn => badJ b hb hn x v hx h)
    | view id off len =>
      intro h
      match h with
      | .view _ _ _ _ h1 h2 h3 =>
      refine .view _ _ _ _ (by show C.H.next + id < C.H.next + C1.H.next; omega) (fun es' he => ?_) h3
      obtain ⟨s, h4⟩ := getG he
      rw [plN]
      rcases getJ h4 with ⟨h5, h6⟩ | ⟨i, es, h5, h6, _⟩
      · omega
      · have : i = id := by omega
        subst this; exact h2 es (by simp [Heap.get, h6])
    | ref id i j =>
      intro h
      match h with
      | .ref _ _ _ _ h1 h2 h3 =>
      refine .ref _ _ _ _ (by show C.H.next + id < C.H.next + C1.H.next; omega) (fun es' he => ?_) h3
      obtain ⟨s, h4⟩ := getG he
      rw [plN]
      rcases getJ h4 with ⟨h5, h6⟩ | ⟨i, es, h5, h6, _⟩
      · omega
      · have : i = id := by omega
        subst this; exact h2 es (by simp [Heap.get, h6])
    | mref id =>
      intro h
      match h with
      | .mref _ _ h1 h2 h3 =>
      refine .mref _ _ (by show C.H.next + id < C.H.next + C1.H.next; omega) (fun es' he => ?_) h3
      obtain ⟨s, h4⟩ := getG he
      rw [plN]
      rcases getJ h4 with ⟨h5, h6⟩ | ⟨i, es, h5, h6, _⟩
      · omega
      · have : i = id := by omega
        subst this; exact h2 es (by simp [Heap.get, h6])
    | agg cs cs' hl _ ih =>
      intro h
      match h with
      | .agg _ vs h1 h2 h3 =>
      refine .agg cs' vs (h1.trans hl) h2 (fun k x' hx' => ?_)
      have hk : k < cs.length := by rw [hl]; exact (List.getElem?_eq_some_iff.1 hx').1
      exact ih k cs[k] x' (List.getElem?_eq_getElem hk) hx' _ (h3 k _ (List.getElem?_eq_getElem hk))
    | tuple cs cs' hl _ ih =>
      intro h
      match h with
      | .tuple _ vs h1 h3 =>
      refine .tuple cs' vs (h1.trans hl) (fun k x' hx' => ?_)
      have hk : k < cs.length := by rw [hl]; exact (List.getElem?_eq_some_iff.1 hx').1
      exact ih k cs[k] x' (List.getElem?_eq_getElem hk) hx' _ (h3 k _ (List.getElem?_eq_getElem hk))
    | clo fn cs cs' hl _ ih =>
      intro h
      match h with
      | .clo _ _ vs h1 h3 =>
      refine .clo fn cs' vs (h1.trans hl) (fun k x' hx' => ?_)
      have hk : k < cs.length := by rw [hl]; exact (List.getElem?_eq_some_iff.1 hx').1
      exact ih k cs[k] x' (List.getElem?_eq_getElem hk) hx' _ (h3 k _ (List.getElem?_eq_getElem hk))
    | ifc t x x' _ ih =>
      intro h
      match h with
      | .ifc _ _ v h1 => exact .ifc t x' v (ih v h1)
  refine ⟨ext, ?_, repJ⟩
  have obj1 : ∀ {i s : Nat} {es es' : List AV}, lk C1.H.objs i = some (s, es) → ShiftL ok C.H.next es es' → (C1.pl i).nil = false → ObjOK (C.join C1 objs') (C1.pl i) es' := fun {i s es es'} h hS hn => by
    have hO := hI1.obj i es (by simp [Heap.get, h]) hn
    have back : ∀ {q : Nat} {e' : AV}, es'[q]? = some e' → ∃ e, es[q]? = some e ∧ e.flat.length = e'.flat.length ∧ ∀ (j : Nat) (x x' : AV), e.flat[j]? = some x → e'.flat[j]? = some x' → Shift ok C.H.next x x' := fun {q e'} hq => by
      have hk : q < es.length := by rw [hS.len]; exact (List.getElem?_eq_some_iff.1 hq).1
      exact ⟨es[q], List.getElem?_eq_getElem hk, hS.see q _ e' (List.getElem?_eq_getElem hk) hq⟩
    refine ⟨hO.n.trans hS.len, hO.cap, hO.blk_to hS.mapd, hO.one, fun q e' he' => ?_, fun q j e' x' v he' hx' hv => ?_⟩
    · obtain ⟨e, h1, h2, _⟩ := back he'
      rw [← h2]; exact hO.flat q e h1
    · obtain ⟨e, h1, h2, h3⟩ := back he'
      have hj : j < e.flat.length := by rw [h2]; exact (List.getElem?_eq_some_iff.1 hx').1
      exact repJ _ _ _ (h3 j _ x' (List.getElem?_eq_getElem hj) hx') (hO.cell q j e _ v h1 (List.getElem?_eq_getElem hj) hv)
  exact {
    fresh := fun k es' h => by
      obtain ⟨s, h4⟩ := getG h
      show k < C.H.next + C1.H.next
      rcases getJ h4 with ⟨h5, h6⟩ | ⟨i, es, rfl, h5, _⟩
      · omega
      · have := hI1.fresh i es (by simp [Heap.get, h5]); omega
    nil := fun k es' h hn => by
      obtain ⟨s, h4⟩ := getG h
      rcases getJ h4 with ⟨h5, h6⟩ | ⟨i, es, rfl, h5, h6⟩
      · rw [plO h6] at hn; exact hI.nil k es' (by simp [Heap.get, h5]) hn
      · rw [plN] at hn
        have := hI1.nil i es (by simp [Heap.get, h5]) hn
        subst this
        exact List.eq_nil_of_length_eq_zero h6.len.symm
    obj := fun k es' h hn => by
      obtain ⟨s, h4⟩ := getG h
      rcases getJ h4 with ⟨h5, h6⟩ | ⟨i, es, rfl, h5, h6⟩
      · rw [plO h6] at hn ⊢
        have hg : C.H.get k = some es' := by simp [Heap.get, h5]
        exact (hI.obj k es' hg hn).ext ext (hkeep _ (hI.lt hg hn))
      · rw [plN] at hn ⊢; exact obj1 h5 h6 hn
    sep := fun k1 k2 e1 e2 h1 h2 n1 n2 hb => by
      obtain ⟨s1, g1⟩ := getG h1
      obtain ⟨s2, g2⟩ := getG h2
      rcases getJ g1 with ⟨a1, a2⟩ | ⟨i1, es1, rfl, a1, _⟩ <;> rcases getJ g2 with ⟨b1, b2⟩ | ⟨i2, es2, rfl, b1, _⟩
      · rw [plO a2] at n1 hb; rw [plO b2] at n2 hb
        exact hI.sep k1 k2 e1 e2 (by simp [Heap.get, a1]) (by simp [Heap.get, b1]) n1 n2 hb
      · rw [plO a2] at n1 hb; rw [plN] at n2 hb
        have h3 := hI.lt (id := k1) (es := e1) (by simp [Heap.get, a1]) n1
        have h4 := hnew (C1.pl i2).blk (.inl ⟨i2, es2, by simp [Heap.get, b1], n2, rfl⟩)
        omega
      · rw [plN] at n1 hb; rw [plO b2] at n2 hb
        have h3 := hI.lt (id := k2) (es := e2) (by simp [Heap.get, b1]) n2
        have h4 := hnew (C1.pl i1).blk (.inl ⟨i1, es1, by simp [Heap.get, a1], n1, rfl⟩)
        omega
      · rw [plN] at n1 n2 hb; rw [plN] at hb
        have := hI1.sep i1 i2 es1 es2 (by simp [Heap.get, a1]) (by simp [Heap.get, b1]) n1 n2 hb
        omega
    prot := fun k es' h hn => by
      obtain ⟨s, h4⟩ := getG h
      rcases getJ h4 with ⟨h5, h6⟩ | ⟨i, es, rfl, h5, h6⟩
      · rw [plO h6] at hn ⊢; exact hI.prot k es' (by simp [Heap.get, h5]) hn
      · rw [plN] at hn ⊢
        have := hI1.prot i es (by simp [Heap.get, h5]) hn
        rw [hprot1] at this
        exact fun hp => this (hpr _ hp)
    szok := fun k s h hn => by
      simp only [Ctx.join, Heap.sz, Option.map_eq_some_iff] at h
      obtain ⟨⟨s', es'⟩, h1, rfl⟩ := h
      rcases getJ h1 with ⟨h5, h6⟩ | ⟨i, es, rfl, h5, _⟩
      · rw [plO h6] at hn ⊢; exact hI.szok k _ (by simp [Heap.sz, h5]) hn
      · rw [plN] at hn ⊢; exact hI1.szok i _ (by simp [Heap.sz, h5]) hn
    protlt := fun b hb => Nat.lt_of_lt_of_le (hI.protlt b hb) hE.below.size
    protge := hI.protge
    size := hI1.size
    glob := fun b hb => ⟨(hI1.glob b hb).1, fun ho => by
      rcases ownJ b ho with h | h
      · exact (hI.glob b hb).2 h
      · exact (hI1.glob b hb).2 h⟩
    lps := fun l r h => by
      have h1 := hI.lps l r h
      rw [← h1]; exact hkeep l (Array.getElem?_eq_some_iff.1 h1).1
    dfs := fun d h => by
      have h1 := hI.dfs d h
      rw [← h1]; exact hkeep d (Array.getElem?_eq_some_iff.1 h1).1
    dnd := hI.dnd
    rod := hI.rod
    spprot := hI.spprot
    pinB := hI.pinB
    pinlt := Nat.le_trans hI.pinlt (Nat.le_add_right _ _)
    gh := W0.st C _ ext.mem hI.pinlt hI.gh }

variable {fr : Fr} {a : Act} {H : Heap} {o : Oper}

theorem Shift.mono {ok ok' : AV → Prop} {n : Nat} {x x' : AV} (h : Shift ok n x x') (hk : ∀ x, ok x → ok' x) : Shift ok' n x x' := by
  induction h with
  | same x hx => exact .same x (hk x hx)
  | view id off len => exact .view id off len
  | ref id i j => exact .ref id i j
  | mref id => exact .mref id
  | agg cs cs' hl _ ih => exact .agg cs cs' hl ih
  | tuple cs cs' hl _ ih => exact .tuple cs cs' hl ih
  | clo fn cs cs' hl _ ih => exact .clo fn cs cs' hl ih
  | ifc t x x' _ ih => exact .ifc t x x' ih

theorem args_rep {args : Array Operand} {ys : List AV} (hop : ∀ y ∈ args.toList, RepO C fr a y) (hys : args.toList.mapM (evalA fr) = some ys) : (args.map a.eval).size = ys.length ∧ ∀ t x, lk (argsFr 0 ys) t = some x → Rep C x ((args.map a.eval).getD t undef) := by
  obtain ⟨m1, m2⟩ := mapM_eval args.toList ys hys
  refine ⟨by simpa using m1.symm, fun t x hx => ?_⟩
  obtain ⟨_, h2⟩ := lk_argsFr ys 0 t x hx
  rw [Nat.sub_zero] at h2
  obtain ⟨y, g1, g2⟩ := m2 t x h2
  have hy : args[t]? = some y := by simpa using g1
  have hlt : t < (args.map a.eval).size := by have := (Array.getElem?_eq_some_iff.1 hy).1; simpa using this
  have e : (args.map a.eval).getD t undef = a.eval y := by
    have := getD_of hlt
    rw [Array.getElem?_map, hy] at this
    exact (Option.some.inj this).symm
  rw [e]
  exact rep_eval (hop y (List.mem_of_getElem? g1)) g2

theorem Rep.sub {C' : Ctx} {x : AV} {v : Value} (h : Rep C x v) (hw : C'.w = C.w) (hn : C.H.next ≤ C'.H.next) (hg : ∀ id es, id < C.H.next → C'.H.get id = some es → ∃ es0, C.H.get id = some es0) (hpl : ∀ id, id < C.H.next → C'.pl id = C.pl id) (hb : ∀ b, C'.bad b → C.bad b) : Rep C' x v := by
  induction h with
  | any v => exact .any v
  | imm v hv => exact .imm v hv
  | slNil a cap => exact .slNil a cap
  | sl es b off sz cap c hlt hbad hc hf hcell _ ih => exact .sl es b off sz cap c (by rw [hw]; exact hlt) (fun h => hbad (hb b h)) hc hf (fun i j e x he hx => by rw [hw]; exact hcell i j e x he hx) ih
  | clipNil a => exact .clipNil a
  | clip es b off sz c hlt hbad hf hcell _ ih => exact .clip es b off sz c (by rw [hw]; exact hlt) (fun h => hbad (hb b h)) hf (fun i j e x he hx => by rw [hw]; exact hcell i j e x he hx) ih
  | view id off len v hid hs h1 =>
    refine .view id off len v (by omega) (fun es he => ?_) h1
    obtain ⟨es0, h0⟩ := hg id es hid he
    rw [hpl id hid]; exact hs es0 h0
  | ref id i j v hid hs h1 =>
    refine .ref id i j v (by omega) (fun es he => ?_) h1
    obtain ⟨es0, h0⟩ := hg id es hid he
    rw [hpl id hid]; exact hs es0 h0
  | mref id v hid hs h1 =>
    refine .mref id v (by omega) (fun es he => ?_) h1
    obtain ⟨es0, h0⟩ := hg id es hid he
    rw [hpl id hid]; exact hs es0 h0
  | pp fl j b off c hlt hbad hcell _ ih => exact .pp fl j b off c (by rw [hw]; exact hlt) (fun h => hbad (hb b h)) (fun k x hx => by rw [hw]; exact hcell k x hx) ih
  | agg cs vs hs h1 _ ih => exact .agg cs vs hs h1 ih
  | tuple cs vs hs _ ih => exact .tuple cs vs hs ih
  | ifc t x v _ ih => exact .ifc t x v ih
  | clo fn caps vs hs _ ih => exact .clo fn caps vs hs ih

def Ctx.plain (C : Ctx) : Ctx := { C with H := { C.H with lps := [] }, dfs := [], pin := 0 }

theorem plain_own {b : Nat} (h : C.plain.own b) : C.own b := by
  rcases h with ⟨id, es, h1, h2, h3⟩ | ⟨r, h⟩ | h
  · exact .inl ⟨id, es, h1, h2, h3⟩
  · simp [Ctx.plain, lk] at h
  · simp [Ctx.plain] at h

theorem Rep.plain {x : AV} {v : Value} (h : Rep C x v) : Rep C.plain x v :=
  h.sub rfl (Nat.le_refl _) (fun id es _ h => ⟨es, h⟩) (fun _ _ => rfl) (fun b h => h.imp plain_own id)

theorem Inv.plain (hI : Inv W0 C) : Inv (.of W0.w) C.plain where
  fresh := hI.fresh
  nil := hI.nil
  obj id es h hn := by
    have hO := hI.obj id es h hn
    exact ⟨hO.n, hO.cap, hO.blk, hO.one, hO.flat, fun i j e x v h1 h2 h3 => (hO.cell i j e x v h1 h2 h3).plain⟩
  sep := hI.sep
  prot := hI.prot
  szok := hI.szok
  protlt := hI.protlt
  protge := hI.protge
  size := hI.size
  glob b h := ⟨(hI.glob b h).1, fun ho => (hI.glob b h).2 (plain_own ho)⟩
  lps l r h := by simp [Ctx.plain, lk] at h
  dfs d h := by simp [Ctx.plain] at h
  dnd := .nil
  rod := fun _ _ => rfl
  spprot b h := by
    rcases h with ⟨r, h⟩ | h
    · simp [Ctx.plain, lk] at h
    · simp [Ctx.plain] at h
  pinB := rfl
  pinlt := Nat.zero_le _
  gh := trivial

theorem rel_args {vals : Array Value} {xs : List AV} {n : Nat} {H : Heap} (h : Rel W0 n (lk (argsFr 0 xs)) H C { tmps := vals, defers := [] }) : ∀ (k : Nat) (x : AV), xs[k]? = some x → Rep C x (vals.getD k undef) := by
  have key : ∀ (xs : List AV) (q k : Nat) (x : AV), xs[k]? = some x → lk (argsFr q xs) (q + k) = some x := by
    intro xs
    induction xs with
    | nil => intro q k x h; simp at h
    | cons y ys ih =>
      intro q k x hk
      cases k with
      | zero => simp at hk; subst hk; simp [argsFr, lk]
      | succ k =>
        simp at hk
        simp only [argsFr, lk]
        rw [if_neg (by omega)]
        have := ih (q + 1) k x hk
        rwa [show q + 1 + k = q + (k + 1) by omega] at this
  intro k x hx
  have := key xs 0 k x hx
  rw [Nat.zero_add] at this
  exact h.rep k x this

theorem rel_bare {vals : Array Value} {ys : List AV} {pr : Nat → Prop} (hsz : vals.size = ys.length) (h : ∀ t x, lk (argsFr 0 ys) t = some x → Rep C x (vals.getD t undef)) (hno : ∀ y ∈ ys, NoId y) (hI1 : Inv (.of W0.w) (C.bare pr)) (hp : ∀ b, ¬ C.bad b → ¬ pr b) : Rel (.of W0.w) ys.length (lk (argsFr 0 ys)) .empty (C.bare pr) { tmps := vals, defers := [] } :=
  ⟨rfl, hI1, hsz, rfl, fun t x hx => by
    obtain ⟨_, h2⟩ := lk_argsFr ys 0 t x hx
    exact (h t x hx).bare (hno x (List.mem_of_getElem? h2)) hp⟩
theorem rel_plain {vals : Array Value} {ys : List AV} (hI : Inv W0 C) (hsz : vals.size = ys.length) (h : ∀ t x, lk (argsFr 0 ys) t = some x → Rep C x (vals.getD t undef)) : Rel (.of W0.w) ys.length (lk (argsFr 0 ys)) { C.H with lps := [] } C.plain { tmps := vals, defers := [] } :=
  ⟨rfl, hI.plain, hsz, rfl, fun t x hx => (h t x hx).plain⟩

theorem dfs_nil {n : Nat} {f : Fr} {vals : Array Value} (h : Rel W0 n f H C { tmps := vals, defers := W0.dx }) : C.dfs = [] := by
  have := congrArg List.length h.defers
  simp only [List.length_append, List.length_map] at this
  exact List.eq_nil_of_length_eq_zero (by omega)

theorem call_ops {f : FuncId} {args : Array Operand} {tys : Array TypeId} (ho : o.op = .call { callee := .value (.func f), args := args, argTypes := tys }) (hop : ∀ x ∈ o.op.operands, RepO C fr a x) : ∀ y ∈ args.toList, RepO C fr a y := fun y hy =>
  hop y (by rw [ho]; simp [Op.operands, Call.operands]; exact .inr (by simpa using hy))

def Enters (P : Program) (o : Oper) (fr : Fr) (f : FuncId) (ys : List AV) : Prop :=
  ∀ (C : Ctx) (a : Act), (∀ x ∈ o.op.operands, RepO C fr a x) → ∃ vals : Array Value, (∀ w, (execOp a.eval o).run P w = .ok (.enter f vals) w) ∧ vals.size = ys.length ∧ ∀ t x, lk (argsFr 0 ys) t = some x → Rep C x (vals.getD t undef)

theorem Enters.func {f : FuncId} {args : Array Operand} {tys : Array TypeId} {ys : List AV} (ho : o.op = .call { callee := .value (.func f), args := args, argTypes := tys }) (hys : args.toList.mapM (evalA fr) = some ys) (hc : Callable P f) : Enters P o fr f ys := fun C a hop =>
  ⟨args.map a.eval, fun w => resolve_func ho hc w, args_rep (call_ops ho hop) hys⟩

theorem inv_bare2 (hI : Inv W0 C) : Inv (.of W0.w) (C.bare (fun b => C.prot b ∨ C.own b)) := hI.bare (fun b hb => by
    rcases hb with h | h
    · exact hI.protlt b h
    · exact hI.own_lt h) (fun b hb => by
    rcases hb with h | h
    · exact hI.protge b h
    · exact hI.own_ge h)

theorem aop_callNE {f : FuncId} {ys xs : List AV} {r : AV} (he : Enters P o fr f ys) (hw : Weak (.of W0.w) ys.length ⟨argsFr 0 ys, .empty⟩ ⟨argsFr 0 xs, .empty⟩) (hl : xs.length = ys.length) (hno : ∀ y ∈ ys, NoId y)
    (hf : Fun1 P W0.w f xs r) : AOp P W0 o fr H r H := by
  intro C a hI hH hop K Q hK
  obtain ⟨vals, hrun, hr0⟩ := he C a hop
  unfold Oper.wp
  rw [hrun, Oper.upon_enter]
  have hr1 := rel_bare (pr := fun b => C.prot b ∨ C.own b) hr0.1 hr0.2 hno (inv_bare2 hI) (fun b hb h => hb (h.elim .inr .inl))
  obtain ⟨C0, q1, q2, q3⟩ := hw _ _ hr1
  have hw0 : C0.w = C.w := q1
  have hsz : vals.size = xs.length := by rw [hl]; exact q3.size
  have := hf.runs C0 vals q3.inv q3.heap (dfs_nil q3) hsz (rel_args q3)
  rw [hw0] at this
  refine this.mono ?_
  rintro e w' ⟨v, C1, rfl, rfl, hE, hI', hr⟩
  have hn0 : ∀ b, ¬ C0.own b := own_none q3.heap (dfs_nil q3)
  have hB' : RowKit.Below C.w.heap.size C.w C1.w := by have := below_of_ext hE hn0; rwa [hw0] at this
  have hp1 : C1.prot = fun b => C.prot b ∨ C.own b := by rw [hE.prot]; exact q2.prot
  refine hK v (C.inW C1.w) (ext_of_block hB') (hI.inW hB') hH (hr.move hf.noid (Nat.le_refl _) (fun b hb hn => ⟨rfl, fun h => hn ?_⟩))
  refine .inr ?_
  rw [hp1]
  rcases h with h | h
  · exact .inr h
  · exact .inl h
theorem aop_callN {f : FuncId} {args : Array Operand} {tys : Array TypeId} {ys xs : List AV} {r : AV} (ho : o.op = .call { callee := .value (.func f), args := args, argTypes := tys }) (hys : args.toList.mapM (evalA fr) = some ys) (hw : Weak (.of W0.w) ys.length ⟨argsFr 0 ys, .empty⟩ ⟨argsFr 0 xs, .empty⟩) (hl : xs.length = ys.length) (hno : ∀ y ∈ ys, NoId y)
    (hf : Fun1 P W0.w f xs r) : AOp P W0 o fr H r H :=
  aop_callNE (.func ho hys hf.call) hw hl hno hf

theorem aop_callLE {f : FuncId} {ys xs : List AV} {r : AV} (he : Enters P o fr f ys) (hw : Weak (.of W0.w) ys.length ⟨argsFr 0 ys, { H with lps := [] }⟩ ⟨argsFr 0 xs, .empty⟩) (hl : xs.length = ys.length)
    (hf : Fun1 P W0.w f xs r) (hd : Dry r) : AOp P W0 o fr H r H := by
  intro C a hI hH hop K Q hK
  subst hH
  obtain ⟨vals, hrun, hr0⟩ := he C a hop
  unfold Oper.wp
  rw [hrun, Oper.upon_enter]
  obtain ⟨C0, q1, q2, q3⟩ := hw _ _ (rel_plain hI hr0.1 hr0.2)
  have hw0 : C0.w = C.w := q1
  have hsz : vals.size = xs.length := by rw [hl]; exact q3.size
  have := hf.runs C0 vals q3.inv q3.heap (dfs_nil q3) hsz (rel_args q3)
  rw [hw0] at this
  refine this.mono ?_
  rintro e w' ⟨v, C1, rfl, rfl, hE, hI', hr⟩
  have hn0 : ∀ b, ¬ C0.own b := own_none q3.heap (dfs_nil q3)
  have hB' : RowKit.Below C.w.heap.size C.w C1.w := by have := below_of_ext hE hn0; rwa [hw0] at this
  exact hK v (C.inW C1.w) (ext_of_block hB') (hI.inW hB') rfl (hd.rep hr)
theorem aop_callL {f : FuncId} {args : Array Operand} {tys : Array TypeId} {ys xs : List AV} {r : AV} (ho : o.op = .call { callee := .value (.func f), args := args, argTypes := tys }) (hys : args.toList.mapM (evalA fr) = some ys) (hw : Weak (.of W0.w) ys.length ⟨argsFr 0 ys, { H with lps := [] }⟩ ⟨argsFr 0 xs, .empty⟩) (hl : xs.length = ys.length)
    (hf : Fun1 P W0.w f xs r) (hd : Dry r) : AOp P W0 o fr H r H :=
  aop_callLE (.func ho hys hf.call) hw hl hf hd

def ShiftAll (ok : AV → Prop) (n : Nat) : List AV → List AV → Prop
  | [], [] => True
  | x :: l, y :: m => Shift ok n x y ∧ ShiftAll ok n l m
  | _, _ => False

theorem ShiftAll.spec {ok : AV → Prop} {n : Nat} : ∀ {l m : List AV}, ShiftAll ok n l m → l.length = m.length ∧ ∀ (k : Nat) (x x' : AV), l[k]? = some x → m[k]? = some x' → Shift ok n x x'
  | [], [], _ => ⟨rfl, fun k x x' h => by simp at h⟩
  | x :: l, y :: m, h => by
    obtain ⟨h1, h2⟩ := ShiftAll.spec h.2
    refine ⟨by simp [h1], fun k u v hu hv => ?_⟩
    cases k with
    | zero => simp at hu hv; subst hu hv; exact h.1
    | succ k => simp at hu hv; exact h2 k u v hu hv
  | [], _ :: _, h => h.elim
  | _ :: _, [], h => h.elim
theorem Shift.ag {ok : AV → Prop} {n : Nat} {cs cs' : List AV} (h : ShiftAll ok n cs cs') : Shift ok n (.agg cs) (.agg cs') := .agg cs cs' h.spec.1 h.spec.2
theorem Shift.tp {ok : AV → Prop} {n : Nat} {cs cs' : List AV} (h : ShiftAll ok n cs cs') : Shift ok n (.tuple cs) (.tuple cs') := .tuple cs cs' h.spec.1 h.spec.2

theorem ext_from {C0 : Ctx} {pr : Nat → Prop} (hw : C0.w = C.w) (hp : C0.prot = pr) (hd0 : C0.dfs = []) (hp0 : C0.pin = 0) (hn0 : ∀ b, ¬ C0.own b) (hE : Ext C0 C1) : Ext (C.bare pr) C1 where
  below := by have := hE.below; rw [hw] at this; exact this
  keep b hb _ := by have := hE.keep b (by rw [hw]; exact hb) (hn0 b); rw [this, hw]; rfl
  own b hb h := absurd (hE.own b (by rw [hw]; exact hb) h) (hn0 b)
  next := Nat.zero_le _
  id i es hi _ := absurd hi (Nat.not_lt_zero _)
  prot := hE.prot.trans hp
  dfs := hE.dfs.trans hd0
  pin := hE.pin.trans hp0

theorem aop_call2NE {f : FuncId} {ys xs : List AV} {r : AV} {Hr : Heap} (r' : AV) (objs' : List (Nat × (Nat × List AV))) (he : Enters P o fr f ys) (hw : Weak (.of W0.w) ys.length ⟨argsFr 0 ys, .empty⟩ ⟨argsFr 0 xs, .empty⟩) (hl : xs.length = ys.length) (hno : ∀ y ∈ ys, NoId y)
    (hf : Fun2 P W0.w f xs r Hr) (hr : Shift NoId H.next r r') (hJ : Joined NoId H.next Hr.objs objs') : AOp P W0 o fr H r' { next := H.next + Hr.next, objs := H.objs ++ objs', lps := H.lps } := by
  intro C a hI hH hop K Q hK
  subst hH
  obtain ⟨vals, hrun, hr0⟩ := he C a hop
  unfold Oper.wp
  rw [hrun, Oper.upon_enter]
  have hr1 := rel_bare (pr := fun b => C.prot b ∨ C.own b) hr0.1 hr0.2 hno (inv_bare2 hI) (fun b hb h => hb (h.elim .inr .inl))
  obtain ⟨C0, q1, q2, q3⟩ := hw _ _ hr1
  have hw0 : C0.w = C.w := q1
  have hsz : vals.size = xs.length := by rw [hl]; exact q3.size
  have := hf.runs C0 vals q3.inv q3.heap (dfs_nil q3) hsz (rel_args q3)
  rw [hw0] at this
  refine this.mono ?_
  rintro e w' ⟨v, C1, rfl, rfl, hE0, hI', hH1, hr1⟩
  subst hH1
  have hn0 : ∀ b, ¬ C0.own b := own_none q3.heap (dfs_nil q3)
  have hE := ext_from (C := C) (pr := fun b => C.prot b ∨ C.own b) hw0 q2.prot (dfs_nil q3) q3.inv.pinB hn0 hE0
  obtain ⟨h1, h2, h3⟩ := join_rules (ok := NoId) (pr := fun b => C.prot b ∨ C.own b) hI hI' hE (fun b h => .inl h) hJ (fun x v hx hrx hb => by
    by_cases hd : ∃ b, b < C1.w.heap.size ∧ ¬ C1.bad b ∧ (C.join C1 objs').bad b
    · obtain ⟨b, q1, q2, q3⟩ := hd
      rcases hb b q1 q2 with h | h
      · exact absurd q3 h
      · exact h _
    · exact hrx.move hx (Nat.le_refl _) (fun b q1 q2 => ⟨rfl, fun q3 => hd ⟨b, q1, q2, q3⟩⟩)) (.inl fun b h => .inr h)
  exact hK v (C.join C1 objs') h1 h2 rfl (h3 r r' v hr hr1)
theorem aop_call2N {f : FuncId} {args : Array Operand} {tys : Array TypeId} {ys xs : List AV} {r : AV} {Hr : Heap} (r' : AV) (objs' : List (Nat × (Nat × List AV))) (ho : o.op = .call { callee := .value (.func f), args := args, argTypes := tys }) (hys : args.toList.mapM (evalA fr) = some ys) (hw : Weak (.of W0.w) ys.length ⟨argsFr 0 ys, .empty⟩ ⟨argsFr 0 xs, .empty⟩) (hl : xs.length = ys.length) (hno : ∀ y ∈ ys, NoId y)
    (hf : Fun2 P W0.w f xs r Hr) (hr : Shift NoId H.next r r') (hJ : Joined NoId H.next Hr.objs objs') : AOp P W0 o fr H r' { next := H.next + Hr.next, objs := H.objs ++ objs', lps := H.lps } :=
  aop_call2NE r' objs' (.func ho hys hf.call) hw hl hno hf hr hJ

theorem aop_call2LE {f : FuncId} {ys xs : List AV} {r : AV} {Hr : Heap} (r' : AV) (objs' : List (Nat × (Nat × List AV))) (he : Enters P o fr f ys) (hw : Weak (.of W0.w) ys.length ⟨argsFr 0 ys, { H with lps := [] }⟩ ⟨argsFr 0 xs, .empty⟩) (hl : xs.length = ys.length)
    (hf : Fun2 P W0.w f xs r Hr) (hr : Shift Dry H.next r r') (hJ : Joined Dry H.next Hr.objs objs') : AOp P W0 o fr H r' { next := H.next + Hr.next, objs := H.objs ++ objs', lps := H.lps } := by
  intro C a hI hH hop K Q hK
  subst hH
  obtain ⟨vals, hrun, hr0⟩ := he C a hop
  unfold Oper.wp
  rw [hrun, Oper.upon_enter]
  obtain ⟨C0, q1, q2, q3⟩ := hw _ _ (rel_plain hI hr0.1 hr0.2)
  have hw0 : C0.w = C.w := q1
  have hsz : vals.size = xs.length := by rw [hl]; exact q3.size
  have := hf.runs C0 vals q3.inv q3.heap (dfs_nil q3) hsz (rel_args q3)
  rw [hw0] at this
  refine this.mono ?_
  rintro e w' ⟨v, C1, rfl, rfl, hE0, hI', hH1, hr1⟩
  subst hH1
  have hn0 : ∀ b, ¬ C0.own b := own_none q3.heap (dfs_nil q3)
  have hE := ext_from (C := C) (pr := C.prot) hw0 q2.prot (dfs_nil q3) q3.inv.pinB hn0 hE0
  obtain ⟨h1, h2, h3⟩ := join_rules (ok := Dry) (pr := C.prot) hI hI' hE (fun b h => h) hJ (fun x v hx hrx _ => hx.rep hrx) (.inr fun x h => h)
  exact hK v (C.join C1 objs') h1 h2 rfl (h3 r r' v hr hr1)
theorem aop_call2L {f : FuncId} {args : Array Operand} {tys : Array TypeId} {ys xs : List AV} {r : AV} {Hr : Heap} (r' : AV) (objs' : List (Nat × (Nat × List AV))) (ho : o.op = .call { callee := .value (.func f), args := args, argTypes := tys }) (hys : args.toList.mapM (evalA fr) = some ys) (hw : Weak (.of W0.w) ys.length ⟨argsFr 0 ys, { H with lps := [] }⟩ ⟨argsFr 0 xs, .empty⟩) (hl : xs.length = ys.length)
    (hf : Fun2 P W0.w f xs r Hr) (hr : Shift Dry H.next r r') (hJ : Joined Dry H.next Hr.objs objs') : AOp P W0 o fr H r' { next := H.next + Hr.next, objs := H.objs ++ objs', lps := H.lps } :=
  aop_call2LE r' objs' (.func ho hys hf.call) hw hl hf hr hJ


theorem rel_one {W0 : Base} {C : Ctx} {q : AV} {v : Value} (hI : Inv W0 C) (hd : C.dfs = []) (h : Rep C q v) : Rel W0 1 (lk [(0, q)]) C.H C { tmps := #[v], defers := W0.dx } :=
  ⟨rfl, hI, rfl, by simp [hd], fun t x hx => by
    simp only [lk] at hx
    split at hx
    · rename_i ht; subst ht; cases hx; exact h
    · cases hx⟩

theorem rel_start {W0 : Base} {C : Ctx} {fn : Func} {xs : List AV} {vals : Array Value} {H : Heap} {N : Nat} (hI : Inv W0 C) (hH : C.H = H) (hd : C.dfs = []) (hN : fn.ntmps = N) (hxN : xs.length ≤ N) (hsz : vals.size = xs.length) (hrep : ∀ (k : Nat) (x : AV), xs[k]? = some x → Rep C x (vals.getD k undef)) (hdx : W0.dx = []) :
    Rel W0 N (lk (argsFr 0 xs)) H C { tmps := vals ++ Array.replicate (fn.ntmps - vals.size) undef, defers := [] } := by
  refine ⟨hH, hI, by simp [hN]; omega, by simp [hd, hdx], fun t x hx => ?_⟩
  obtain ⟨_, h2⟩ := lk_argsFr xs 0 t x hx
  have hlt : t < vals.size := by rw [hsz]; exact (List.getElem?_eq_some_iff.1 h2).1
  have := hrep t x h2
  have e : (vals ++ Array.replicate (fn.ntmps - vals.size) undef).getD t undef = vals.getD t undef := by
    rw [Array.getD_eq_getD_getElem?, Array.getElem?_append_left hlt, ← Array.getD_eq_getD_getElem?]
  rw [e]; exact this

theorem drain {W0 : Base} {fn : Func} {tmps : Array Value} {R : Ending → World → Prop} {H : Heap} {Q : Ctx → Prop} {u : FrameMode} (hu : u ≠ .run) {ds : List Deferred} (hQ : ∀ C2, Q C2 → C2.dfs = [] → LeavesInM Fence.wide 0 P fn tmps R ds u C2.w) :
    ∀ (l : List Nat) (C : Ctx), C.dfs = l → Inv W0 C → C.H = H → (∀ C2, C2.H = C.H → C2.pl = C.pl → Mem C C2 → Inv W0 C2 → C2.dfs = [] → (∀ x v, Rep C x v → Rep C2 x v) → Q C2) →
      LeavesInM Fence.wide 0 P fn tmps R ((l.map fun d => { target := .collected d, args := #[] }) ++ ds) u C.w
  | [], C, hl, hI, hH, hq => hQ C (hq C rfl rfl (.refl C) hI hl (fun _ _ h => h)) hl
  | d :: l, C, hl, hI, hH, hq => by
    have hd : C.w.heap[d]? = some (.deferred (some [])) := hI.dfs d (by rw [hl]; exact List.mem_cons_self ..)
    have hdlt : d < C.w.heap.size := (Array.getElem?_eq_some_iff.1 hd).1
    have hnd : d ∉ l := by have := hI.dnd; rw [hl] at this; exact (List.nodup_cons.1 this).1
    refine ⟨hu, .inl ⟨d, C.w.putObj d (.deferred none), rfl, run_takeDeferred hd, ?_⟩⟩
    -- the context behind it
    let C1 : Ctx := { C with w := C.w.putObj d (.deferred none), dfs := l }
    have hne : ∀ b, b ≠ d → C1.w.heap[b]? = C.w.heap[b]? := fun b hb => World.putObj_heap_other hb
    have hcell : ∀ {b : Nat} {arr : Array Value} {el : TypeId} {fz : Nat × Nat}, C.w.heap[b]? = some (.cells arr el fz) → b ≠ d := fun {b arr el fz} h hb => by
      subst hb; rw [hd] at h; cases h
    have hcellD : ∀ {b : Nat} {o : Obj}, C.w.heap[b]? = some o → isD o → b ≠ d := fun {b o} h h2 hb => by
      subst hb; rw [hd] at h; cases h; rcases h2 with ⟨_, _, h⟩ | ⟨_, _, h⟩ <;> cases h
    have hown : ∀ b, C1.own b → C.own b := by
      rintro b (⟨id, es, h1, h2, h3⟩ | h | h)
      · exact .inl ⟨id, es, h1, h2, h3⟩
      · exact .inr (.inl h)
      · exact .inr (.inr (by rw [hl]; exact List.mem_cons_of_mem _ h))
    have hM : Mem C C1 := ⟨⟨rfl, rfl, rfl, by simp [C1], fun k hk => absurd hk (Nat.not_lt_zero k)⟩, fun b _ hb => hne b (fun h => hb (.inr (.inr (by rw [h, hl]; exact List.mem_cons_self ..)))), fun b _ h => hown b h, rfl, rfl, fun hp => ⟨hp, fun k es' _ hg => ⟨⟨es', hg⟩, rfl⟩⟩⟩
    have hholds : ∀ {b o : Nat} {v : Value}, Holds C.w b o v → Holds C1.w b o v := fun {b o v} h => by
      refine ⟨?_, h.2⟩
      have hb : b ≠ d := fun hb => by
        subst hb
        have := h.1
        simp [World.cell?, hd] at this
      rw [World.cell?_of_block (w := C.w) (a := ⟨b, o, none⟩) (hne b hb)]
      exact h.1
    have hrep : ∀ x v, Rep C x v → Rep C1 x v := by
      intro x v h
      induction h with
      | any v => exact .any v
      | imm v hv => exact .imm v hv
      | slNil a cap => exact .slNil a cap
      | sl es b off sz cap c hlt hbad hc hf hcell _ ih => exact .sl es b off sz cap c (by simpa [C1] using hlt) (fun h => hbad (h.imp (hown b) id)) hc hf (fun i j e x he hx => hholds (hcell i j e x he hx)) ih
      | clipNil a => exact .clipNil a
      | clip es b off sz c hlt hbad hf hcell _ ih => exact .clip es b off sz c (by simpa [C1] using hlt) (fun h => hbad (h.imp (hown b) id)) hf (fun i j e x he hx => hholds (hcell i j e x he hx)) ih
      | view id off len v hid hs h1 => exact .view id off len v hid hs h1
      | ref id i j v hid hs h1 => exact .ref id i j v hid hs h1
      | mref id v hid hs h1 => exact .mref id v hid hs h1
      | pp fl j b off c hlt hbad hcell _ ih => exact .pp fl j b off c (by simpa [C1] using hlt) (fun h => hbad (h.imp (hown b) id)) (fun k x hx => hholds (hcell k x hx)) ih
      | agg cs vs hs h1 _ ih => exact .agg cs vs hs h1 ih
      | tuple cs vs hs _ ih => exact .tuple cs vs hs ih
      | ifc t x v _ ih => exact .ifc t x v ih
      | clo fn caps vs hs _ ih => exact .clo fn caps vs hs ih
    have hI1 : Inv W0 C1 := {
      fresh := hI.fresh
      nil := hI.nil
      obj := fun id es h hn => by
        have hO := hI.obj id es h hn
        obtain ⟨ob, h1, h2⟩ := hO.dat
        have hb := hcellD h1 h2
        have hc : ∀ o, C1.w.cell? ⟨(C.pl id).blk, o, none⟩ = C.w.cell? ⟨(C.pl id).blk, o, none⟩ := fun o => World.cell?_of_block (w := C.w) (a := ⟨_, o, none⟩) (hne _ hb)
        exact ⟨hO.n, hO.cap, by rw [hne _ hb]; exact hO.blk, fun o v hv => hO.one o v (by rw [← hc o]; exact hv), hO.flat, fun i j e x v h1 h2 h3 => hrep _ _ (hO.cell i j e x v h1 h2 (by rw [← hc]; exact h3))⟩
      sep := hI.sep
      prot := hI.prot
      szok := hI.szok
      protlt := fun b h => by simpa [C1] using hI.protlt b h
      protge := hI.protge
      size := by simpa [C1] using hI.size
      glob := fun b h => ⟨by
        rw [← (hI.glob b h).1]
        exact hne b (fun hb => (hI.glob b h).2 (.inr (.inr (by rw [hb, hl]; exact List.mem_cons_self ..)))), fun ho => (hI.glob b h).2 (hown b ho)⟩
      lps := fun q r h => by
        rw [← hI.lps q r h]
        refine hne q (fun hq => ?_)
        have := hI.lps q r h
        rw [hq, hd] at this; cases this
      dfs := fun q h => by
        rw [← hI.dfs q (by rw [hl]; exact List.mem_cons_of_mem _ h)]
        exact hne q (fun hq => hnd (hq ▸ h))
      dnd := by have := hI.dnd; rw [hl] at this; exact (List.nodup_cons.1 this).2
      rod := fun q h => by have := hI.rod q h; rw [hl] at this; cases this
      spprot := fun b h => hI.spprot b (by
        rcases h with h | h
        · exact .inl h
        · exact .inr (by rw [hl]; exact List.mem_cons_of_mem _ h))
      pinB := hI.pinB
      pinlt := hI.pinlt
      gh := W0.st C C1 hM hI.pinlt hI.gh }
    exact drain hu hQ l C1 rfl hI1 hH (fun C2 h1 h2 h3 h4 h5 h6 => hq C2 h1 h2 (hM.trans h3) h4 h5 (fun x v h => h6 x v (hrep x v h)))

theorem calls_of_awp {W0 : Base} {N : Nat} {f : FuncId} {fn : Func} {c : Code} {xs : List AV} {r : AV} {Hin Hr : Heap} (hf : P.funcs[f]? = some fn) (hb : fn.body = some c) (hN : fn.ntmps = N) (hxN : xs.length ≤ N) (hro : W0.ro = none)
    (h : AWP P W0 N c ⟨argsFr 0 xs, Hin⟩ (fun e s => (e = .normal ∨ e = .ret) ∧ ∃ q, resA P fn.results.toList s = some q ∧ Weak W0 1 ⟨[(0, q)], s.H⟩ ⟨[(0, r)], Hr⟩))
    (C : Ctx) (vals : Array Value) (hI : Inv W0 C) (hH : C.H = Hin) (hd : C.dfs = []) (hsz : vals.size = xs.length) (hrep : ∀ (k : Nat) (x : AV), xs[k]? = some x → Rep C x (vals.getD k undef)) (hdx : W0.dx = [] := by rfl) :
    Calls P f vals C.w (fun e w' => ∃ v C', e = .returned v ∧ C'.w = w' ∧ Mem C C' ∧ Inv W0 C' ∧ C'.H = Hr ∧ C'.dfs = [] ∧ Rep C' r v) := by
  refine (callsIn_wide (n := 0)).1 (callsIn_of_wp_marks hf hb trivial ?_)
  have hrel := rel_start (W0 := W0) hI hH hd hN hxN hsz hrep hdx
  have key := h C _ hrel
  rw [hro, fw_none] at key
  refine wpIn_mono key fun e a' w' ⟨s, C', g1, g2, g3, g4, q, g5, g6⟩ => ?_
  subst g1
  have main : LeavesInM Fence.wide 0 P fn a'.tmps (fun e w' => ∃ v C', e = .returned v ∧ C'.w = w' ∧ Mem C C' ∧ Inv W0 C' ∧ C'.H = Hr ∧ C'.dfs = [] ∧ Rep C' r v) a'.defers .returning C'.w := by
    rw [g3.defers, hdx]
    refine drain (W0 := W0) (u := .returning) (by simp) (ds := []) (Q := fun C2 => Rel W0 N (lk s.fr) s.H C2 { tmps := a'.tmps, defers := [] } ∧ Mem C C2) (fun C2 hq hd2 => ?_) C'.dfs C' rfl g3.inv g3.heap (fun C2 h1 h2 h3 h4 h5 h6 => ⟨⟨h1.trans g3.heap, h4, g3.size, by simp [h5, hdx], fun t x hx => h6 x _ (g3.rep t x hx)⟩, g2.trans h3⟩)
    obtain ⟨hq, hm⟩ := hq
    obtain ⟨v, g7, g8⟩ := run_results hq g5
    have g9 := rel_one hq.inv hd2 g8
    rw [hq.heap] at g9
    obtain ⟨C3, q1, q2, q3⟩ := g6 C2 _ g9
    exact ⟨v, g7, v, C3, rfl, q1, hm.trans q2, q3.inv, q3.heap, dfs_nil q3, q3.rep 0 r rfl⟩
  rcases g4 with rfl | rfl
  · exact main
  · exact main

theorem fun2_of_awp {W0 : World} {N : Nat} {f : FuncId} {fn : Func} {c : Code} {xs : List AV} {r : AV} {Hr : Heap} (hf : P.funcs[f]? = some fn) (hb : fn.body = some c) (hname : (fn.name == "runtime.NumGoroutine") = false) (hN : fn.ntmps = N) (hxN : xs.length ≤ N)
    (h : AWP P (.of W0) N c ⟨argsFr 0 xs, .empty⟩ (fun e s => (e = .normal ∨ e = .ret) ∧ ∃ q, resA P fn.results.toList s = some q ∧ Weak (.of W0) 1 ⟨[(0, q)], s.H⟩ ⟨[(0, r)], Hr⟩)) : Fun2 P W0 f xs r Hr where
  call := callable_of hf hname hb
  runs C vals hI hH hd hsz hrep := (calls_of_awp hf hb hN hxN rfl h C vals hI hH hd hsz hrep).mono fun e w' ⟨v, C', h1, h2, h3, h4, h5, h6, h7⟩ =>
    ⟨v, C', h1, h2, ⟨h3.below, h3.keep, h3.own, by rw [hH]; exact Nat.zero_le _, fun id es hi _ => by rw [hH] at hi; exact absurd hi (Nat.not_lt_zero _), h3.prot, h6.trans hd.symm, h3.pin⟩, h4, h5, h7⟩

theorem Fun2.give {W0 : World} {f : FuncId} {xs : List AV} {r r' : AV} {Hr : Heap} (h : Fun2 P W0 f xs r Hr) (hw : Weak (.of W0) 1 ⟨[(0, r)], Hr⟩ ⟨[(0, r')], .empty⟩) (hn : NoId r') : Fun1 P W0 f xs r' where
  call := h.call
  noid := hn
  runs C vals hI hH hd hsz hrep := (h.runs C vals hI hH hd hsz hrep).mono fun e w' ⟨v, C', h1, h2, h3, h4, h5, h6⟩ => by
    have g := rel_one h4 (h3.dfs.trans hd) h6
    rw [h5] at g
    obtain ⟨C2, q1, q2, q3⟩ := hw C' _ g
    refine ⟨v, C2, h1, q1.trans h2, ?_, q3.inv, q3.rep 0 r' rfl⟩
    have hm := h3.mem.trans q2
    refine ⟨hm.below, hm.keep, hm.own, by rw [hH]; exact Nat.zero_le _, fun id es hi _ => ?_, hm.prot, (dfs_nil q3).trans hd.symm, hm.pin⟩
    rw [hH] at hi; exact absurd hi (Nat.not_lt_zero _)

theorem Fun1.two {W0 : World} {f : FuncId} {xs : List AV} {r : AV} (h : Fun2 P W0 f xs r .empty) (hn : NoId r) : Fun1 P W0 f xs r := h.give (Weak.refl _) hn
end
end Go.Av
end

section
/- Sets of numbers as bits: plain facts on 64 bits. -/
namespace Bv

theorem tb (k a b i : Nat) (hb : b < 2 ^ k) : (2 ^ k * a + b).testBit i = if i < k then b.testBit i else a.testBit (i - k) := Nat.testBit_two_pow_mul_add a hb i

def list (s : BitVec 64) : List Nat := (List.range 64).filter fun i => s.getLsbD i

def has (s : BitVec 64) (i : Int) : Bool := decide (0 ≤ i) && decide (i < 64) && s.getLsbD i.toNat
def least (s : BitVec 64) : Int := match list s with | [] => -1 | i :: _ => i
theorem ext {s t : BitVec 64} (h : ∀ i, i < 64 → s.getLsbD i = t.getLsbD i) : s = t := BitVec.eq_of_getLsbD_eq (fun i hi => h i hi)

def tab : List Nat := [0, 1, 56, 2, 57, 49, 28, 3, 61, 58, 42, 50, 38, 29, 17, 4, 62, 47, 59, 36, 45, 43, 51, 22, 53, 39, 33, 30, 24, 18, 12, 5, 63, 55, 48, 27, 60, 41, 37, 16, 46, 35, 44, 21, 52, 32, 23, 11, 54, 26, 40, 15, 34, 20, 31, 10, 25, 14, 19, 9, 13, 8, 7, 6]
end Bv
end

section
/- The table of math/bits, as numbers. -/
namespace Go.Sh
end Go.Sh
end

section
/- The rules once more, over lists of plain data. -/
namespace Go.Av
abbrev w64 (n : Int) : Int := IntKind.i64.wrap n
section
variable {P : Program} {W0 : Base} {fr : Fr} {H : Heap} {o : Oper} {α : Type} {enc : α → AV} {l : List α} {i : Int} {x : α} {ki : IntKind}

theorem getM {k : Nat} (h : l[k]? = some x) : (l.map enc)[k]? = some (enc x) := by simp [h]

theorem t_index_sl {t e : TypeId} {s by' : Nat} {xo io : Operand} {k : Nat} (enc : α → AV) (l : List α) (hi : i = k) (hl : l[k]? = some x) (ho : o.op = .indexAddr t xo io) (hx : evalA fr xo = some (.sl (l.map enc))) (hio : evalA fr io = some (.imm (.int ki i)))
    (ht : elT P t = some (e, s, by')) (hs : (enc x).flat.length = s) : AOp P W0 o fr H (.pp (enc x).flat 0) H :=
  aop_index_sl ho hx (.inl rfl) hio ht hi (getM hl) hs
theorem t_index_view {t e : TypeId} {s by' id n : Nat} {xo io : Operand} {k : Nat} (enc : α → AV) (l : List α) (hi : i = k) (hl : l[k]? = some x) (hn : n = (l.map enc).length) (ho : o.op = .indexAddr t xo io) (hx : evalA fr xo = some (.view id 0 n)) (hid : H.get id = some (l.map enc)) (hio : evalA fr io = some (.imm (.int ki i)))
    (ht : elT P t = some (e, s, by')) (hs : (enc x).flat.length = s) : AOp P W0 o fr H (.ref id k 0) H := by
  subst hn
  have hk : k < (l.map enc).length := by have := (List.getElem?_eq_some_iff.1 hl).1; simpa using this
  have := aop_index_view (P := P) (W0 := W0) (o := o) (fr := fr) (H := H) ho hx hid hio ht hi hk (el := enc x) (by rw [Nat.zero_add]; exact getM hl) hs
  rwa [Nat.zero_add] at this
theorem t_load_el {t : TypeId} {xo : Operand} {id k j n : Nat} {g : Bool} {r : AV} (enc : α → AV) (l : List α) (hl : l[k]? = some x) (ho : o.op = .load t xo) (hx : evalA fr xo = some (.ref id k j)) (hid : H.get id = some (l.map enc))
    (ht : szT P t = some (n, g)) (hr : partA (enc x).flat j n g = some r) : AOp P W0 o fr H r H := aop_load_ref ho hx hid (getM hl) ht hr
theorem t_store_el {t : TypeId} {xo yo : Operand} {id k j n : Nat} {g : Bool} {ay : AV} (enc : α → AV) (l : List α) (x' : α) (hi : i = k) (hl : l[k]? = some x) (ho : o.op = .store t xo yo) (hx : evalA fr xo = some (.ref id k j)) (hy : evalA fr yo = some ay) (hsol : ay.solid = true)
    (hid : H.get id = some (l.map enc)) (ht : szT P t = some (n, g)) (hn : ay.flat.length = n) (hj : j + n ≤ (enc x).flat.length) (he' : (enc x').flat = (enc x).flat.take j ++ ay.flat ++ (enc x).flat.drop (j + n)) (hn0 : 0 < n := by decide) :
    AOp P W0 o fr H .any (H.set id ((Sh.set l i x').map enc)) := by
  have := aop_store (P := P) (W0 := W0) (o := o) (fr := fr) (H := H) ho hx hy hsol hid (getM hl) ht hn hj he' hn0
  have e : (Sh.set l i x').map enc = (l.map enc).set k (enc x') := by subst hi; simp [Sh.set, List.map_set]
  rw [e]; exact this

theorem t_len_sl {t e : TypeId} {s by' : Nat} {xo : Operand} (enc : α → AV) (l : List α) (ho : o.op = .call { callee := .builtin .len, args := #[xo], argTypes := #[t] }) (hx : evalA fr xo = some (.sl (l.map enc))) (ht : elT P t = some (e, s, by')) : AOp P W0 o fr H (i64 (Sh.len l)) H :=
  (aop_len ho hx rfl ht).conv (by simp [Sh.len])
theorem t_len_view {t e : TypeId} {s by' id off n : Nat} {es : List AV} {xo : Operand} (enc : α → AV) (l : List α) (hn : n = (l.map enc).length) (ho : o.op = .call { callee := .builtin .len, args := #[xo], argTypes := #[t] }) (hx : evalA fr xo = some (.view id off n)) (hid : H.get id = some es) (ht : elT P t = some (e, s, by')) : AOp P W0 o fr H (i64 (Sh.len l)) H := by
  subst hn
  exact (aop_len_view ho hx hid ht).conv (by simp [Sh.len])

theorem flat_map {s : Nat} (h : ∀ x : α, (enc x).flat.length = s) (l : List α) : ∀ y ∈ l.map enc, y.flat.length = s := fun y hy => by
  obtain ⟨x, _, rfl⟩ := List.mem_map.1 hy; exact h x
theorem t_app_view {t ty e : TypeId} {s by' id n : Nat} {z : Value} {xo yo : Operand} {ay : AV} (enc : α → AV) (l m L : List α) (hL : Sh.app by' l m = some L) (hn : n = (l.map enc).length) (hT : ElT P t e s by' z) (hfl : ∀ x : α, (enc x).flat.length = s) (ho : o.op = .call { callee := .builtin .append, args := #[xo, yo], argTypes := #[t, t] }) (hty : o.type = ty)
    (hx : evalA fr xo = some (.view id 0 n)) (hid : H.get id = some (l.map enc)) (hs : H.sz id = some s) (hy : evalA fr yo = some ay) (hys : ay.elems H = some (m.map enc)) : AOp P W0 o fr H (.view H.next 0 (L.map enc).length) ((H.del id).push s (L.map enc)) := by
  subst hn
  obtain ⟨h1, rfl⟩ := Sh.app_some hL
  have := aop_append_view (P := P) (W0 := W0) (o := o) (fr := fr) (H := H) hT ho hty hx hid hs hy hys (flat_map hfl l) (flat_map hfl m) (by simpa using h1)
  simpa using this
theorem t_sub {t e : TypeId} {s by' : Nat} {xo : Operand} {lo hi : Option Operand} {ax : AV} {a b : Int} (enc : α → AV) (l L : List α) (hL : Sh.sub l a b = some L) (hfl : ∀ x : α, (enc x).flat.length = s) (ho : o.op = .slice t xo lo hi none) (hx : evalA fr xo = some ax) (hax : ax = .sl (l.map enc) ∨ ax = .clip (l.map enc))
    (hlo : (lo = none ∧ a = 0) ∨ ∃ y k, lo = some y ∧ evalA fr y = some (.imm (.int k a))) (hhi : (hi = none ∧ b = Sh.len l) ∨ ∃ y k, hi = some y ∧ evalA fr y = some (.imm (.int k b))) (ht : elT P t = some (e, s, by')) : AOp P W0 o fr H (.sl (L.map enc)) H := by
  obtain ⟨m, k, rfl, rfl, h1, h2, rfl⟩ := Sh.sub_some hL
  have g1 : ∀ d, (hlo' : (lo = none ∧ ((m : Int)) = 0) ∨ ∃ y k, lo = some y ∧ evalA fr y = some (.imm (.int k (m : Int)))) → d = 0 → optNat fr lo d = some m := fun d hlo' hd => by
    rcases hlo' with ⟨rfl, h⟩ | ⟨y, q, rfl, h⟩
    · have : m = 0 := by omega
      subst this; subst hd; rfl
    · simp [optNat, h]
  have g2 : optNat fr hi (l.map enc).length = some k := by
    rcases hhi with ⟨rfl, h⟩ | ⟨y, q, rfl, h⟩
    · simp only [Sh.len] at h
      have : k = l.length := by omega
      subst this; simp [optNat]
    · simp [optNat, h]
  have := aop_slice_sl (P := P) (W0 := W0) (o := o) (fr := fr) (H := H) ho hx hax ht (g1 0 hlo rfl) g2 h1 (by simpa using h2) (flat_map hfl l)
  rwa [← List.map_drop, ← List.map_take] at this

end

section
variable {W0 : Base} {N : Nat} {H : Heap} {g : List (Nat × Nat)} {nw : List Nat}

def SeeAll (H : Heap) (g : List (Nat × Nat)) (nw : List Nat) : List AV → List AV → Prop
  | [], [] => True
  | x :: l, y :: m => See H g nw x y ∧ SeeAll H g nw l m
  | _, _ => False

theorem SeeAll.spec : ∀ {l m : List AV}, SeeAll H g nw l m → l.length = m.length ∧ ∀ (k : Nat) (x x' : AV), l[k]? = some x → m[k]? = some x' → See H g nw x x'
  | [], [], _ => ⟨rfl, fun k x x' h => by simp at h⟩
  | x :: l, y :: m, h => by
    obtain ⟨h1, h2⟩ := SeeAll.spec h.2
    refine ⟨by simp [h1], fun k u v hu hv => ?_⟩
    cases k with
    | zero => simp at hu hv; subst hu hv; exact h.1
    | succ k => simp at hu hv; exact h2 k u v hu hv
  | [], _ :: _, h => h.elim
  | _ :: _, [], h => h.elim

theorem See.ag {cs cs' : List AV} (h : SeeAll H g nw cs cs') : See H g nw (.agg cs) (.agg cs') := .agg cs cs' h.spec.1 h.spec.2
theorem See.tp {cs cs' : List AV} (h : SeeAll H g nw cs cs') : See H g nw (.tuple cs) (.tuple cs') := .tuple cs cs' h.spec.1 h.spec.2
theorem See.lendAll {id : Nat} {es : List AV} (h1 : H.get id = some es) (h2 : g.all (fun p => p.2 != id) = true) (h3 : ∀ e ∈ es, NoId e) : See H g nw (.view id 0 es.length) (.sl es) :=
  .lend h1 (fun p hp => by have := List.all_eq_true.1 h2 p hp; simpa using this) (by simp) h3
theorem SeeL.one {x x' : AV} (h : See H g nw x x') (hl : x.flat.length = x'.flat.length) : SeeL H g nw [x] [x'] :=
  ⟨rfl, fun k e e' h1 h2 => by
    cases k with
    | zero => simp at h1 h2; subst h1 h2; exact ⟨h, hl⟩
    | succ k => simp at h1⟩
theorem Held.cons {n old s next : Nat} {es es' : List AV} {r : List (Nat × (Nat × List AV))} (h1 : lk g n = some old) (h2 : lk H.objs old = some (s, es)) (h3 : SeeL H g nw es es') (h4 : n < next) (h5 : Held H g nw next r) : Held H g nw next ((n, (s, es')) :: r) :=
  ⟨.inl ⟨old, es, h1, h2, h3⟩, h4, h5⟩
theorem Held.fresh {n s next : Nat} {r : List (Nat × (Nat × List AV))} (h1 : n ∈ nw) (h4 : n < next) (h5 : Held H g nw next r) : Held H g nw next ((n, (s, [])) :: r) :=
  ⟨.inr ⟨h1, rfl⟩, h4, h5⟩
end

section
variable {P : Program} {W0 : Base} {N : Nat} {st : St} {Q : Exit → St → Prop}

theorem awp_seqJ {x y : Code} {ι : Type} (S : ι → St) (ok : ι → Prop) (hJ : ∀ i, ok i → AWP P W0 N y (S i) Q) (h : ∀ K : St → Prop, (∀ i s, ok i → Weak W0 N s (S i) → K s) → AWP P W0 N x st (Then K Q)) : AWP P W0 N (.seq x y) st Q :=
  awp_seq (h _ fun i _ hi hw => AWP.weak hw (hJ i hi))

end
end Go.Av
end

section
/- Regions in whatever order is drawn: what writes stands where it must; what only computes may stand elsewhere. -/
namespace Go.Av
open Go.RowKit (Below)

abbrev Flags := List (Bool × Bool)
def Flags.calm (fs : Flags) (i : Nat) : Bool := (fs.getD i (false, true)).1 && !(fs.getD i (false, true)).2
def Flags.loud (fs : Flags) (i : Nat) : Bool := (fs.getD i (false, true)).2

def calmB (md : Region.Mode) (ops : Array Oper) (fs : Flags) (listed : Array Bool) (i : Nat) : Bool :=
  (List.range ops.size).all fun j => j == i || listed.getD j true || match ops[j]? with
    | some oj => oj.after.any (fun e => Region.binds md e && e.on == i) || ((!fs.loud j || fs.calm i) && (!fs.loud i || fs.calm j))
    | none => true

def behindL (md : Region.Mode) (ops : Array Oper) (i : Nat) : Nat → List Bool
  | 0 => []
  | k + 1 => (behindL md ops i k) ++ [match ops[k]? with
    | some o => o.after.any fun e => Region.binds md e && (e.on == i || (behindL md ops i k).getD e.on false)
    | none => false]
def calmT (md : Region.Mode) (ops : Array Oper) (fs : Flags) (listed : Array Bool) (i : Nat) : Bool :=
  (fun B : List Bool => (List.range ops.size).all fun j => j == i || (if listed.getD j true then !B.getD j false else B.getD j false || ((!fs.loud j || fs.calm i) && (!fs.loud i || fs.calm j)))) (behindL md ops i ops.size)

def lexH (md : Region.Mode) (ops : Array Oper) (fs : Flags) (stop : Option Nat) : Nat → Nat → Array Bool → Bool
  | 0, _, listed => (Region.ready md ops listed).isEmpty
  | f + 1, k, listed => stop == some k || ((match ops[k]? with
      | some _ => decide (Region.ready md ops listed = [k]) || ((Region.ready md ops listed).contains k && Region.free md ops listed k && (calmB md ops fs listed k || calmT md ops fs listed k))
      | none => false) && lexH md ops fs stop f (k + 1) (listed.setIfInBounds k true))

def drawB (fs : Flags) (stop : Option Nat) (ops : Array Oper) : Bool := lexH .any ops fs stop ops.size 0 (Array.replicate ops.size false)
def lst (n : Nat) : Nat → Array Bool
  | 0 => Array.replicate n false
  | k + 1 => (lst n k).setIfInBounds k true

section
variable {P : Program} {W0 : Base} {N : Nat} {C : Ctx} {fr : Fr} {a : Act} {H : Heap} {ops : Array Oper} {md : Region.Mode} {fs : Flags}

def YieldsH (P : Program) (W0 : Base) (ops : Array Oper) (fs : Flags) (i : Nat) (o : Oper) (r : AV) (H1 : Heap) (fr : Fr) (H : Heap) : Prop :=
  (wantA ops fr o = some true ∧ AOp P W0 o fr H r H1 ∧ (fs.loud i = false → H1 = H) ∧ (fs.calm i = true → ∀ H', AOp P W0 o fr H' r H')) ∨ (wantA ops fr o = some false ∧ r = .tuple [] ∧ H1 = H)

theorem YieldsH.quiet {i : Nat} {o : Oper} {r : AV} {H1 : Heap} (h : YieldsH P W0 ops fs i o r H1 fr H) (hq : fs.loud i = false) : H1 = H := by
  rcases h with ⟨_, _, h, _⟩ | ⟨_, _, h⟩
  · exact h hq
  · exact h

theorem calm_quiet {i : Nat} (h : fs.calm i = true) : fs.loud i = false := by
  simp only [Flags.calm, Bool.and_eq_true, Bool.not_eq_true'] at h
  exact h.2

theorem YieldsH.dry {i : Nat} {o : Oper} {r : AV} {H1 : Heap} (h : YieldsH P W0 ops fs i o r H1 fr H) (hd : fs.calm i = true) (H' : Heap) : YieldsH P W0 ops fs i o r H' fr H' := by
  rcases h with ⟨h1, _, _, h2⟩ | ⟨h1, h2, _⟩
  · exact .inl ⟨h1, h2 hd H', fun _ => rfl, h2⟩
  · exact .inr ⟨h1, h2, rfl⟩

theorem aop_put {o : Oper} {r : AV} {H1 : Heap} {dst : Option Nat} {s : AV} (hd : ∀ d, dst = some d → d ∉ o.looksAt ops) : AOp P W0 o (fr.put dst s) H r H1 ↔ AOp P W0 o fr H r H1 := by
  have hR : ∀ C (a : Act) (x : Operand), x ∈ o.op.operands → (RepO C (fr.put dst s) a x ↔ RepO C fr a x) := fun C a x hx => by
    unfold RepO
    constructor
    · intro h t ht av hav
      subst ht
      exact h t rfl av (by rw [Fr.put_other (fun he => hd t he (mem_looksAt_tmp hx))]; exact hav)
    · intro h t ht av hav
      subst ht
      rw [Fr.put_other (fun he => hd t he (mem_looksAt_tmp hx))] at hav
      exact h t rfl av hav
  unfold AOp
  constructor
  · exact fun h2 C a hI hH hx => h2 C a hI hH (fun x hm => (hR C a x hm).2 (hx x hm))
  · exact fun h2 C a hI hH hx => h2 C a hI hH (fun x hm => (hR C a x hm).1 (hx x hm))

theorem wantA_put {o : Oper} {dst : Option Nat} {s : AV} (hd : ∀ d, dst = some d → d ∉ o.looksAt ops) : wantA ops (fr.put dst s) o = wantA ops fr o := by
  unfold wantA
  cases hg : o.guard with
  | none => rfl
  | some p =>
    obtain ⟨j, b⟩ := p
    simp only
    cases hj : (ops[j]?).bind (·.dst) with
    | none => rfl
    | some d =>
      simp only
      rw [Fr.put_other]
      intro he
      exact hd d he (by unfold Oper.looksAt; exact List.mem_append_right _ (by simp [hg, hj]))

theorem YieldsH.put {i : Nat} {o : Oper} {r : AV} {H1 : Heap} {dst : Option Nat} {s : AV} (hd : ∀ d, dst = some d → d ∉ o.looksAt ops) : YieldsH P W0 ops fs i o r H1 (fr.put dst s) H ↔ YieldsH P W0 ops fs i o r H1 fr H := by
  unfold YieldsH
  rw [wantA_put hd, aop_put hd]
  have : (∀ H', AOp P W0 o (fr.put dst s) H' r H') ↔ ∀ H', AOp P W0 o fr H' r H' := forall_congr' fun H' => aop_put hd
  rw [this]

def AStH (P : Program) (W0 : Base) (ops : Array Oper) (fs : Flags) (i : Nat) (K : Fr → Heap → Prop) (fr : Fr) (H : Heap) : Prop :=
  match ops[i]? with
  | none => K fr H
  | some o => ∃ r H1, YieldsH P W0 ops fs i o r H1 fr H ∧ K (fr.put o.dst r) H1

theorem AStH.of {i : Nat} {o : Oper} {r : AV} {H1 : Heap} {K : Fr → Heap → Prop} (hi : ops[i]? = some o) (hy : YieldsH P W0 ops fs i o r H1 fr H) (h : K (fr.put o.dst r) H1) : AStH P W0 ops fs i K fr H := by
  unfold AStH
  simp only [hi]
  exact ⟨r, H1, hy, h⟩

def AAnyH (P : Program) (W0 : Base) (md : Region.Mode) (ops : Array Oper) (fs : Flags) (L : Fr → Heap → Prop) : Nat → Array Bool → Fr → Heap → Prop
  | 0, listed, fr, H => Region.ready md ops listed = [] ∧ L fr H
  | f + 1, listed, fr, H => Region.ready md ops listed ≠ [] ∧ ∀ i ∈ Region.ready md ops listed, AStH P W0 ops fs i (AAnyH P W0 md ops fs L f (listed.setIfInBounds i true)) fr H

theorem wantA_mono {o : Oper} {fr0 : Fr} {b : Bool} (hk : ∀ t x, fr0 t = some x → fr t = some x) (h : wantA ops fr0 o = some b) : wantA ops fr o = some b := by
  unfold wantA at *
  split at h
  · assumption
  · split at h
    · split at h
      · rename_i hc; simp only [hk _ _ hc]; exact h
      · rename_i hc; simp only [hk _ _ hc]; exact h
      · cases h
    · cases h

theorem AOp.mono {o : Oper} {fr0 : Fr} {r : AV} {H1 : Heap} (hk : ∀ t x, fr0 t = some x → fr t = some x) (h : AOp P W0 o fr0 H r H1) : AOp P W0 o fr H r H1 :=
  fun C a hI hH hx => h C a hI hH (fun x hm t ht av hav => hx x hm t ht av (hk t av hav))

theorem YieldsH.mono {i : Nat} {o : Oper} {fr0 : Fr} {r : AV} {H1 : Heap} (hk : ∀ t x, fr0 t = some x → fr t = some x) (h : YieldsH P W0 ops fs i o r H1 fr0 H) : YieldsH P W0 ops fs i o r H1 fr H := by
  rcases h with ⟨h1, h2, h3, h4⟩ | ⟨h1, h2⟩
  · exact .inl ⟨wantA_mono hk h1, h2.mono hk, h3, fun hd H' => (h4 hd H').mono hk⟩
  · exact .inr ⟨wantA_mono hk h1, h2⟩

theorem put_mono {fr0 : Fr} {dst : Option Nat} {r : AV} (hk : ∀ t x, fr0 t = some x → fr t = some x) : ∀ t x, fr0.put dst r t = some x → fr.put dst r t = some x := by
  cases dst with
  | none => exact hk
  | some d =>
    intro t x h
    simp only [Fr.put] at *
    split at h
    · rename_i ht; rw [if_pos ht]; exact h
    · rename_i ht; rw [if_neg ht]; exact hk t x h

theorem AAnyH.mono {L : Fr → Heap → Prop} (hL : ∀ fr0 fr H, (∀ t x, fr0 t = some x → fr t = some x) → L fr0 H → L fr H) : ∀ (f : Nat) (listed : Array Bool) (fr0 fr : Fr) (H : Heap), (∀ t x, fr0 t = some x → fr t = some x) → AAnyH P W0 md ops fs L f listed fr0 H → AAnyH P W0 md ops fs L f listed fr H
  | 0, _, _, _, _, hk, h => ⟨h.1, hL _ _ _ hk h.2⟩
  | f + 1, listed, fr0, fr, H, hk, h => ⟨h.1, fun i hi => by
    have h1 := h.2 i hi
    unfold AStH at *
    split
    · rename_i ho; simp only [ho] at h1; exact AAnyH.mono hL f _ _ _ _ hk h1
    · rename_i o ho
      simp only [ho] at h1
      obtain ⟨r, H1, hy, hK⟩ := h1
      exact ⟨r, H1, hy.mono hk, AAnyH.mono hL f _ _ _ _ (put_mono hk) hK⟩⟩

theorem AAnyH_first {i : Nat} {oi : Oper} {v : AV} {L : Fr → Heap → Prop} (B B' : Nat → Bool) (hBB : ∀ j, B' j = true → B j = true)
    (hB : ∀ j oj, ops[j]? = some oj → B j = true → ∃ e ∈ oj.after, Region.binds md e = true ∧ (e.on = i ∨ B' e.on = true)) (hi : ops[i]? = some oi) :
    ∀ (f : Nat) (listed : Array Bool) (fr : Fr) (H H1 : Heap), (∀ j, B' j = true → listed.getD j true = false) →
      (∀ j oj, ops[j]? = some oj → j ≠ i → listed.getD j true = false → B j = false → oi.apart ops oj = true ∧ (fs.loud j = true → fs.calm i = true) ∧ (fs.loud i = true → fs.calm j = true)) →
      i ∈ Region.ready md ops listed → YieldsH P W0 ops fs i oi v H1 fr H →
      AAnyH P W0 md ops fs L f (listed.setIfInBounds i true) (fr.put oi.dst v) H1 → AAnyH P W0 md ops fs L (f + 1) listed fr H := by
  intro f
  induction f with
  | zero =>
    intro listed fr H H1 _ _ hr hy HL
    refine ⟨fun h => (by rw [h] at hr; cases hr), fun j hjr => ?_⟩
    by_cases hji : j = i
    · subst hji; exact .of hi hy HL
    · have h1 := ready_mono hjr hji
      rw [HL.1] at h1; cases h1
  | succ f ih =>
    intro listed fr H H1 hBl hfree hr hy HL
    have hun := (mem_ready.1 hr).1
    refine ⟨fun h => (by rw [h] at hr; cases hr), fun j hjr => ?_⟩
    by_cases hji : j = i
    · subst hji; exact .of hi hy HL
    · have h1 := HL.2 j (ready_mono hjr hji)
      obtain ⟨hjun, oj, hoj, hall⟩ := mem_ready.1 hjr
      have hnot : B j = false := by
        cases hbj : B j with
        | false => rfl
        | true =>
          obtain ⟨e, he, hb, heq⟩ := hB j oj hoj hbj
          have h2 := hall e he hb
          rcases heq with heq | heq
          · rw [heq, getD_both hun] at h2
            cases h2
          · rw [getD_both (hBl _ heq)] at h2
            cases h2
      have hBl2 : ∀ k, B' k = true → (listed.setIfInBounds j true).getD k true = false := fun k hk => by
        have hjk : j ≠ k := fun e => by subst e; rw [hBB _ hk] at hnot; cases hnot
        rw [getD_set_ne true hjk]; exact hBl k hk
      obtain ⟨hap, hdr, hdr2⟩ := hfree j oj hoj hji hjun hnot
      obtain ⟨a1, a2, a3⟩ := Oper.apart_spec hap
      unfold AStH at h1
      simp only [hoj] at h1
      obtain ⟨s, H2, hs, hK⟩ := h1
      rw [YieldsH.put a1] at hs
      have rest : ∀ k ok, ops[k]? = some ok → k ≠ i → (listed.setIfInBounds j true).getD k true = false → B k = false → oi.apart ops ok = true ∧ (fs.loud k = true → fs.calm i = true) ∧ (fs.loud i = true → fs.calm k = true) := fun k ok hk hki hku hno => by
        refine hfree k ok hk hki ?_ hno
        by_cases hjk : j = k
        · subst hjk; exact hjun
        · rw [getD_set_ne true hjk] at hku; exact hku
      cases hli : fs.loud i with
      | true =>
        -- what turns the heap stays where it is; the other one does the same in any heap
        have hcj := hdr2 hli
        have hH2 := hs.quiet (calm_quiet hcj)
        subst hH2
        refine .of hoj (hs.dry hcj H) (ih (listed.setIfInBounds j true) (fr.put oj.dst s) H H2 hBl2 rest (ready_mono hr (Ne.symm hji)) ((YieldsH.put a3).2 hy) ?_)
        rw [Array.setIfInBounds_comm _ _ hji, ← Fr.put_comm fr v s a2]
        exact hK
      | false =>
        have hH1 := hy.quiet hli
        subst hH1
        have hy' : YieldsH P W0 ops fs i oi v H2 fr H2 := by
          cases hl : fs.loud j with
          | true => exact hy.dry (hdr hl) H2
          | false => rw [hs.quiet hl]; exact hy
        refine .of hoj hs (ih (listed.setIfInBounds j true) (fr.put oj.dst s) H2 H2 hBl2 rest (ready_mono hr (Ne.symm hji)) ((YieldsH.put a3).2 hy') ?_)
        rw [Array.setIfInBounds_comm _ _ hji, ← Fr.put_comm fr v s a2]
        exact hK

inductive ARunH (P : Program) (W0 : Base) (ops : Array Oper) (fs : Flags) (stop : Option Nat) (L : Fr → Heap → Prop) : Nat → List Oper → Fr → Heap → Prop
  | nil (k : Nat) (fr : Fr) (H : Heap) : L fr H → ARunH P W0 ops fs stop L k [] fr H
  | op {k : Nat} {o : Oper} {rest : List Oper} {fr : Fr} {H H1 : Heap} {r : AV} : (stop == some k) = false → YieldsH P W0 ops fs k o r H1 fr H → ARunH P W0 ops fs stop L (k + 1) rest (fr.put o.dst r) H1 → ARunH P W0 ops fs stop L k (o :: rest) fr H
  | drop {k : Nat} {l : List Oper} {fr fr0 : Fr} {H : Heap} : (∀ t x, fr0 t = some x → fr t = some x) → ARunH P W0 ops fs stop L k l fr0 H → ARunH P W0 ops fs stop L k l fr H
  | fork {k : Nat} {l : List Oper} {fr : Fr} {H : Heap} : AAnyH P W0 .any ops fs L l.length (lst ops.size k) fr H → ARunH P W0 ops fs stop L k l fr H

theorem calm_spec {i : Nat} {listed : Array Bool} (h : calmB md ops fs listed i = true) (j : Nat) (oj : Oper)
    (hj : ops[j]? = some oj) (hne : j ≠ i) (hun : listed.getD j true = false) (hno : ∀ e ∈ oj.after, Region.binds md e = true → e.on ≠ i) : (fs.loud j = true → fs.calm i = true) ∧ (fs.loud i = true → fs.calm j = true) := by
  simp only [calmB, List.all_eq_true, List.mem_range] at h
  have h1 := h j (Array.getElem?_eq_some_iff.1 hj).1
  simp only [hj, Bool.or_eq_true, beq_iff_eq, hne, false_or, hun, Bool.false_eq_true] at h1
  rcases h1 with h1 | h1
  · obtain ⟨e, he, hb⟩ := Array.any_eq_true'.1 h1
    simp only [Bool.and_eq_true, beq_iff_eq] at hb
    exact absurd hb.2 (hno e he hb.1)
  · simp only [Bool.and_eq_true, Bool.or_eq_true, Bool.not_eq_true'] at h1
    refine ⟨fun h => ?_, fun h => ?_⟩
    · rcases h1.1 with h2 | h2
      · rw [h] at h2; cases h2
      · exact h2
    · rcases h1.2 with h2 | h2
      · rw [h] at h2; cases h2
      · exact h2

def direct (md : Region.Mode) (ops : Array Oper) (i j : Nat) : Bool := match ops[j]? with
  | some oj => oj.after.any fun e => Region.binds md e && e.on == i
  | none => false
theorem direct_no {i j : Nat} {oj : Oper} (hj : ops[j]? = some oj) (h : direct md ops i j = false) : ∀ e ∈ oj.after, Region.binds md e = true → e.on ≠ i := by
  unfold direct at h
  simp only [hj] at h
  intro e he hb heq
  have : (oj.after.any fun e => Region.binds md e && e.on == i) = true := Array.any_eq_true'.2 ⟨e, he, by simp [hb, heq]⟩
  rw [h] at this; cases this
theorem direct_is {i j : Nat} {oj : Oper} (hj : ops[j]? = some oj) (h : direct md ops i j = true) : ∃ e ∈ oj.after, Region.binds md e = true ∧ e.on = i := by
  unfold direct at h
  simp only [hj] at h
  obtain ⟨e, he, hb⟩ := Array.any_eq_true'.1 h
  simp only [Bool.and_eq_true, beq_iff_eq] at hb
  exact ⟨e, he, hb.1, hb.2⟩
theorem behind_len (i : Nat) : ∀ k, (behindL md ops i k).length = k
  | 0 => rfl
  | k + 1 => by simp [behindL, behind_len i k]
theorem behind_at (i : Nat) : ∀ k j, j < k → (behindL md ops i k).getD j false = (behindL md ops i (j + 1)).getD j false := by
  intro k
  induction k with
  | zero => intro j h; omega
  | succ k ih =>
    intro j h
    by_cases hj : j = k
    · subst hj; rfl
    · rw [← ih j (by omega)]
      have hl := behind_len (md := md) (ops := ops) i k
      simp only [behindL, List.getD]
      rw [List.getElem?_append_left (by omega)]
theorem behind_self (i j : Nat) {oj : Oper} (hj : ops[j]? = some oj) : (behindL md ops i (j + 1)).getD j false = oj.after.any fun e => Region.binds md e && (e.on == i || (behindL md ops i j).getD e.on false) := by
  have hl := behind_len (md := md) (ops := ops) i j
  simp only [behindL, hj, List.getD]
  rw [List.getElem?_append_right (by omega), hl]
  simp
theorem behind_is {i j : Nat} {oj : Oper} (hj : ops[j]? = some oj) (h : (behindL md ops i ops.size).getD j false = true) : ∃ e ∈ oj.after, Region.binds md e = true ∧ (e.on = i ∨ (behindL md ops i ops.size).getD e.on false = true) := by
  have hlt : j < ops.size := (Array.getElem?_eq_some_iff.1 hj).1
  rw [behind_at i _ j hlt, behind_self i j hj] at h
  obtain ⟨e, he, hb⟩ := Array.any_eq_true'.1 h
  simp only [Bool.and_eq_true, Bool.or_eq_true, beq_iff_eq] at hb
  refine ⟨e, he, hb.1, hb.2.imp id fun h2 => ?_⟩
  have hej : e.on < j := by
    rcases Nat.lt_or_ge e.on j with h3 | h3
    · exact h3
    · have hl := behind_len (md := md) (ops := ops) i j
      simp only [List.getD] at h2
      rw [List.getElem?_eq_none (by omega)] at h2
      cases h2
  rw [behind_at i _ _ hej] at h2
  rw [behind_at i _ _ (show e.on < ops.size by omega)]
  exact h2
theorem behind_direct {i j : Nat} {oj : Oper} (hj : ops[j]? = some oj) (h : (behindL md ops i ops.size).getD j false = false) : ∀ e ∈ oj.after, Region.binds md e = true → e.on ≠ i := by
  have hlt : j < ops.size := (Array.getElem?_eq_some_iff.1 hj).1
  rw [behind_at i _ j hlt, behind_self i j hj] at h
  intro e he hb heq
  have : (oj.after.any fun e => Region.binds md e && (e.on == i || (behindL md ops i j).getD e.on false)) = true := Array.any_eq_true'.2 ⟨e, he, by simp [hb, heq]⟩
  rw [h] at this; cases this
theorem calmT_spec {i : Nat} {listed : Array Bool} (h : calmT md ops fs listed i = true) : (∀ j, (behindL md ops i ops.size).getD j false = true → j = i ∨ listed.getD j true = false) ∧
    ∀ j oj, ops[j]? = some oj → j ≠ i → listed.getD j true = false → (behindL md ops i ops.size).getD j false = false → (fs.loud j = true → fs.calm i = true) ∧ (fs.loud i = true → fs.calm j = true) := by
  simp only [calmT, List.all_eq_true, List.mem_range] at h
  constructor
  · intro j hj
    have hlt : j < ops.size := by
      rcases Nat.lt_or_ge j ops.size with h3 | h3
      · exact h3
      · have hl := behind_len (md := md) (ops := ops) i ops.size
        simp only [List.getD] at hj
        rw [List.getElem?_eq_none (by omega)] at hj
        cases hj
    have h1 := h j hlt
    rw [hj] at h1
    simp only [Bool.or_eq_true, beq_iff_eq] at h1
    rcases h1 with h1 | h1
    · exact .inl h1
    · right
      cases hl : listed.getD j true with
      | false => rfl
      | true => rw [hl] at h1; simp at h1
  · intro j oj hj hne hl hb
    have h1 := h j (Array.getElem?_eq_some_iff.1 hj).1
    rw [hl, hb] at h1
    simp only [Bool.or_eq_true, beq_iff_eq, hne, false_or, Bool.false_eq_true, if_false, Bool.and_eq_true, Bool.not_eq_true'] at h1
    refine ⟨fun h => ?_, fun h => ?_⟩
    · rcases h1.1 with h2 | h2
      · rw [h] at h2; cases h2
      · exact h2
    · rcases h1.2 with h2 | h2
      · rw [h] at h2; cases h2
      · exact h2

theorem AAnyH_lex {L : Fr → Heap → Prop} {stop : Option Nat} (hL : ∀ fr0 fr H, (∀ t x, fr0 t = some x → fr t = some x) → L fr0 H → L fr H) {k : Nat} {l : List Oper} {fr : Fr} {H : Heap} (h : ARunH P W0 ops fs stop L k l fr H) : (∀ j, j < l.length → l[j]? = ops[k + j]?) → lexH .any ops fs stop l.length k (lst ops.size k) = true →
      AAnyH P W0 .any ops fs L l.length (lst ops.size k) fr H := by
  induction h with
  | nil k fr H hQ => intro _ hc; exact ⟨by simpa [lexH] using hc, hQ⟩
  | drop hk _ ih => intro hl hc; exact AAnyH.mono hL _ _ _ _ _ hk (ih hl hc)
  | fork h => intro _ _; exact h
  | @op k o l fr H H1 r hs hy h' ih =>
    intro hl hc
    have h0 : ops[k]? = some o := by simpa using (hl 0 (by simp)).symm
    simp only [List.length_cons, lexH, h0, hs, Bool.false_or, Bool.and_eq_true] at hc
    obtain ⟨hc1, hc2⟩ := hc
    have rest := ih (fun j hjl => by have := hl (j + 1) (by simp; omega); simpa [Nat.add_assoc, Nat.add_comm 1 j] using this) hc2
    simp only [Bool.or_eq_true, decide_eq_true_eq, Bool.and_eq_true] at hc1
    rcases hc1 with hc1 | ⟨⟨g1, g2⟩, g3⟩
    · refine ⟨fun he => (by rw [hc1] at he; cases he), fun j hj => ?_⟩
      rw [hc1] at hj
      have : j = k := by simpa using hj
      subst this
      exact .of h0 hy rest
    · have hr : k ∈ Region.ready .any ops (lst ops.size k) := by simpa using g1
      have hun := (mem_ready.1 hr).1
      rcases g3 with g3 | g3
      · exact AAnyH_first (direct .any ops k) (fun _ => false) (fun _ h => by cases h) (fun j oj hj h => by
          obtain ⟨e, h1, h2, h3⟩ := direct_is hj h
          exact ⟨e, h1, h2, .inl h3⟩) h0 l.length (lst ops.size k) fr _ _ (fun _ h => by cases h) (fun j oj hj hne hun hno => ⟨Region.free_spec h0 g2 j oj hj hne hun (direct_no hj hno), calm_spec g3 j oj hj hne hun (direct_no hj hno)⟩) hr hy rest
      · obtain ⟨c1, c2⟩ := calmT_spec g3
        exact AAnyH_first (fun j => (behindL .any ops k ops.size).getD j false) (fun j => (behindL .any ops k ops.size).getD j false) (fun _ h => h) (fun j oj hj h => behind_is hj h) h0 l.length (lst ops.size k) fr _ _ (fun j h => (c1 j h).elim (fun e => by rw [e]; exact hun) id) (fun j oj hj hne hun hno => ⟨Region.free_spec h0 g2 j oj hj hne hun (behind_direct hj hno), c2 j oj hj hne hun hno⟩) hr hy rest

theorem wpAny_of_AAnyH {L : Fr → Heap → Prop} {Q : Exit → Act → World → Prop} (hN : ∀ o ∈ ops, dstOk N o = true) :
    ∀ (f : Nat) (listed : Array Bool) (fr : Fr) (H : Heap) (C : Ctx) (a : Act), Rel W0 N fr H C a →
      (∀ fr H C' a', Ext C C' → Rel W0 N fr H C' a' → L fr H → Q .normal a' C'.w) → AAnyH P W0 md ops fs L f listed fr H → wpAny P md ops Q f listed a C.w
  | 0, listed, fr, H, C, a, hr, hL, h => ⟨h.1, hL _ _ C a (.refl C) hr h.2⟩
  | f + 1, listed, fr, H, C, a, hr, hL, h => by
    refine ⟨fun h0 => absurd h0 h.1, fun i hi => ?_⟩
    have h1 := h.2 i hi
    obtain ⟨_, o, ho, _⟩ := mem_ready.1 hi
    unfold AStH at h1
    simp only [ho] at h1
    obtain ⟨r, H1, hy, hK⟩ := h1
    have hd : ∀ d, o.dst = some d → d < N := dstOk.lt (hN o (Array.mem_of_getElem? ho))
    unfold wpOp
    simp only [ho]
    rcases hy with ⟨hw, hop, _, _⟩ | ⟨hw, rfl, rfl⟩
    · rw [wantA_spec hr.rep hw]
      simp only [if_true]
      refine .inl (hop C a hr.inv hr.heap (fun x _ t _ av hav => hr.rep t av hav) _ _ (fun v C' he hi' hH hv => ?_))
      exact wpAny_of_AAnyH hN f _ _ _ C' _ (hr.put he hi' hH hv hd) (fun f2 H2 C2 a2 h2 => hL f2 H2 C2 a2 (he.trans h2)) hK
    · rw [wantA_spec hr.rep hw]
      simp only [Bool.false_eq_true, if_false]
      exact wpAny_of_AAnyH hN f _ _ _ C _ (hr.put (.refl C) hr.inv hr.heap rep_skip hd) hL hK

def LK (K : List (Nat × AV) → Heap → Prop) (f : Fr) (g : Heap) : Prop := ∃ frl, (∀ t x, lk frl t = some x → f t = some x) ∧ K frl g
theorem LK.mono {K : List (Nat × AV) → Heap → Prop} (fr0 fr : Fr) (H : Heap) (hk : ∀ t x, fr0 t = some x → fr t = some x) (h : LK K fr0 H) : LK K fr H := by
  obtain ⟨frl, h1, h2⟩ := h
  exact ⟨frl, fun t x h => hk t x (h1 t x h), h2⟩

def ARH (P : Program) (W0 : Base) (ops : Array Oper) (fs : Flags) (stop : Option Nat) (k : Nat) (l : List Oper) (fr : List (Nat × AV)) (H : Heap) (K : List (Nat × AV) → Heap → Prop) : Prop :=
  ARunH P W0 ops fs stop (LK K) k l (lk fr) H

variable {Q : Exit → St → Prop} {frl : List (Nat × AV)} {K : List (Nat × AV) → Heap → Prop} {o : Oper} {rest : List Oper} {k : Nat} {stop : Option Nat}

theorem ARH.nil (h : K frl H) : ARH P W0 ops fs stop k [] frl H K := ARunH.nil _ _ _ ⟨frl, fun _ _ h => h, h⟩
theorem ARH.drop {l : List Oper} {frx : List (Nat × AV)} (h : Keeps frl frx) (h2 : ARH P W0 ops fs stop k l frx H K) : ARH P W0 ops fs stop k l frl H K := ARunH.drop (Keeps.lk h) h2
theorem ARH.keep (ts : List Nat) {l : List Oper} {frx : List (Nat × AV)} (h : pick frl ts = some frx) (h2 : ARH P W0 ops fs stop k l frx H K) : ARH P W0 ops fs stop k l frl H K := ARH.drop (pick_keeps h) h2
theorem ARH.step {r : AV} {H1 : Heap} (h : YieldsH P W0 ops fs k o r H1 (lk frl) H) (h2 : ARH P W0 ops fs stop (k + 1) rest (putL frl o.dst r) H1 K) (hs : (stop == some k) = false := by rfl) : ARH P W0 ops fs stop k (o :: rest) frl H K := by
  unfold ARH at h2
  rw [lk_putL] at h2
  exact ARunH.op hs h h2
theorem ARH.skip (hw : wantA ops (lk frl) o = some false) (h2 : ARH P W0 ops fs stop (k + 1) rest (putL frl o.dst (.tuple [])) H K) (hs : (stop == some k) = false := by rfl) : ARH P W0 ops fs stop k (o :: rest) frl H K := .step (.inr ⟨hw, rfl, rfl⟩) h2 hs
theorem ARH.dry {r : AV} (hw : wantA ops (lk frl) o = some true) (h : ∀ H', AOp P W0 o (lk frl) H' r H') (h2 : ARH P W0 ops fs stop (k + 1) rest (putL frl o.dst r) H K) (hs : (stop == some k) = false := by rfl) : ARH P W0 ops fs stop k (o :: rest) frl H K :=
  .step (.inl ⟨hw, h H, fun _ => rfl, fun _ => h⟩) h2 hs
theorem ARH.op {r : AV} (hw : wantA ops (lk frl) o = some true) (hd : fs.calm k = false) (h : AOp P W0 o (lk frl) H r H) (h2 : ARH P W0 ops fs stop (k + 1) rest (putL frl o.dst r) H K) (hs : (stop == some k) = false := by rfl) : ARH P W0 ops fs stop k (o :: rest) frl H K :=
  .step (.inl ⟨hw, h, fun _ => rfl, fun he => by rw [hd] at he; cases he⟩) h2 hs
theorem yields_loud {r : AV} {H1 : Heap} (hw : wantA ops (lk frl) o = some true) (hl : fs.loud k = true) (h : AOp P W0 o (lk frl) H r H1) : YieldsH P W0 ops fs k o r H1 (lk frl) H :=
  .inl ⟨hw, h, (fun he => by rw [hl] at he; cases he), (fun he => by have := calm_quiet he; rw [hl] at this; cases this)⟩
theorem ARH.loud {r : AV} {H1 : Heap} (hw : wantA ops (lk frl) o = some true) (hl : fs.loud k = true) (h : AOp P W0 o (lk frl) H r H1) (h2 : ARH P W0 ops fs stop (k + 1) rest (putL frl o.dst r) H1 K) (hs : (stop == some k) = false := by rfl) : ARH P W0 ops fs stop k (o :: rest) frl H K :=
  .step (yields_loud hw hl h) h2 hs

def AF (P : Program) (W0 : Base) (ops : Array Oper) (fs : Flags) (f : Nat) (listed : Array Bool) (fr : List (Nat × AV)) (H : Heap) (K : List (Nat × AV) → Heap → Prop) : Prop :=
  AAnyH P W0 .any ops fs (LK K) f listed (lk fr) H
def AF1 (P : Program) (W0 : Base) (ops : Array Oper) (fs : Flags) (f : Nat) (listed : Array Bool) (fr : List (Nat × AV)) (H : Heap) (K : List (Nat × AV) → Heap → Prop) (i : Nat) : Prop :=
  AStH P W0 ops fs i (AAnyH P W0 .any ops fs (LK K) f (listed.setIfInBounds i true)) (lk fr) H
def AFs (P : Program) (W0 : Base) (ops : Array Oper) (fs : Flags) (f : Nat) (listed : Array Bool) (fr : List (Nat × AV)) (H : Heap) (K : List (Nat × AV) → Heap → Prop) : List Nat → Prop
  | [] => True
  | i :: l => AF1 P W0 ops fs f listed fr H K i ∧ AFs P W0 ops fs f listed fr H K l
theorem AFs.spec {f : Nat} {listed : Array Bool} : ∀ {l : List Nat}, AFs P W0 ops fs f listed frl H K l → ∀ i ∈ l, AF1 P W0 ops fs f listed frl H K i
  | i :: l, h, j, hj => by
    rcases List.mem_cons.1 hj with rfl | hj
    · exact h.1
    · exact AFs.spec h.2 j hj
theorem ARH.fork {l : List Oper} (h : AF P W0 ops fs l.length (lst ops.size k) frl H K) : ARH P W0 ops fs stop k l frl H K := ARunH.fork h
theorem AF.done {listed : Array Bool} (hr : (Region.ready .any ops listed).isEmpty = true) (h : K frl H) : AF P W0 ops fs 0 listed frl H K := ⟨by simpa using hr, frl, fun _ _ h => h, h⟩
theorem AF.many {f : Nat} {listed : Array Bool} (i : Nat) (is : List Nat) (hr : Region.ready .any ops listed = i :: is) (h : AFs P W0 ops fs f listed frl H K (i :: is)) : AF P W0 ops fs (f + 1) listed frl H K :=
  ⟨by rw [hr]; simp, fun j hj => by rw [hr] at hj; exact AFs.spec h j hj⟩
theorem AF1.loud {f i : Nat} {listed : Array Bool} {r : AV} {H1 : Heap} (o : Oper) (ho : ops[i]? = some o) (hw : wantA ops (lk frl) o = some true) (hl : fs.loud i = true) (h : AOp P W0 o (lk frl) H r H1) (h2 : AF P W0 ops fs f (listed.setIfInBounds i true) (putL frl o.dst r) H1 K) : AF1 P W0 ops fs f listed frl H K i := by
  refine .of ho (yields_loud hw hl h) ?_
  unfold AF at h2
  rw [lk_putL] at h2
  exact h2

theorem AF.keep (ts : List Nat) {f : Nat} {listed : Array Bool} {frx : List (Nat × AV)} (h : pick frl ts = some frx) (h2 : AF P W0 ops fs f listed frx H K) : AF P W0 ops fs f listed frl H K := AAnyH.mono LK.mono _ _ _ _ _ (Keeps.lk (pick_keeps h)) h2
theorem AF.dry {f : Nat} {listed : Array Bool} {r : AV} (i : Nat) {o : Oper} (ho : ops[i]? = some o) (hc : ((Region.ready .any ops listed).contains i && Region.free .any ops listed i && (fs.calm i && (calmB .any ops fs listed i || calmT .any ops fs listed i))) = true) (hw : wantA ops (lk frl) o = some true) (h : ∀ H', AOp P W0 o (lk frl) H' r H')
    (h2 : AF P W0 ops fs f (listed.setIfInBounds i true) (putL frl o.dst r) H K) : AF P W0 ops fs (f + 1) listed frl H K := by
  simp only [Bool.and_eq_true, Bool.or_eq_true] at hc
  obtain ⟨⟨g1, g2⟩, _, g3⟩ := hc
  have hr : i ∈ Region.ready .any ops listed := by simpa using g1
  have hun := (mem_ready.1 hr).1
  unfold AF at h2
  rw [lk_putL] at h2
  have hy : YieldsH P W0 ops fs i o r H (lk frl) H := .inl ⟨hw, h H, fun _ => rfl, fun _ => h⟩
  rcases g3 with g3 | g3
  · exact AAnyH_first (direct .any ops i) (fun _ => false) (fun _ h => by cases h) (fun j oj hj h => by
      obtain ⟨e, h1, h2, h3⟩ := direct_is hj h
      exact ⟨e, h1, h2, .inl h3⟩) ho f listed (lk frl) _ _ (fun _ h => by cases h) (fun j oj hj hne hun hno => ⟨Region.free_spec ho g2 j oj hj hne hun (direct_no hj hno), calm_spec g3 j oj hj hne hun (direct_no hj hno)⟩) hr hy h2
  · obtain ⟨c1, c2⟩ := calmT_spec g3
    exact AAnyH_first (fun j => (behindL .any ops i ops.size).getD j false) (fun j => (behindL .any ops i ops.size).getD j false) (fun _ h => h) (fun j oj hj h => behind_is hj h) ho f listed (lk frl) _ _ (fun j h => (c1 j h).elim (fun e => by rw [e]; exact hun) id) (fun j oj hj hne hun hno => ⟨Region.free_spec ho g2 j oj hj hne hun (behind_direct hj hno), c2 j oj hj hne hun hno⟩) hr hy h2

theorem awp_anyF (fs : Flags) (stop : Option Nat) {id : Nat} {l : List Oper} (hm : P.follows .mixedOrders = true) (hB : drawB fs stop l.toArray = true) (hN : l.all (dstOk N) = true) (h : ARH P W0 l.toArray fs stop 0 l frl H (fun f g => Q .normal ⟨f, g⟩)) (hro : W0.ro = none := by rfl) : AWP P W0 N (.region id l.toArray true) ⟨frl, H⟩ Q := fun C a hr => by
  obtain ⟨hE, hR⟩ := rel_drew hr
  rw [hro, fw_none]
  refine wpIn_wide.2 (wp_region_any hm ?_)
  have hB' : lexH .any l.toArray fs stop l.length 0 (lst l.toArray.size 0) = true := by simpa [drawB, lst] using hB
  have key := AAnyH_lex (P := P) (W0 := W0) (ops := l.toArray) LK.mono h (fun j _ => by simp) hB'
  have := wpAny_of_AAnyH (P := P) (Q := Post W0 N C Q) (fun o ho => List.all_eq_true.1 hN o (by simpa using ho)) _ _ _ _ _ _ hR (fun f g C' a' he hrel hL => by
    obtain ⟨fr', hk, hq⟩ := hL
    exact ⟨⟨fr', g⟩, C', rfl, (hE.trans he).mem, ⟨hrel.heap, hrel.inv, hrel.size, hrel.defers, fun t x hx => hrel.rep t x (hk t x hx)⟩, hq⟩) key
  simpa [Ctx.inW, lst] using this
theorem awp_any (fs : Flags) {id : Nat} {l : List Oper} (hm : P.follows .mixedOrders = true) (hB : drawB fs none l.toArray = true) (hN : l.all (dstOk N) = true) (h : ARH P W0 l.toArray fs none 0 l frl H (fun f g => Q .normal ⟨f, g⟩)) (hro : W0.ro = none := by rfl) : AWP P W0 N (.region id l.toArray true) ⟨frl, H⟩ Q := awp_anyF fs none hm hB hN h hro

theorem awp_seqKW {x y : Code} {st : St} (h : ∀ K : St → Prop, (∀ s s', Weak W0 N s s' → K s' → K s) → (∀ s, AWP P W0 N y s Q → K s) → AWP P W0 N x st (Then K Q)) : AWP P W0 N (.seq x y) st Q :=
  awp_seq (h _ (fun _ _ hw h => AWP.weak hw h) fun _ h => h)
end
end Go.Av
end

section
/- Structs of numbers, held against each other. -/
namespace Go.Av
open Go

def intsB (P : Program) (t : TypeId) (n : Nat) : Bool :=
  (match P.underlying t with
    | some (.struct fs) => decide (fs.size = n) && (fs.toList.zipIdx.all fun p => p.1.offset == p.2 && p.1.name != "_" && (match P.underlying p.1.type with | some (.int .i64) => true | _ => false))
    | _ => false) && !P.stoodInHeld t && !P.eqGuardType P.depth t

section
variable {P : Program} {W0 : Base} {fr : Fr} {H : Heap} {o : Oper}

theorem part_int {t : TypeId} {cs : Array Value} {off : Nat} {v : Value} (ht : P.underlying t = some (.int .i64)) (hv : cs[off]? = some v) (w : World) : (part t cs off).run P w = .ok v w := by
  have h : (isAgg t).run P w = .ok false w := by
    simp only [isAgg, Sem.run_bind, run_underlying ht, Result.andThen_ok]
    rfl
  unfold part
  rw [Sem.run_bind, h]
  simp [hv]

theorem run_eqFields (d : Nat) (w : World) (as1 bs : List Int) (hl : as1.length = bs.length) : ∀ (fs : List Field) (k : Nat), (fs.zipIdx k).all (fun p => p.1.offset == p.2 && p.1.name != "_" && (match P.underlying p.1.type with | some (.int .i64) => true | _ => false)) = true → k + fs.length = as1.length →
    (Op.eqFields (d + 1) (as1.map fun n => Value.int .i64 n).toArray (bs.map fun n => Value.int .i64 n).toArray fs).run P w = .ok (decide (as1.drop k = bs.drop k)) w
  | [], k, _, hk => by
    have h1 : as1.drop k = [] := List.drop_eq_nil_of_le (by simp at hk; omega)
    have h2 : bs.drop k = [] := List.drop_eq_nil_of_le (by simp at hk; omega)
    simp [Op.eqFields, h1, h2]
  | f :: fs, k, h, hk => by
    simp only [List.zipIdx_cons, List.all_cons, Bool.and_eq_true, beq_iff_eq, bne_iff_ne] at h
    obtain ⟨⟨⟨h1, h2⟩, h3⟩, h4⟩ := h
    have hu : P.underlying f.type = some (.int .i64) := by
      split at h3
      · assumption
      · cases h3
    simp only [List.length_cons] at hk
    have hka : k < as1.length := by omega
    have hkb : k < bs.length := by omega
    have ga : (as1.map fun n => Value.int .i64 n).toArray[f.offset]? = some (.int .i64 as1[k]) := by simp [h1, hka]
    have gb : (bs.map fun n => Value.int .i64 n).toArray[f.offset]? = some (.int .i64 bs[k]) := by simp [h1, hkb]
    have ih := run_eqFields d w as1 bs hl fs (k + 1) h4 (by omega)
    rw [List.drop_eq_getElem_cons hka, List.drop_eq_getElem_cons hkb]
    unfold Op.eqFields
    rw [if_pos h2, Sem.run_bind, part_int hu ga]
    simp only [Result.andThen_ok]
    rw [Sem.run_bind, part_int hu gb]
    simp only [Result.andThen_ok]
    rw [Sem.run_bind, run_equalIn_int w d f.type .i64 .i64 as1[k] bs[k] hu]
    simp only [Result.andThen_ok]
    generalize as1.drop (k + 1) = A at ih ⊢
    generalize bs.drop (k + 1) = B at ih ⊢
    generalize as1[k] = x
    generalize bs[k] = y
    by_cases he : x = y
    · simp [he, ih]
    · simp [he]

theorem run_eq_ints {t : TypeId} {n : Nat} (ht : intsB P t n = true) (as1 bs : List Int) (ha : as1.length = n) (hb : bs.length = n) (w : World) :
    (Op.equalIn 10000 t (.agg (as1.map fun n => Value.int .i64 n).toArray) (.agg (bs.map fun n => Value.int .i64 n).toArray)).run P w = .ok (decide (as1 = bs)) w ∧ P.eqGuardType P.depth t = false := by
  simp only [intsB, Bool.and_eq_true, Bool.not_eq_true'] at ht
  obtain ⟨⟨h1, h2⟩, h3⟩ := ht
  refine ⟨?_, h3⟩
  split at h1
  · rename_i fs hu
    simp only [Bool.and_eq_true, decide_eq_true_eq] at h1
    obtain ⟨h4, h5⟩ := h1
    have hf : P.fieldsOf t = fs := by simp [Program.fieldsOf, hu]
    have h6 := run_equalIn_struct (P := P) w 9999 t (as1.map fun n => Value.int .i64 n).toArray (bs.map fun n => Value.int .i64 n).toArray (by rw [hf]; exact hu) h2
    rw [h6, hf]
    have := run_eqFields (P := P) 9998 w as1 bs (by omega) fs.toList 0 h5 (by simp; omega)
    simpa using this
  · cases h1

theorem rep_ints {C : Ctx} {l : List Int} {v : Value} (h : Rep C (.agg (l.map i64)) v) : v = .agg (l.map fun n => Value.int .i64 n).toArray := by
  refine rep_toV (x := .agg (l.map i64)) ?_ h
  have : toVs (l.map i64) = some (l.map fun n => Value.int .i64 n) := by
    clear h
    induction l with
    | nil => rfl
    | cons a l ih => simp [toVs, ih]
  simp [AV.toV, this]

theorem t_eq_ints {t t' : TypeId} {n : Nat} {x y : Operand} (as1 bs : List Int) (ht : intsB P t n = true) (ha : as1.length = n) (hb : bs.length = n) (ho : o.op = .binOp .eql t x y t') (hx : evalA fr x = some (.agg (as1.map i64))) (hy : evalA fr y = some (.agg (bs.map i64))) : AOp P W0 o fr H (bl (decide (as1 = bs))) H :=
  .of_pure fun C a _ _ hr => by
    have e1 := rep_ints (rep_eval (hr x (by simp [ho, Op.operands])) hx)
    have e2 := rep_ints (rep_eval (hr y (by simp [ho, Op.operands])) hy)
    obtain ⟨h1, h2⟩ := run_eq_ints (P := P) ht as1 bs ha hb C.w
    refine ⟨.bool (decide (as1 = bs)), ?_, .imm _ rfl⟩
    simp only [execOp, ho, e1, e2, Sem.run_bind, run_eqGuard_agg _ _ _ _ _ _ _ h2, Result.andThen_ok, run_eql_struct, h1]
    rfl
theorem t_ne_ints {t t' : TypeId} {n : Nat} {x y : Operand} (as1 bs : List Int) (ht : intsB P t n = true) (ha : as1.length = n) (hb : bs.length = n) (ho : o.op = .binOp .neq t x y t') (hx : evalA fr x = some (.agg (as1.map i64))) (hy : evalA fr y = some (.agg (bs.map i64))) : AOp P W0 o fr H (bl (!decide (as1 = bs))) H :=
  .of_pure fun C a _ _ hr => by
    have e1 := rep_ints (rep_eval (hr x (by simp [ho, Op.operands])) hx)
    have e2 := rep_ints (rep_eval (hr y (by simp [ho, Op.operands])) hy)
    obtain ⟨h1, h2⟩ := run_eq_ints (P := P) ht as1 bs ha hb C.w
    refine ⟨.bool (!decide (as1 = bs)), ?_, .imm _ rfl⟩
    simp only [execOp, ho, e1, e2, Sem.run_bind, run_eqGuard_agg _ _ _ _ _ _ _ h2, Result.andThen_ok, run_neq_struct, h1]
    rfl
end
end Go.Av
end

section
/- Arrays of things of one cell: as values of one element of the proof's own; literals of the proof's own. -/
namespace Go.Av
open Go.RowKit (Below)
section
variable {P : Program} {W0 : Base} {C : Ctx} {fr : Fr} {a : Act} {H : Heap} {o : Oper}

end
end Go.Av
namespace Go.Sh
def whole {α : Type} (n : Nat) (l : List α) : Option (List α) := if l.length = n then some l else none
end Go.Sh
namespace Go.Av
section
variable {P : Program} {W0 : Base} {fr : Fr} {H : Heap} {o : Oper} {α : Type} {enc : α → AV} {l : List α} {i : Int} {x : α} {ki : IntKind}

end
end Go.Av
end

section
/- Literals with empty slices in them, or slices of a known end. -/
namespace Go.Av
inductive Wid : AV → AV → Prop
  | same (x : AV) : Wid x x
  | clip (es : List AV) : Wid (.clip es) (.sl es)
  | nil : Wid (.imm (.slice none 0 0)) (.sl [])
def widF : List AV → List AV → Prop
  | [], [] => True
  | x :: xs, y :: ys => Wid x y ∧ widF xs ys
  | _, _ => False
def widEs : List AV → List AV → Prop
  | [], [] => True
  | e :: es, y :: ys => widF e.flat y.flat ∧ widEs es ys
  | _, _ => False
section
variable {P : Program} {W0 : Base} {C : Ctx} {fr : Fr} {H H' : Heap} {o : Oper}

theorem Wid.rep {a b : AV} {v : Value} (h : Wid a b) (r : Rep C a v) : Rep C b v := by
  cases h with
  | same => exact r
  | clip es =>
    match r with
    | .clipNil a => exact .slNil a 0
    | .clip _ b off sz c h1 h2 h3 h4 h5 => exact .sl es b off sz es.length c h1 h2 (Nat.le_refl _) h3 h4 h5
  | nil =>
    have := rep_toV (v := .slice none 0 0) rfl r
    subst this
    exact .slNil _ _
theorem widF.spec : ∀ {xs ys : List AV}, widF xs ys → xs.length = ys.length ∧ ∀ (j : Nat) (y : AV), ys[j]? = some y → ∃ x, xs[j]? = some x ∧ Wid x y
  | [], [], _ => ⟨rfl, fun j y h => by simp at h⟩
  | x :: xs, y :: ys, h => by
    obtain ⟨a, b⟩ := widF.spec h.2
    refine ⟨by simp [a], fun j z hz => ?_⟩
    cases j with
    | zero => simp at hz; subst hz; exact ⟨x, rfl, h.1⟩
    | succ j => simpa using b j z (by simpa using hz)
  | [], _ :: _, h => h.elim
  | _ :: _, [], h => h.elim
theorem widEs.spec : ∀ {es ys : List AV}, widEs es ys → es.length = ys.length ∧ ∀ (i : Nat) (y : AV), ys[i]? = some y → ∃ e, es[i]? = some e ∧ widF e.flat y.flat
  | [], [], _ => ⟨rfl, fun j y h => by simp at h⟩
  | x :: xs, y :: ys, h => by
    obtain ⟨a, b⟩ := widEs.spec h.2
    refine ⟨by simp [a], fun j z hz => ?_⟩
    cases j with
    | zero => simp at hz; subst hz; exact ⟨x, rfl, h.1⟩
    | succ j => simpa using b j z (by simpa using hz)
  | [], _ :: _, h => h.elim
  | _ :: _, [], h => h.elim
theorem clip_wid {es ys : List AV} {v : Value} (h : widEs es ys) (r : Rep C (.clip es) v) : Rep C (.clip ys) v := by
  obtain ⟨hl, hs⟩ := h.spec
  match r with
  | .clipNil a =>
    have : ys = [] := List.eq_nil_of_length_eq_zero (by simpa using hl.symm)
    subst this
    exact .clipNil a
  | .clip _ b off sz c h1 h2 h3 h4 h5 =>
    rw [hl]
    refine .clip ys b off sz c h1 h2 (fun i y hy => ?_) (fun i j y z hy hz => ?_) (fun i j y z hy hz => ?_)
    · obtain ⟨e, he, hw⟩ := hs i y hy
      rw [← hw.spec.1]; exact h3 i e he
    · obtain ⟨e, he, hw⟩ := hs i y hy
      obtain ⟨x, hx, _⟩ := hw.spec.2 j z hz
      exact h4 i j e x he hx
    · obtain ⟨e, he, hw⟩ := hs i y hy
      obtain ⟨x, hx, hxy⟩ := hw.spec.2 j z hz
      exact hxy.rep (h5 i j e x he hx)
theorem AOp.clipw {es ys : List AV} (h : AOp P W0 o fr H (.clip es) H') (hw : widEs es ys) : AOp P W0 o fr H (.clip ys) H' := by
  intro C a hI hH hop K Q hK
  exact h C a hI hH hop K Q (fun v C' h1 h2 h3 h4 => hK v C' h1 h2 h3 (clip_wid hw h4))
end
end Go.Av
namespace Go.Av
section
variable {P : Program} {W0 : Base} {C : Ctx} {fr : Fr} {H : Heap} {o : Oper}

end
end Go.Av
end

section
/- An own slice made shorter: the object under a new name. -/
namespace Go.Av
open Go.RowKit (Below)
section
variable {P : Program} {W0 : Base} {C : Ctx} {fr : Fr} {H : Heap} {o : Oper}

end
end Go.Av
end

section
/- Calls of what writes into what is the caller's own: a part of the heap is handed over, and comes back. -/
namespace Go.Av

structure Fun3 (P : Program) (B : Base) (f : FuncId) (xs : List AV) (Hin : Heap) (r : AV) (Hout : Heap) : Prop where
  call : Callable P f
  runs : ∀ (C : Ctx) (vals : Array Value), Inv B C → C.H = Hin → C.dfs = [] → vals.size = xs.length → (∀ (k : Nat) (x : AV), xs[k]? = some x → Rep C x (vals.getD k undef)) →
    Calls P f vals C.w (fun e w' => ∃ v C', e = .returned v ∧ C'.w = w' ∧ Mem C C' ∧ Inv B C' ∧ C'.H = Hout ∧ C'.dfs = [] ∧ Rep C' r v)

section
variable {P : Program} {W0 : Base} {C : Ctx} {fr : Fr} {a : Act} {H : Heap} {o : Oper} {N : Nat}

theorem fun3_of_awp {B : Base} {f : FuncId} {fn : Func} {c : Code} {xs : List AV} {r : AV} {Hin Hr : Heap} (hro : B.ro = none) (hf : P.funcs[f]? = some fn) (hb : fn.body = some c) (hname : (fn.name == "runtime.NumGoroutine") = false) (hN : fn.ntmps = N) (hxN : xs.length ≤ N)
    (h : AWP P B N c ⟨argsFr 0 xs, Hin⟩ (fun e s => (e = .normal ∨ e = .ret) ∧ ∃ q, resA P fn.results.toList s = some q ∧ Weak B 1 ⟨[(0, q)], s.H⟩ ⟨[(0, r)], Hr⟩)) (hdx : B.dx = [] := by rfl) : Fun3 P B f xs Hin r Hr where
  call := callable_of hf hname hb
  runs C vals hI hH hd hsz hrep := calls_of_awp hf hb hN hxN hro h C vals hI hH hd hsz hrep hdx


def Ctx.hide (C : Ctx) (Hs : Heap) : Ctx :=
  { w := C.w, H := Hs, pl := C.pl, prot := fun b => C.prot b ∨ (C.own b ∧ ¬ Ctx.own { C with H := Hs, dfs := [] } b), dfs := [], pin := 0 }

structure Part (Hs H : Heap) : Prop where
  next : Hs.next = H.next
  objs : ∀ k v, lk Hs.objs k = some v → lk H.objs k = some v
  lps : ∀ l r, lk Hs.lps l = some r → lk H.lps l = some r

theorem hide_own {Hs : Heap} (hp : Part Hs C.H) {b : Nat} (h : (C.hide Hs).own b) : C.own b := by
  rcases h with ⟨id, es, h1, h2, h3⟩ | ⟨r, h⟩ | h
  · refine .inl ⟨id, es, ?_, h2, h3⟩
    obtain ⟨p, h4, h5⟩ := Option.map_eq_some_iff.1 h1
    exact Option.map_eq_some_iff.2 ⟨p, hp.objs id p h4, h5⟩
  · exact .inr (.inl ⟨r, hp.lps b r h⟩)
  · simp [Ctx.hide] at h

theorem hide_bad {Hs : Heap} (hp : Part Hs C.H) {b : Nat} (h : (C.hide Hs).bad b) : C.bad b := by
  rcases h with h | h | h
  · exact .inl (hide_own hp h)
  · exact .inr h
  · exact .inl h.1

theorem part_get {Hs H : Heap} (hp : Part Hs H) {id : Nat} {es : List AV} (h : Hs.get id = some es) : H.get id = some es := by
  obtain ⟨p, h4, h5⟩ := Option.map_eq_some_iff.1 h
  exact Option.map_eq_some_iff.2 ⟨p, hp.objs id p h4, h5⟩

theorem Rep.hide {Hs : Heap} (hp : Part Hs C.H) {x : AV} {v : Value} (h : Rep C x v) : Rep (C.hide Hs) x v :=
  h.sub rfl (by show C.H.next ≤ Hs.next; rw [hp.next]; exact Nat.le_refl _) (fun id es _ h => ⟨es, part_get hp h⟩) (fun _ _ => rfl) (fun b h => hide_bad hp h)

theorem Inv.hide (hI : Inv W0 C) {Hs : Heap} (hp : Part Hs C.H) : Inv (.of W0.w) (C.hide Hs) where
  fresh id es h := by show id < Hs.next; rw [hp.next]; exact hI.fresh id es (part_get hp h)
  nil id es h := hI.nil id es (part_get hp h)
  obj id es h hn := by
    have hO := hI.obj id es (part_get hp h) hn
    exact ⟨hO.n, hO.cap, hO.blk, hO.one, hO.flat, fun i j e x v h1 h2 h3 => (hO.cell i j e x v h1 h2 h3).hide hp⟩
  sep i1 i2 e1 e2 h1 h2 := hI.sep i1 i2 e1 e2 (part_get hp h1) (part_get hp h2)
  prot id es h hn hb := by
    rcases hb with hb | hb
    · exact hI.prot id es (part_get hp h) hn hb
    · exact hb.2 (.inl ⟨id, es, h, hn, rfl⟩)
  szok id s h := by
    obtain ⟨p, h4, h5⟩ := Option.map_eq_some_iff.1 h
    exact hI.szok id s (Option.map_eq_some_iff.2 ⟨p, hp.objs id p h4, h5⟩)
  protlt b h := by
    rcases h with h | h
    · exact hI.protlt b h
    · exact hI.own_lt h.1
  protge b h := by
    rcases h with h | h
    · exact hI.protge b h
    · exact hI.own_ge h.1
  size := hI.size
  glob b h := ⟨(hI.glob b h).1, fun ho => (hI.glob b h).2 (hide_own hp ho)⟩
  lps l r h := hI.lps l r (hp.lps l r h)
  dfs d h := by simp [Ctx.hide] at h
  dnd := .nil
  rod := fun _ _ => rfl
  spprot b h hb := by
    rcases h with ⟨r, h⟩ | h
    · rcases hb with hb | hb
      · exact hI.spprot b (.inl ⟨r, hp.lps b r h⟩) hb
      · exact hb.2 (.inr (.inl ⟨r, h⟩))
    · simp [Ctx.hide] at h
  pinB := rfl
  pinlt := Nat.zero_le _
  gh := trivial


inductive Ren (ok : AV → Prop) (m : List (Nat × Nat)) : AV → AV → Prop
  | same (x : AV) : ok x → Ren ok m x x
  | any (x : AV) : Ren ok m x .any
  | view {id k off len : Nat} : lk m id = some k → Ren ok m (.view id off len) (.view k off len)
  | ref {id k i j : Nat} : lk m id = some k → Ren ok m (.ref id i j) (.ref k i j)
  | mref {id k : Nat} : lk m id = some k → Ren ok m (.mref id) (.mref k)
  | agg (cs cs' : List AV) : cs.length = cs'.length → (∀ (k : Nat) (x x' : AV), cs[k]? = some x → cs'[k]? = some x' → Ren ok m x x') → Ren ok m (.agg cs) (.agg cs')
  | tuple (cs cs' : List AV) : cs.length = cs'.length → (∀ (k : Nat) (x x' : AV), cs[k]? = some x → cs'[k]? = some x' → Ren ok m x x') → Ren ok m (.tuple cs) (.tuple cs')
  | clo (fn : Fn) (cs cs' : List AV) : cs.length = cs'.length → (∀ (k : Nat) (x x' : AV), cs[k]? = some x → cs'[k]? = some x' → Ren ok m x x') → Ren ok m (.clo fn cs) (.clo fn cs')
  | ifc (t : TypeId) (x x' : AV) : Ren ok m x x' → Ren ok m (.ifc t x) (.ifc t x')

structure RenL (ok : AV → Prop) (m : List (Nat × Nat)) (es es' : List AV) : Prop where
  len : es.length = es'.length
  see : ∀ (k : Nat) (e e' : AV), es[k]? = some e → es'[k]? = some e' → e.flat.length = e'.flat.length ∧ ∀ (j : Nat) (x x' : AV), e.flat[j]? = some x → e'.flat[j]? = some x' → Ren ok m x x'
  mapd : ∀ l, es' = [.mapd l] → es = [.mapd l]

theorem RenL.same {ok : AV → Prop} {m : List (Nat × Nat)} {es : List AV} (h : ∀ e ∈ es, ∀ x ∈ e.flat, ok x) : RenL ok m es es :=
  ⟨rfl, fun k e e' h1 h2 => by
    rw [h1] at h2; cases h2
    exact ⟨rfl, fun j x x' h3 h4 => by rw [h3] at h4; cases h4; exact .same x (h e (List.mem_of_getElem? h1) x (List.mem_of_getElem? h3))⟩, fun _ h => h⟩

def RenAll (ok : AV → Prop) (m : List (Nat × Nat)) : List AV → List AV → Prop
  | [], [] => True
  | x :: l, y :: r => Ren ok m x y ∧ RenAll ok m l r
  | _, _ => False

theorem RenAll.spec {ok : AV → Prop} {m : List (Nat × Nat)} : ∀ {l r : List AV}, RenAll ok m l r → l.length = r.length ∧ ∀ (k : Nat) (x x' : AV), l[k]? = some x → r[k]? = some x' → Ren ok m x x'
  | [], [], _ => ⟨rfl, fun k x x' h => by simp at h⟩
  | x :: l, y :: r, h => by
    obtain ⟨h1, h2⟩ := RenAll.spec h.2
    refine ⟨by simp [h1], fun k u v hu hv => ?_⟩
    cases k with
    | zero => simp at hu hv; subst hu hv; exact h.1
    | succ k => simp at hu hv; exact h2 k u v hu hv
  | [], _ :: _, h => h.elim
  | _ :: _, [], h => h.elim
theorem Ren.ag {ok : AV → Prop} {m : List (Nat × Nat)} {cs cs' : List AV} (h : RenAll ok m cs cs') : Ren ok m (.agg cs) (.agg cs') := .agg cs cs' h.spec.1 h.spec.2
theorem Ren.tp {ok : AV → Prop} {m : List (Nat × Nat)} {cs cs' : List AV} (h : RenAll ok m cs cs') : Ren ok m (.tuple cs) (.tuple cs') := .tuple cs cs' h.spec.1 h.spec.2
theorem Ren.cl {ok : AV → Prop} {m : List (Nat × Nat)} {fn : Fn} {cs cs' : List AV} (h : RenAll ok m cs cs') : Ren ok m (.clo fn cs) (.clo fn cs') := .clo fn cs cs' h.spec.1 h.spec.2
theorem RenL.one {ok : AV → Prop} {m : List (Nat × Nat)} {e e' : AV} (h : RenAll ok m e.flat e'.flat) (hm : e'.mp = e.mp := by rfl) : RenL ok m [e] [e'] :=
  ⟨rfl, fun k a b h1 h2 => by
    cases k with
    | zero => simp at h1 h2; subst h1 h2; exact ⟨h.spec.1, h.spec.2⟩
    | succ k => simp at h1, fun l hl => by
    have h1 : e' = .mapd l := by simpa using hl
    subst h1
    rw [AV.mp_some hm.symm]⟩

def Back (ok : AV → Prop) (H : Heap) (g m : List (Nat × Nat)) (Hout : Heap) : List (Nat × (Nat × List AV)) → Prop
  | [] => True
  | (k, (s, es')) :: r => ((lk H.objs k = some (s, es') ∧ g.all (fun p => p.2 != k) = true) ∨ ∃ i es, lk m i = some k ∧ lk Hout.objs i = some (s, es) ∧ RenL ok m es es') ∧ Back ok H g m Hout r

theorem Back.spec {ok : AV → Prop} {H : Heap} {g m : List (Nat × Nat)} {Hout : Heap} : ∀ {l : List (Nat × (Nat × List AV))}, Back ok H g m Hout l → ∀ {k s : Nat} {es' : List AV}, lk l k = some (s, es') →
    (lk H.objs k = some (s, es') ∧ ∀ p ∈ g, p.2 ≠ k) ∨ ∃ i es, lk m i = some k ∧ lk Hout.objs i = some (s, es) ∧ RenL ok m es es'
  | [], _, _, _, _, h => by cases h
  | (q, (s, es)) :: l, hl, k, s', es', h => by
    simp only [lk] at h
    split at h
    · rename_i hm; subst hm; cases h
      refine hl.1.imp (fun h => ⟨h.1, fun p hp => ?_⟩) id
      have := List.all_eq_true.1 h.2 p hp
      simpa using this
    · exact Back.spec hl.2 h
theorem Back.kept {ok : AV → Prop} {H : Heap} {g m : List (Nat × Nat)} {Hout : Heap} {k s : Nat} {es : List AV} {r : List (Nat × (Nat × List AV))} (h1 : lk H.objs k = some (s, es)) (h2 : g.all (fun p => p.2 != k) = true) (h3 : Back ok H g m Hout r) : Back ok H g m Hout ((k, (s, es)) :: r) :=
  ⟨.inl ⟨h1, h2⟩, h3⟩
theorem Back.new {ok : AV → Prop} {H : Heap} {g m : List (Nat × Nat)} {Hout : Heap} {k s : Nat} {es' : List AV} {r : List (Nat × (Nat × List AV))} (i : Nat) {es : List AV} (h1 : lk m i = some k) (h2 : lk Hout.objs i = some (s, es)) (h3 : RenL ok m es es') (h4 : Back ok H g m Hout r) : Back ok H g m Hout ((k, (s, es')) :: r) :=
  ⟨.inr ⟨i, es, h1, h2, h3⟩, h4⟩

def mapOk (p n : Nat) (g m : List (Nat × Nat)) : Bool := m.all fun q => (decide (q.1 < p) && (lk g q.1 == some q.2)) || q.2 == n + q.1

def Ctx.back (C C2 : Ctx) (H' : Heap) : Ctx := { w := C2.w, H := H', pl := fun k => if k < C.H.next then C.pl k else C2.pl (k - C.H.next), prot := C.prot, dfs := C.dfs, pin := C.pin }

theorem sub_out {ok : AV → Prop} {Hs Hin H' : Heap} {g m : List (Nat × Nat)} {nw : List Nat} {p : Nat} {B1 : Base} {C2 : Ctx} (hI : Inv W0 C) (hp : Part Hs C.H) (hB : B1.w = W0.w)
    (hH : Held Hs g nw Hin.next Hin.objs) (hnw : ∀ n ∈ nw, lk g n = none) (hginj : g.all (fun p => g.all (fun q => p.2 != q.2 || p.1 == q.1)) = true) (hgin : ∀ q ∈ g, (lk Hs.objs q.2).isSome = true) (hlp : Hin.lps = Hs.lps)
    (hM : Mem { (C.hide Hs).re g Hin with pin := p } C2) (hpin : p ≤ Hin.next) (hI2 : Inv B1 C2) (hd2 : C2.dfs = [])
    (hm : mapOk p C.H.next g m = true) (hnext : H'.next = C.H.next + C2.H.next) (hback : Back ok C.H g m C2.H H'.objs)
    (hlps : ∀ l r, lk H'.lps l = some r → lk C2.H.lps l = some r ∨ (lk C.H.lps l = some r ∧ lk Hs.lps l = none))
    (mode : (∀ x, ok x → Dry x) ∨ ((∀ x, ok x → NoId x) ∧ ∀ k v, lk C.H.objs k = some v → (∀ q ∈ g, q.2 ≠ k) → lk Hs.objs k = none)) :
    Ext C (C.back C2 H') ∧ Inv W0 (C.back C2 H') ∧ ∀ x x' v, Ren ok m x x' → Rep C2 x v → Rep (C.back C2 H') x' v := by
  have hs : C.w.heap.size ≤ C2.w.heap.size := hM.below.size
  have hpr : C2.prot = (C.hide Hs).prot := hM.prot
  have getS : ∀ {K : Heap} {n : Nat} {es' : List AV}, K.get n = some es' → ∃ s, lk K.objs n = some (s, es') := fun {K n es'} h => by
    obtain ⟨⟨s, e⟩, h1, h2⟩ := Option.map_eq_some_iff.1 h
    simp only at h2; subst h2; exact ⟨s, h1⟩
  have getO : ∀ {K : Heap} {n s : Nat} {es' : List AV}, lk K.objs n = some (s, es') → K.get n = some es' := fun {K n s es'} h => by simp [Heap.get, h]
  have gmem : ∀ {n k : Nat}, lk g n = some k → k < C.H.next ∧ ∃ v, lk Hs.objs k = some v := fun {n k} h => by
    obtain ⟨v, hv⟩ := Option.isSome_iff_exists.1 (hgin _ (lk_mem h))
    exact ⟨hI.fresh k v.2 (getO (s := v.1) (hp.objs k v hv)), v, hv⟩
  have ginj : ∀ {n n' k : Nat}, lk g n = some k → lk g n' = some k → n = n' := fun {n n' k} h1 h2 => by
    have := List.all_eq_true.1 (List.all_eq_true.1 hginj _ (lk_mem h1)) _ (lk_mem h2)
    simpa using this
  have rePl : ∀ {n k : Nat}, lk g n = some k → ((C.hide Hs).re g Hin).pl n = C.pl k := fun {n k} h => by simp [Ctx.re, Ctx.hide, h]
  have mS : ∀ {i k : Nat}, lk m i = some k → (i < p ∧ lk g i = some k) ∨ k = C.H.next + i := fun {i k} h => by
    have := List.all_eq_true.1 hm _ (lk_mem h)
    simpa using this
  -- what was handed over
  have passed : ∀ {b : Nat}, ((C.hide Hs).re g Hin).cells b → ∃ n k es, lk g n = some k ∧ C.H.get k = some es ∧ (C.pl k).nil = false ∧ (C.pl k).blk = b := fun {b} h => by
    obtain ⟨n, es', h1, h2, h3⟩ := h
    obtain ⟨s, h4⟩ := getS (K := Hin) h1
    rcases (hH.spec h4).1 with ⟨old, es, q1, q2, _⟩ | ⟨q, _⟩
    · rw [rePl q1] at h2 h3
      exact ⟨n, old, es, q1, getO (hp.objs old _ q2), h2, h3⟩
    · have : ((C.hide Hs).re g Hin).pl n = ⟨0, 0, 0, 0, true⟩ := by simp [Ctx.re, hnw n q]
      rw [this] at h2; cases h2
  have own1 : ∀ {b : Nat}, ((C.hide Hs).re g Hin).own b → C.own b := fun {b} h => by
    rcases h with h | ⟨r, h⟩ | h
    · obtain ⟨n, k, es, _, h2, h3, h4⟩ := passed h
      exact .inl ⟨k, es, h2, h3, h4⟩
    · exact .inr (.inl ⟨r, hp.lps b r (by rw [← hlp]; exact h)⟩)
    · simp [Ctx.re, Ctx.hide] at h
  have keep : ∀ b, b < C.w.heap.size → ¬ ((C.hide Hs).re g Hin).own b → C2.w.heap[b]? = C.w.heap[b]? := fun b hb hn => hM.keep b hb hn
  have own2 : ∀ {b : Nat}, b < C.w.heap.size → C2.own b → ((C.hide Hs).re g Hin).own b := fun {b} hb h => hM.own b hb h
  -- cells, records, and what is put off, are told apart by what lies there
  have cellHeap : ∀ {k : Nat} {es : List AV}, C.H.get k = some es → (C.pl k).nil = false → ∃ o : Obj, C.w.heap[(C.pl k).blk]? = some o ∧ isD o := fun {k es} h1 h2 => (hI.obj k es h1 h2).dat
  have keptFree : ∀ {k : Nat} {es : List AV}, C.H.get k = some es → (C.pl k).nil = false → (∀ q ∈ g, q.2 ≠ k) → ¬ ((C.hide Hs).re g Hin).own (C.pl k).blk := fun {k es} h1 h2 h3 h => by
    obtain ⟨ob, hc, hcd⟩ := cellHeap h1 h2
    rcases h with h | ⟨r, h⟩ | h
    · obtain ⟨n, k', es', q1, q2, q3, q4⟩ := passed h
      have := hI.sep k' k es' es q2 h1 q3 h2 q4
      exact h3 _ (lk_mem q1) this
    · exact hI.sp_neD (.inl ⟨r, hp.lps _ r (by rw [← hlp]; exact h)⟩) hc hcd
    · simp [Ctx.re, Ctx.hide] at h
  -- an object behind the call
  have plO : ∀ {k : Nat}, k < C.H.next → (C.back C2 H').pl k = C.pl k := fun {k} h => by simp [Ctx.back, h]
  have plN : ∀ {i k s : Nat} {es : List AV}, lk m i = some k → lk C2.H.objs i = some (s, es) → (C.back C2 H').pl k = C2.pl i ∧ (k < C.H.next → ∃ n, i = n ∧ lk g n = some k) := fun {i k s es} h h2 => by
    rcases mS h with ⟨h3, h4⟩ | h3
    · refine ⟨?_, fun _ => ⟨i, rfl, h4⟩⟩
      rw [plO (gmem h4).1]
      have h5 := (hM.pins hpin).2 i es h3 (getO h2)
      rw [h5.2]; exact (rePl h4).symm
    · subst h3
      refine ⟨?_, fun h => by omega⟩
      have h1 : ¬ C.H.next + i < C.H.next := by omega
      have h2 : C.H.next + i - C.H.next = i := by omega
      show (if C.H.next + i < C.H.next then _ else _) = _
      rw [if_neg h1, h2]
  have objJ : ∀ {k : Nat} {es' : List AV}, (C.back C2 H').H.get k = some es' → ∃ s, lk H'.objs k = some (s, es') ∧ ((lk C.H.objs k = some (s, es') ∧ (∀ q ∈ g, q.2 ≠ k) ∧ k < C.H.next) ∨ ∃ i es, lk m i = some k ∧ lk C2.H.objs i = some (s, es) ∧ RenL ok m es es') := fun {k es'} h => by
    obtain ⟨s, h1⟩ := getS (K := H') h
    refine ⟨s, h1, (hback.spec h1).imp (fun h => ⟨h.1, h.2, hI.fresh k es' (getO h.1)⟩) id⟩
  have ownJ : ∀ b, (C.back C2 H').own b → C.own b ∨ C2.own b := by
    rintro b (⟨k, es', h1, h2, h3⟩ | ⟨r, h⟩ | h)
    · obtain ⟨s, _, ⟨q1, q2, q3⟩ | ⟨i, es, q1, q2, _⟩⟩ := objJ h1
      · rw [plO q3] at h2 h3; exact .inl (.inl ⟨k, es', getO q1, h2, h3⟩)
      · rw [(plN q1 q2).1] at h2 h3; exact .inr (.inl ⟨i, es, getO q2, h2, h3⟩)
    · rcases hlps b r h with h | h
      · exact .inr (.inr (.inl ⟨r, h⟩))
      · exact .inl (.inr (.inl ⟨r, h.1⟩))
    · exact .inl (.inr (.inr h))
  have ext : Ext C (C.back C2 H') := {
    below := ⟨hM.below.os, hM.below.tape, hM.below.output, hs, fun k hk => absurd hk (Nat.not_lt_zero k)⟩
    keep := fun b hb hn => keep b hb (fun h => hn (own1 h))
    own := fun b hb h => by
      rcases ownJ b h with h | h
      · exact h
      · exact own1 (own2 hb h)
    next := by show C.H.next ≤ H'.next; rw [hnext]; exact Nat.le_add_right _ _
    id := fun k es' hk h => by
      obtain ⟨s, _, ⟨q1, q2, q3⟩ | ⟨i, es, q1, q2, _⟩⟩ := objJ h
      · exact ⟨⟨es', getO q1⟩, plO q3⟩
      · obtain ⟨n, _, h3⟩ := (plN q1 q2).2 hk
        obtain ⟨_, v, hv⟩ := gmem h3
        exact ⟨⟨v.2, getO (s := v.1) (hp.objs k v hv)⟩, plO hk⟩
    prot := rfl
    dfs := rfl
    pin := rfl }
  -- what nobody owned behind the call is nobody's now
  have protOf : ∀ {b : Nat}, C.own b → ¬ Ctx.own { C with H := Hs, dfs := [] } b → C2.bad b := fun {b} h1 h2 => .inr (by rw [hpr]; exact .inr ⟨h1, h2⟩)
  have badJ : (∀ k v, lk C.H.objs k = some v → (∀ q ∈ g, q.2 ≠ k) → lk Hs.objs k = none) → ∀ b, (C.back C2 H').bad b → C2.bad b := by
    rintro hmd b ((⟨k, es', h1, h2, h3⟩ | ⟨r, h⟩ | h) | h)
    · obtain ⟨s, _, ⟨q1, q2, q3⟩ | ⟨i, es, q1, q2, _⟩⟩ := objJ h1
      · rw [plO q3] at h2 h3
        obtain ⟨ob, hc, hcd⟩ := cellHeap (getO q1) h2
        rw [h3] at hc
        refine protOf (.inl ⟨k, es', getO q1, h2, h3⟩) ?_
        rintro (⟨k', e', r1, r2, r3⟩ | ⟨r, h⟩ | h)
        · have := hI.sep k' k e' es' (part_get hp r1) (getO q1) r2 h2 (r3.trans h3.symm)
          subst this
          have hnone := hmd k' _ q1 q2
          simp [Heap.get, hnone] at r1
        · exact hI.sp_neD (.inl ⟨r, hp.lps b r h⟩) hc hcd
        · simp at h
      · rw [(plN q1 q2).1] at h2 h3; exact .inl (.inl ⟨i, es, getO q2, h2, h3⟩)
    · rcases hlps b r h with h | ⟨h, h'⟩
      · exact .inl (.inr (.inl ⟨r, h⟩))
      · refine protOf (.inr (.inl ⟨r, h⟩)) ?_
        rintro (⟨k', e', r1, r2, r3⟩ | ⟨r', h2⟩ | h2)
        · obtain ⟨ob, hc, hcd⟩ := cellHeap (part_get hp r1) r2
          have r3' : (C.pl k').blk = b := r3
          rw [r3'] at hc
          exact hI.sp_neD (.inl ⟨r, h⟩) hc hcd
        · have h2' : lk Hs.lps b = some r' := h2
          rw [h'] at h2'; cases h2'
        · simp at h2
    · refine protOf (.inr (.inr h)) ?_
      rintro (⟨k', e', r1, r2, r3⟩ | ⟨r', h2⟩ | h2)
      · obtain ⟨ob, hc, hcd⟩ := cellHeap (part_get hp r1) r2
        have r3' : (C.pl k').blk = b := r3
        rw [r3'] at hc
        exact hI.sp_neD (.inr h) hc hcd
      · have q1 := hI.lps b r' (hp.lps b r' h2)
        have q2 := hI.dfs b h
        rw [q1] at q2; cases q2
      · simp at h2
    · exact .inr (by rw [hpr]; exact .inl h)
  have atom : ∀ x v, ok x → Rep C2 x v → Rep (C.back C2 H') x v := fun x v hx hr => by
    rcases mode with h | ⟨h1, h2⟩
    · exact (h x hx).rep hr
    · exact hr.move (h1 x hx) (Nat.le_refl _) (fun b _ q2 => ⟨rfl, fun h => q2 (badJ h2 b h)⟩)
  have repJ : ∀ x x' v, Ren ok m x x' → Rep C2 x v → Rep (C.back C2 H') x' v := by
    intro x x' v hs
    induction hs generalizing v with
    | same x hx => exact atom x v hx
    | any x => intro _; exact .any v
    | @view id k off len hk =>
      intro h
      match h with
      | .view _ _ _ _ h1 h2 h3 =>
      refine .view _ _ _ _ ?_ (fun es' he => ?_) h3
      · show k < H'.next
        rw [hnext]
        rcases mS hk with ⟨_, h5⟩ | rfl
        · have := (gmem h5).1; omega
        · omega
      · obtain ⟨s, _, ⟨q1, q2, q3⟩ | ⟨i, es, q1, q2, _⟩⟩ := objJ he
        · exfalso
          rcases mS hk with ⟨_, h5⟩ | h5
          · exact q2 _ (lk_mem h5) rfl
          · omega
        · have hi : i = id := by
            rcases mS hk with ⟨_, h5⟩ | h5 <;> rcases mS q1 with ⟨_, h6⟩ | h6
            · exact (ginj h5 h6).symm
            · have := (gmem h5).1; omega
            · have := (gmem h6).1; omega
            · omega
          subst hi
          rw [(plN q1 q2).1]; exact h2 es (getO q2)
    | @ref id k i j hk =>
      intro h
      match h with
      | .ref _ _ _ _ h1 h2 h3 =>
      refine .ref _ _ _ _ ?_ (fun es' he => ?_) h3
      · show k < H'.next
        rw [hnext]
        rcases mS hk with ⟨_, h5⟩ | rfl
        · have := (gmem h5).1; omega
        · omega
      · obtain ⟨s, _, ⟨q1, q2, q3⟩ | ⟨i', es, q1, q2, _⟩⟩ := objJ he
        · exfalso
          rcases mS hk with ⟨_, h5⟩ | h5
          · exact q2 _ (lk_mem h5) rfl
          · omega
        · have hi : i' = id := by
            rcases mS hk with ⟨_, h5⟩ | h5 <;> rcases mS q1 with ⟨_, h6⟩ | h6
            · exact (ginj h5 h6).symm
            · have := (gmem h5).1; omega
            · have := (gmem h6).1; omega
            · omega
          subst hi
          rw [(plN q1 q2).1]; exact h2 es (getO q2)
    | @mref id k hk =>
      intro h
      match h with
      | .mref _ _ h1 h2 h3 =>
      refine .mref _ _ ?_ (fun es' he => ?_) h3
      · show k < H'.next
        rw [hnext]
        rcases mS hk with ⟨_, h5⟩ | rfl
        · have := (gmem h5).1; omega
        · omega
      · obtain ⟨s, _, ⟨q1, q2, q3⟩ | ⟨i', es, q1, q2, _⟩⟩ := objJ he
        · exfalso
          rcases mS hk with ⟨_, h5⟩ | h5
          · exact q2 _ (lk_mem h5) rfl
          · omega
        · have hi : i' = id := by
            rcases mS hk with ⟨_, h5⟩ | h5 <;> rcases mS q1 with ⟨_, h6⟩ | h6
            · exact (ginj h5 h6).symm
            · have := (gmem h5).1; omega
            · have := (gmem h6).1; omega
            · omega
          subst hi
          rw [(plN q1 q2).1]; exact h2 es (getO q2)
    | agg cs cs' hl _ ih =>
      intro h
      match h with
      | .agg _ vs h1 h2 h3 =>
      refine .agg cs' vs (h1.trans hl) h2 (fun k x' hx' => ?_)
      have hk : k < cs.length := by rw [hl]; exact (List.getElem?_eq_some_iff.1 hx').1
      exact ih k cs[k] x' (List.getElem?_eq_getElem hk) hx' _ (h3 k _ (List.getElem?_eq_getElem hk))
    | tuple cs cs' hl _ ih =>
      intro h
      match h with
      | .tuple _ vs h1 h3 =>
      refine .tuple cs' vs (h1.trans hl) (fun k x' hx' => ?_)
      have hk : k < cs.length := by rw [hl]; exact (List.getElem?_eq_some_iff.1 hx').1
      exact ih k cs[k] x' (List.getElem?_eq_getElem hk) hx' _ (h3 k _ (List.getElem?_eq_getElem hk))
    | clo fn cs cs' hl _ ih =>
      intro h
      match h with
      | .clo _ _ vs h1 h3 =>
      refine .clo fn cs' vs (h1.trans hl) (fun k x' hx' => ?_)
      have hk : k < cs.length := by rw [hl]; exact (List.getElem?_eq_some_iff.1 hx').1
      exact ih k cs[k] x' (List.getElem?_eq_getElem hk) hx' _ (h3 k _ (List.getElem?_eq_getElem hk))
    | ifc t x x' _ ih =>
      intro h
      match h with
      | .ifc _ _ v h1 => exact .ifc t x' v (ih v h1)
  refine ⟨ext, ?_, repJ⟩
  have newBlk : ∀ {i s : Nat} {es : List AV} {k0 : Nat} {es0 : List AV}, lk C2.H.objs i = some (s, es) → (C2.pl i).nil = false → C.H.get k0 = some es0 → (C.pl k0).nil = false → (∀ q ∈ g, q.2 ≠ k0) → (C2.pl i).blk ≠ (C.pl k0).blk := fun {i s es k0 es0} h1 h2 h3 h4 h5 he => by
    have hlt := hI.lt h3 h4
    refine keptFree h3 h4 h5 (own2 hlt ?_)
    exact .inl ⟨i, es, getO h1, h2, he⟩
  exact {
    fresh := fun k es' h => by
      show k < H'.next
      rw [hnext]
      obtain ⟨s, _, ⟨q1, q2, q3⟩ | ⟨i, es, q1, q2, _⟩⟩ := objJ h
      · omega
      · rcases mS q1 with ⟨_, h5⟩ | rfl
        · have := (gmem h5).1; omega
        · have := hI2.fresh i es (getO q2); omega
    nil := fun k es' h hn => by
      obtain ⟨s, _, ⟨q1, q2, q3⟩ | ⟨i, es, q1, q2, q3⟩⟩ := objJ h
      · rw [plO q3] at hn; exact hI.nil k es' (getO q1) hn
      · rw [(plN q1 q2).1] at hn
        have := hI2.nil i es (getO q2) hn
        subst this
        exact List.eq_nil_of_length_eq_zero q3.len.symm
    obj := fun k es' h hn => by
      obtain ⟨s, _, ⟨q1, q2, q3⟩ | ⟨i, es, q1, q2, q3⟩⟩ := objJ h
      · rw [plO q3] at hn ⊢
        exact (hI.obj k es' (getO q1) hn).ext ext (keep _ (hI.lt (getO q1) hn) (keptFree (getO q1) hn q2))
      · rw [(plN q1 q2).1] at hn ⊢
        have hO := hI2.obj i es (getO q2) hn
        have bk : ∀ {q : Nat} {e' : AV}, es'[q]? = some e' → ∃ e, es[q]? = some e ∧ e.flat.length = e'.flat.length ∧ ∀ (j : Nat) (x x' : AV), e.flat[j]? = some x → e'.flat[j]? = some x' → Ren ok m x x' := fun {q e'} hq => by
          have hk : q < es.length := by rw [q3.len]; exact (List.getElem?_eq_some_iff.1 hq).1
          exact ⟨es[q], List.getElem?_eq_getElem hk, q3.see q _ e' (List.getElem?_eq_getElem hk) hq⟩
        refine ⟨hO.n.trans q3.len, hO.cap, hO.blk_to q3.mapd, hO.one, fun q e' he' => ?_, fun q j e' x' v he' hx' hv => ?_⟩
        · obtain ⟨e, h1, h2, _⟩ := bk he'
          rw [← h2]; exact hO.flat q e h1
        · obtain ⟨e, h1, h2, h3⟩ := bk he'
          have hj : j < e.flat.length := by rw [h2]; exact (List.getElem?_eq_some_iff.1 hx').1
          exact repJ _ _ _ (h3 j _ x' (List.getElem?_eq_getElem hj) hx') (hO.cell q j e _ v h1 (List.getElem?_eq_getElem hj) hv)
    sep := fun k1 k2 e1 e2 h1 h2 n1 n2 hb => by
      obtain ⟨s1, _, ⟨a1, a2, a3⟩ | ⟨i1, es1, a1, a2, _⟩⟩ := objJ h1 <;> obtain ⟨s2, _, ⟨b1, b2, b3⟩ | ⟨i2, es2, b1, b2, _⟩⟩ := objJ h2
      · rw [plO a3] at n1 hb; rw [plO b3] at n2 hb
        exact hI.sep k1 k2 e1 e2 (getO a1) (getO b1) n1 n2 hb
      · rw [plO a3] at n1 hb; rw [(plN b1 b2).1] at n2 hb
        exact absurd hb.symm (newBlk b2 n2 (getO a1) n1 a2)
      · rw [(plN a1 a2).1] at n1 hb; rw [plO b3] at n2 hb
        exact absurd hb (newBlk a2 n1 (getO b1) n2 b2)
      · rw [(plN a1 a2).1] at n1 hb; rw [(plN b1 b2).1] at n2 hb
        have := hI2.sep i1 i2 es1 es2 (getO a2) (getO b2) n1 n2 hb
        subst this
        rw [a1] at b1; exact Option.some.inj b1
    prot := fun k es' h hn hb => by
      obtain ⟨s, _, ⟨q1, q2, q3⟩ | ⟨i, es, q1, q2, q3⟩⟩ := objJ h
      · rw [plO q3] at hn hb; exact hI.prot k es' (getO q1) hn hb
      · rw [(plN q1 q2).1] at hn hb
        exact hI2.prot i es (getO q2) hn (by rw [hpr]; exact .inl hb)
    szok := fun k s h hn => by
      obtain ⟨⟨s', es'⟩, h1, h2⟩ := Option.map_eq_some_iff.1 h
      simp only at h2; subst h2
      rcases hback.spec h1 with ⟨q1, q2⟩ | ⟨i, es, q1, q2, _⟩
      · have q3 := hI.fresh k es' (getO q1)
        rw [plO q3] at hn ⊢; exact hI.szok k _ (by simp [Heap.sz, q1]) hn
      · rw [(plN q1 q2).1] at hn ⊢; exact hI2.szok i _ (by simp [Heap.sz, q2]) hn
    protlt := fun b hb => Nat.lt_of_lt_of_le (hI.protlt b hb) hs
    protge := hI.protge
    size := by have := hI2.size; rw [hB] at this; exact this
    glob := fun b hb => ⟨by have := (hI2.glob b (by rw [hB]; exact hb)).1; rw [hB] at this; exact this, fun ho => by
      rcases ownJ b ho with h | h
      · exact (hI.glob b hb).2 h
      · exact (hI2.glob b (by rw [hB]; exact hb)).2 h⟩
    lps := fun l r h => by
      rcases hlps l r h with h | ⟨h, h'⟩
      · exact hI2.lps l r h
      · have h1 := hI.lps l r h
        rw [← h1]
        refine keep l (Array.getElem?_eq_some_iff.1 h1).1 ?_
        rintro (h2 | ⟨r', h2⟩ | h2)
        · obtain ⟨n, k, es, _, q2, q3, q4⟩ := passed h2
          obtain ⟨ob, hc, hcd⟩ := cellHeap q2 q3
          rw [q4, h1] at hc; cases hc; rcases hcd with ⟨_, _, h⟩ | ⟨_, _, h⟩ <;> cases h
        · have h2' : lk Hin.lps l = some r' := h2
          rw [hlp, h'] at h2'; cases h2'
        · simp [Ctx.re, Ctx.hide] at h2
    dfs := fun d h => by
      have h1 := hI.dfs d h
      rw [← h1]
      refine keep d (Array.getElem?_eq_some_iff.1 h1).1 ?_
      rintro (h2 | ⟨r', h2⟩ | h2)
      · obtain ⟨n, k, es, _, q2, q3, q4⟩ := passed h2
        obtain ⟨ob, hc, hcd⟩ := cellHeap q2 q3
        rw [q4, h1] at hc; cases hc; rcases hcd with ⟨_, _, h⟩ | ⟨_, _, h⟩ <;> cases h
      · have q1 := hI.lps d r' (hp.lps d r' (by rw [← hlp]; exact h2))
        rw [h1] at q1; cases q1
      · simp [Ctx.re, Ctx.hide] at h2
    dnd := hI.dnd
    rod := hI.rod
    spprot := fun b h hb => by
      rcases h with ⟨r, h⟩ | h
      · rcases hlps b r h with h | ⟨h, _⟩
        · exact hI2.spprot b (.inl ⟨r, h⟩) (by rw [hpr]; exact .inl hb)
        · exact hI.spprot b (.inl ⟨r, h⟩) hb
      · exact hI.spprot b (.inr h) hb
    pinB := hI.pinB
    pinlt := Nat.le_trans hI.pinlt ext.next
    gh := W0.st C _ ext.mem hI.pinlt hI.gh }

theorem Inv.repin {B1 : Base} {p : Nat} (hI : Inv (.of W0.w) C) (hB : B1.w = W0.w) (hp : B1.p = p) (hle : p ≤ C.H.next) (hd : C.dfs = []) (hG : B1.G { C with pin := p }) : Inv B1 { C with pin := p } where
  fresh := hI.fresh
  nil := hI.nil
  obj id es h hn := by
    have hO := hI.obj id es h hn
    exact ⟨hO.n, hO.cap, hO.blk, hO.one, hO.flat, fun i j e x v h1 h2 h3 => (hO.cell i j e x v h1 h2 h3).sub rfl (Nat.le_refl _) (fun id es _ h => ⟨es, h⟩) (fun _ _ => rfl) (fun b h => h)⟩
  sep := hI.sep
  prot := hI.prot
  szok := hI.szok
  protlt := hI.protlt
  protge b h := by rw [hB]; exact hI.protge b h
  size := by rw [hB]; exact hI.size
  glob b h := by rw [hB] at h ⊢; exact hI.glob b h
  lps := hI.lps
  dfs := hI.dfs
  dnd := hI.dnd
  rod _ _ := hd
  spprot := hI.spprot
  pinB := hp.symm
  pinlt := hle
  gh := hG

def PartL (H : Heap) : List (Nat × (Nat × List AV)) → Prop
  | [] => True
  | (k, v) :: r => lk H.objs k = some v ∧ PartL H r
theorem PartL.spec {H : Heap} : ∀ {l : List (Nat × (Nat × List AV))}, PartL H l → ∀ k v, lk l k = some v → lk H.objs k = some v
  | [], _, _, _, h => by cases h
  | (q, u) :: l, hl, k, v, h => by
    simp only [lk] at h
    split at h
    · rename_i hq; subst hq; cases h; exact hl.1
    · exact PartL.spec hl.2 k v h

structure Pass (ok : AV → Prop) (fr fr' : List (Nat × AV)) (H Hs Hin Hout H' : Heap) (g m : List (Nat × Nat)) (nw : List Nat) (p : Nat) (r r' : AV) : Prop where
  next : Hs.next = H.next
  part : PartL H Hs.objs
  inj : g.all (fun p => g.all (fun q => p.2 != q.2 || p.1 == q.1)) = true
  lt : g.all (fun p => decide (p.1 < Hin.next)) = true
  nwf : nw.all (fun n => (lk g n).isNone && decide (n < Hin.next)) = true
  gin : g.all (fun q => (lk Hs.objs q.2).isSome) = true
  held : Held Hs g nw Hin.next Hin.objs
  seen : Seen Hs g nw fr fr'
  inlps : Hin.lps = Hs.lps
  ple : decide (p ≤ Hin.next) = true
  map : mapOk p H.next g m = true
  next' : H'.next = H.next + Hout.next
  back : Back ok H g m Hout H'.objs
  lps : (Hs.lps = [] ∧ H'.lps = H.lps) ∨ (Hs.lps = H.lps ∧ H'.lps = Hout.lps)
  mode : (∀ x, ok x → Dry x) ∨ ((∀ x, ok x → NoId x) ∧ H.objs.all (fun e => g.any (fun q => q.2 == e.1) || (lk Hs.objs e.1).isNone) = true)
  ren : Ren ok m r r'

def Ctx.sub (C : Ctx) (Hs Hin : Heap) (g : List (Nat × Nat)) (p : Nat) : Ctx := { (C.hide Hs).re g Hin with pin := p }

theorem Pass.isPart {ok : AV → Prop} {fr fr' : List (Nat × AV)} {H Hs Hin Hout H' : Heap} {g m : List (Nat × Nat)} {nw : List Nat} {p : Nat} {r r' : AV} (h : Pass ok fr fr' H Hs Hin Hout H' g m nw p r r') : Part Hs H :=
  ⟨h.next, h.part.spec, fun l r hl => by
    rcases h.lps with ⟨h1, _⟩ | ⟨h1, _⟩
    · rw [h1] at hl; cases hl
    · rw [h1] at hl; exact hl⟩

theorem Pass.into {ok : AV → Prop} {fr fr' : List (Nat × AV)} {H Hs Hin Hout H' : Heap} {g m : List (Nat × Nat)} {nw : List Nat} {p : Nat} {r r' : AV} {n : Nat} {vals : Array Value} (h : Pass ok fr fr' H Hs Hin Hout H' g m nw p r r')
    (hI : Inv W0 C) (hH : C.H = H) (hsz : vals.size = n) (hrep : ∀ t x, lk fr t = some x → Rep C x (vals.getD t undef)) :
    Rel (.of W0.w) n (lk fr') Hin ((C.hide Hs).re g Hin) { tmps := vals, defers := [] } := by
  have hp := h.isPart
  rw [← hH] at hp
  have hr0 : Rel (.of W0.w) n (lk fr) Hs (C.hide Hs) { tmps := vals, defers := [] } := ⟨rfl, hI.hide hp, hsz, rfl, fun t x hx => (hrep t x hx).hide hp⟩
  exact (re_rel (st := ⟨fr, Hs⟩) g nw h.inj h.lt h.nwf h.held h.seen (by simp [pinOk]) h.inlps hr0).2

theorem rep_pin {x : AV} {v : Value} {p : Nat} (h : Rep C x v) : Rep { C with pin := p } x v :=
  h.sub rfl (Nat.le_refl _) (fun id es _ h => ⟨es, h⟩) (fun _ _ => rfl) (fun b h => h)

theorem Pass.outof {ok : AV → Prop} {fr fr' : List (Nat × AV)} {H Hs Hin Hout H' : Heap} {g m : List (Nat × Nat)} {nw : List Nat} {p : Nat} {r r' : AV} {B1 : Base} {C2 : Ctx} (h : Pass ok fr fr' H Hs Hin Hout H' g m nw p r r')
    (hI : Inv W0 C) (hH : C.H = H) (hB : B1.w = W0.w) (hM : Mem (C.sub Hs Hin g p) C2) (hI2 : Inv B1 C2) (hH2 : C2.H = Hout) (hd2 : C2.dfs = []) :
    Ext C (C.back C2 H') ∧ Inv W0 (C.back C2 H') ∧ ∀ v, Rep C2 r v → Rep (C.back C2 H') r' v := by
  have hp := h.isPart
  subst hH hH2
  obtain ⟨h1, h2, h3⟩ := sub_out (ok := ok) (H' := H') (m := m) (nw := nw) hI hp hB h.held (fun n hn => by
      have := List.all_eq_true.1 h.nwf n hn
      simp at this; exact this.1) h.inj (fun q hq => List.all_eq_true.1 h.gin q hq) h.inlps hM (of_decide_eq_true h.ple) hI2 hd2 h.map h.next' h.back (fun l r hl => by
      rcases h.lps with ⟨q1, q2⟩ | ⟨q1, q2⟩
      · rw [q2] at hl; exact .inr ⟨hl, by rw [q1]; rfl⟩
      · rw [q2] at hl; exact .inl hl) (h.mode.imp id fun ⟨q1, q2⟩ => ⟨q1, fun k v hk hq => by
      have := List.all_eq_true.1 q2 _ (lk_mem hk)
      simp only [Bool.or_eq_true, List.any_eq_true, beq_iff_eq, Option.isNone_iff_eq_none] at this
      rcases this with ⟨q, hq1, hq2⟩ | h
      · exact absurd hq2 (hq q hq1)
      · exact h⟩)
  exact ⟨h1, h2, fun v hv => h3 r r' v h.ren hv⟩

theorem call3 {ok : AV → Prop} {f : FuncId} {ys xs : List AV} {r r' : AV} {Hs Hin Hout H' : Heap} {g m : List (Nat × Nat)} {nw : List Nat} {p : Nat} {B1 : Base} {vals : Array Value} (hf : Fun3 P B1 f xs Hin r Hout) (hB : B1.w = W0.w) (hBp : B1.p = p)
    (h : Pass ok (argsFr 0 ys) (argsFr 0 xs) H Hs Hin Hout H' g m nw p r r') (hl : xs.length = ys.length) (hI : Inv W0 C) (hH : C.H = H) (hsz : vals.size = ys.length) (hrep : ∀ t x, lk (argsFr 0 ys) t = some x → Rep C x (vals.getD t undef))
    (hG : B1.G (C.sub Hs Hin g p)) :
    Calls P f vals C.w (fun e w' => ∃ v C', e = .returned v ∧ C'.w = w' ∧ Ext C C' ∧ Inv W0 C' ∧ C'.H = H' ∧ Rep C' r' v) := by
  have h1 := h.into hI hH hsz hrep
  have h2 : Inv B1 (C.sub Hs Hin g p) := h1.inv.repin (W0 := W0) hB hBp (of_decide_eq_true h.ple) rfl hG
  refine (hf.runs (C.sub Hs Hin g p) vals h2 rfl rfl (by rw [hl]; exact hsz) (fun k x hx => rep_pin (rel_args h1 k x hx))).mono ?_
  rintro e w' ⟨v, C2, rfl, rfl, hM, hI2, hH2, hd2, hr⟩
  obtain ⟨q1, q2, q3⟩ := h.outof hI hH hB hM hI2 hH2 hd2
  exact ⟨v, C.back C2 H', rfl, rfl, q1, q2, rfl, q3 v hr⟩

end
end Go.Av
end

section
/- Ranges over functions: the statement, its rounds, and the calls of yield. -/
namespace Go.Av

def rangesOf : Code → List (Array Tmp × Code × Code)
  | .seq a b => rangesOf a ++ rangesOf b
  | .cond _ a b => rangesOf a ++ rangesOf b
  | .block _ c => rangesOf c
  | .loop c => rangesOf c
  | .scope c => rangesOf c
  | .rangeFunc _ ps a b => (ps, a, b) :: (rangesOf a ++ rangesOf b)
  | _ => []

structure RecAt (rec : Loop) (fn : Func) (k N : Nat) : Prop where
  ready : rec.state = .ready
  none : rec.pending = none
  code : (fn.body.bind fun c => (rangesOf c)[k]?) = some (rec.params, rec.assign, rec.body)
  size : rec.tmps.size = N

def lpst (rec : Loop) (j : Code) : Bool → Loop
  | true => rec
  | false => { rec with state := .done, pending := some j }

def endRec (rec : Loop) : Option Code → Loop
  | none => rec
  | some c => lpst rec c false

theorem RecAt.params {rec : Loop} {fn : Func} {k N : Nat} {ps : Array Tmp} {as1 bd : Code} (h : RecAt rec fn k N) (hc : (fn.body.bind fun c => (rangesOf c)[k]?) = some (ps, as1, bd)) : rec.params = ps := by
  have := h.code
  rw [hc] at this
  simp only [Option.some.injEq, Prod.mk.injEq] at this
  exact this.1.symm

theorem RecAt.endRec {rec : Loop} {fn : Func} {k N : Nat} (h : RecAt rec fn k N) (j : Option Code) : ({ rec with state := if j.isNone then .ready else .done, pending := j } : Loop) = endRec rec j := by
  have h1 := h.ready
  have h2 := h.none
  cases rec
  simp only at h1 h2
  subst h1 h2
  cases j <;> rfl

def Base.it (W : World) (p : Nat) (rec : Loop) (frl : List (Nat × AV)) : Base where
  w := W
  p := p
  ro := none
  G C := C.pin = p ∧ ∀ t x, lk frl t = some x → Under p x ∧ Rep C x (rec.tmps.getD t undef)
  st C C' hM hp h := ⟨hM.pin.trans h.1, fun t x hx => ⟨(h.2 t x hx).1, (h.2 t x hx).2.mem hM hp (by rw [h.1]; exact (h.2 t x hx).1)⟩⟩
  dx := []

def Base.rd (W : World) (p : Nat) (l : Nat) : Base := ⟨W, p, some l, fun _ => True, fun _ _ _ _ _ => trivial, []⟩

section
variable {P : Program} {W0 : Base} {C : Ctx} {fr : Fr} {a : Act} {H : Heap} {o : Oper} {N : Nat}

theorem poke {C' : Ctx} (hI : Inv W0 C) {b : Nat} (hb : C.sp b) {ob : Obj} (hw : C'.w = C.w.putObj b ob) (hobjs : C'.H.objs = C.H.objs) (hnext : C'.H.next = C.H.next) (hpl : C'.pl = C.pl) (hprot : C'.prot = C.prot) (hpin : C'.pin = C.pin)
    (hsp : ∀ b, C'.sp b → C.sp b) (hlps : ∀ l r, lk C'.H.lps l = some r → C'.w.heap[l]? = some (.loop r)) (hdfs : ∀ d, d ∈ C'.dfs → C'.w.heap[d]? = some (.deferred (some []))) (hdnd : C'.dfs.Nodup) (hrod : ∀ l, W0.ro = some l → C'.dfs = []) :
    Mem C C' ∧ Inv W0 C' ∧ ∀ x v, Rep C x v → Rep C' x v := by
  obtain ⟨ob0, hd, hnc⟩ := hI.sp_heap hb
  have hsz : C'.w.heap.size = C.w.heap.size := by rw [hw]; simp
  have hne : ∀ q, q ≠ b → C'.w.heap[q]? = C.w.heap[q]? := fun q hq => by rw [hw]; exact World.putObj_heap_other hq
  have hcell : ∀ {q : Nat} {arr : Array Value} {el : TypeId} {fz : Nat × Nat}, C.w.heap[q]? = some (.cells arr el fz) → q ≠ b := fun {q arr el fz} h hq => by
    subst hq; rw [hd] at h; exact hnc _ _ _ (Option.some.inj h)
  have hcellD : ∀ {q : Nat} {o : Obj}, C.w.heap[q]? = some o → isD o → q ≠ b := fun {q o} h h2 hq => by
    subst hq; exact hI.sp_neD hb h h2
  have hget : ∀ id, C'.H.get id = C.H.get id := fun id => by simp [Heap.get, hobjs]
  have hown : ∀ q, C'.own q → C.own q := by
    rintro q (⟨id, es, h1, h2, h3⟩ | h)
    · exact .inl ⟨id, es, by rw [← hget]; exact h1, by rw [← hpl]; exact h2, by rw [← hpl]; exact h3⟩
    · exact .inr (hsp q h)
  have hbad : ∀ q, C'.bad q → C.bad q := fun q h => h.imp (hown q) (fun h => by rw [← hprot]; exact h)
  have hM : Mem C C' := ⟨by rw [hw]; exact ⟨rfl, rfl, rfl, by simp, fun k hk => absurd hk (Nat.not_lt_zero k)⟩, fun q _ hq => hne q (fun h => hq (.inr (h ▸ hb))), fun q _ h => hown q h, hprot, hpin, fun hp => ⟨by rw [hpin, hnext]; exact hp, fun k es' _ hg => ⟨⟨es', by rw [← hget]; exact hg⟩, by rw [hpl]⟩⟩⟩
  have hholds : ∀ {q i : Nat} {v : Value}, Holds C.w q i v → Holds C'.w q i v := fun {q i v} h => by
    refine ⟨?_, h.2⟩
    have hq : q ≠ b := fun hq => by
      subst hq
      have := h.1
      unfold World.cell? at this
      rw [hd] at this
      cases ob0 <;> first | exact hnc _ _ _ rfl | (simp at this)
    rw [World.cell?_of_block (w := C.w) (a := ⟨q, i, none⟩) (hne q hq)]
    exact h.1
  have hrep : ∀ x v, Rep C x v → Rep C' x v := by
    intro x v h
    induction h with
    | any v => exact .any v
    | imm v hv => exact .imm v hv
    | slNil a cap => exact .slNil a cap
    | sl es q off sz cap c hlt hbd hc hf hcell _ ih => exact .sl es q off sz cap c (by rw [hsz]; exact hlt) (fun h => hbd (hbad q h)) hc hf (fun i j e x he hx => hholds (hcell i j e x he hx)) ih
    | clipNil a => exact .clipNil a
    | clip es q off sz c hlt hbd hf hcell _ ih => exact .clip es q off sz c (by rw [hsz]; exact hlt) (fun h => hbd (hbad q h)) hf (fun i j e x he hx => hholds (hcell i j e x he hx)) ih
    | view id off len v hid hs h1 => exact .view id off len v (by rw [hnext]; exact hid) (fun es he => by rw [hpl]; exact hs es (by rw [← hget]; exact he)) h1
    | ref id i j v hid hs h1 => exact .ref id i j v (by rw [hnext]; exact hid) (fun es he => by rw [hpl]; exact hs es (by rw [← hget]; exact he)) h1
    | mref id v hid hs h1 => exact .mref id v (by rw [hnext]; exact hid) (fun es he => by rw [hpl]; exact hs es (by rw [← hget]; exact he)) h1
    | pp fl j q off c hlt hbd hcell _ ih => exact .pp fl j q off c (by rw [hsz]; exact hlt) (fun h => hbd (hbad q h)) (fun k x hx => hholds (hcell k x hx)) ih
    | agg cs vs hs h1 _ ih => exact .agg cs vs hs h1 ih
    | tuple cs vs hs _ ih => exact .tuple cs vs hs ih
    | ifc t x v _ ih => exact .ifc t x v ih
    | clo fn caps vs hs _ ih => exact .clo fn caps vs hs ih
  refine ⟨hM, ?_, hrep⟩
  exact {
    fresh := fun id es h => by rw [hnext]; exact hI.fresh id es (by rw [← hget]; exact h)
    nil := fun id es h hn => hI.nil id es (by rw [← hget]; exact h) (by rw [← hpl]; exact hn)
    obj := fun id es h hn => by
      rw [hget] at h; rw [hpl] at hn ⊢
      have hO := hI.obj id es h hn
      obtain ⟨ob, h1, h2⟩ := hO.dat
      have hq := hcellD h1 h2
      have hc : ∀ o, C'.w.cell? ⟨(C.pl id).blk, o, none⟩ = C.w.cell? ⟨(C.pl id).blk, o, none⟩ := fun o => World.cell?_of_block (w := C.w) (a := ⟨_, o, none⟩) (hne _ hq)
      exact ⟨hO.n, hO.cap, by rw [hne _ hq]; exact hO.blk, fun o v hv => hO.one o v (by rw [← hc o]; exact hv), hO.flat, fun i j e x v h1 h2 h3 => hrep _ _ (hO.cell i j e x v h1 h2 (by rw [← hc]; exact h3))⟩
    sep := fun i1 i2 e1 e2 h1 h2 h3 h4 h5 => hI.sep i1 i2 e1 e2 (by rw [← hget]; exact h1) (by rw [← hget]; exact h2) (by rw [← hpl]; exact h3) (by rw [← hpl]; exact h4) (by rw [← hpl]; exact h5)
    prot := fun id es h hn hp => hI.prot id es (by rw [← hget]; exact h) (by rw [← hpl]; exact hn) (by rw [hprot, hpl] at hp; exact hp)
    szok := fun id s h hn => by
      rw [hpl] at hn ⊢
      exact hI.szok id s (by simpa [Heap.sz, hobjs] using h) hn
    protlt := fun q h => by rw [hsz]; exact hI.protlt q (by rw [← hprot]; exact h)
    protge := fun q h => hI.protge q (by rw [← hprot]; exact h)
    size := by rw [hsz]; exact hI.size
    glob := fun q h => ⟨by
      rw [← (hI.glob q h).1]
      exact hne q (fun hq => (hI.glob q h).2 (.inr (hq ▸ hb))), fun ho => (hI.glob q h).2 (hown q ho)⟩
    lps := hlps
    dfs := hdfs
    dnd := hdnd
    rod := hrod
    spprot := fun q h hp => hI.spprot q (hsp q h) (by rw [← hprot]; exact hp)
    pinB := by rw [hpin]; exact hI.pinB
    pinlt := by rw [hpin, hnext]; exact hI.pinlt
    gh := W0.st C C' hM hI.pinlt hI.gh }

def Ctx.turn (C : Ctx) (l : Nat) (r : Loop) : Ctx := { C with w := C.w.putObj l (.loop r), H := { C.H with lps := [(l, r)] } }

theorem rec_turns (hI : Inv W0 C) {l : Nat} {r0 : Loop} (r : Loop) (hl : C.H.lps = [(l, r0)]) : Mem C (C.turn l r) ∧ Inv W0 (C.turn l r) ∧ ∀ x v, Rep C x v → Rep (C.turn l r) x v := by
  have h0 : C.w.heap[l]? = some (.loop r0) := hI.lps l r0 (by rw [hl]; simp [lk])
  have hlt : l < C.w.heap.size := (Array.getElem?_eq_some_iff.1 h0).1
  refine poke (C' := C.turn l r) hI (b := l) (.inl ⟨r0, by rw [hl]; simp [lk]⟩) (ob := .loop r) rfl rfl rfl rfl rfl rfl (fun b h => ?_) (fun l' r' h => ?_) (fun d h => ?_) hI.dnd hI.rod
  · rcases h with ⟨r', h⟩ | h
    · simp only [Ctx.turn, lk] at h
      split at h
      · rename_i hb; subst hb; exact .inl ⟨r0, by rw [hl]; simp [lk]⟩
      · cases h
    · exact .inr h
  · simp only [Ctx.turn, lk] at h
    split at h
    · rename_i hb; subst hb; cases h; exact World.putObj_heap_same hlt
    · cases h
  · have h1 := hI.dfs d h
    rw [← h1]
    refine World.putObj_heap_other (fun hd => ?_)
    rw [hd, h0] at h1; cases h1


def Round3 (P : Program) (W : World) (p : Nat) (l : Nat) (rec : Loop) (frl : List (Nat × AV)) (xs : List AV) (Hin : Heap) (b : Bool) (Hout : Heap) : Prop :=
  ∀ (C : Ctx) (vals : Array Value), Inv (.rd W p l) C → C.H = Hin → vals.size = xs.length → (∀ (k : Nat) (x : AV), xs[k]? = some x → Rep C x (vals.getD k undef)) →
    (∀ t x, lk frl t = some x → Rep C x (rec.tmps.getD t undef)) →
    RoundIn Fence.wide 0 P l rec.fn ((rec.params.zip vals).foldl (fun tmps (t, a) => tmps.setIfInBounds t a) rec.tmps) rec.assign rec.body C.w
      (fun e w' => ∃ C', e = .returned (.bool b) ∧ C'.w = w' ∧ Mem C C' ∧ Inv (.rd W p l) C' ∧ C'.H = Hout)

def jumpOf : Exit → Option (Option Code)
  | .normal => some none
  | .ret => some (some .ret)
  | .exit id => some (some (.exit id))
  | .goto t => some (some (.goto t))
  | _ => none

theorem foldl_set_size (l : List (Nat × Value)) (tm : Array Value) : (l.foldl (fun tmps (t, a) => tmps.setIfInBounds t a) tm).size = tm.size := by
  induction l generalizing tm with
  | nil => rfl
  | cons p l ih => simp [ih]

theorem foldl_set_get (l : List (Nat × Value)) (tm : Array Value) (t : Nat) :
    (∃ (k : Nat) (v : Value), l[k]? = some (t, v) ∧ (l.foldl (fun tmps (t, a) => tmps.setIfInBounds t a) tm).getD t undef = (if t < tm.size then v else undef)) ∨
    ((∀ q ∈ l, q.1 ≠ t) ∧ (l.foldl (fun tmps (t, a) => tmps.setIfInBounds t a) tm).getD t undef = tm.getD t undef) := by
  induction l generalizing tm with
  | nil => exact .inr ⟨fun q h => (by cases h), rfl⟩
  | cons p l ih =>
    obtain ⟨s, u⟩ := p
    rcases ih (tm.setIfInBounds s u) with ⟨k, v, h1, h2⟩ | ⟨h1, h2⟩
    · left
      refine ⟨k + 1, v, by simpa using h1, ?_⟩
      simp only [List.foldl_cons]
      rw [h2]; simp
    · by_cases hs : s = t
      · subst hs
        left
        refine ⟨0, u, rfl, ?_⟩
        simp only [List.foldl_cons]
        rw [h2]
        by_cases hlt : s < tm.size
        · simp [hlt, Array.getD]
        · simp [hlt, Array.getD]
      · right
        refine ⟨fun q hq => ?_, ?_⟩
        · rcases List.mem_cons.1 hq with rfl | hq
          · exact hs
          · exact h1 q hq
        · simp only [List.foldl_cons]
          rw [h2]
          simp only [Array.getD_eq_getD_getElem?]
          rw [Array.getElem?_setIfInBounds_ne hs]

def roundFr (ps : List Nat) (xs : List AV) (frl : List (Nat × AV)) : List (Nat × AV) := ps.zip xs ++ frl

theorem round3_of_awp {W : World} {p l N k : Nat} {rec : Loop} {fn : Func} {frl : List (Nat × AV)} {xs : List AV} {Hin Hout : Heap} {b : Bool} {ps : Array Tmp} {as1 bd : Code} (hrec : RecAt rec fn k N) (hcode : (fn.body.bind fun c => (rangesOf c)[k]?) = some (ps, as1, bd))
    (hlp : Hin.lps = [(l, rec)]) (hxs : xs.length = ps.size) (hN : ps.toList.all (fun t => decide (t < N)) = true) (hnd : ps.toList.Nodup)
    (h : AWP P (.rd W p l) N as1 ⟨roundFr ps.toList xs frl, Hin⟩ (fun e s => e = .normal ∧ s.H.lps = [(l, rec)] ∧
      AWP P (.rd W p l) N bd ⟨s.fr, { s.H with lps := [(l, { rec with state := .busy })] }⟩ (fun e s => s.H.lps = [(l, { rec with state := .busy })] ∧ ∃ j, jumpOf e = some j ∧ b = j.isNone ∧
        Weak (.rd W p l) 0 ⟨[], { s.H with lps := [(l, endRec rec j)] }⟩ ⟨[], Hout⟩))) :
    Round3 P W p l rec frl xs Hin b Hout := by
  intro C vals hI hH hsz hrep hrl
  have hc := hrec.code
  rw [hcode] at hc
  simp only [Option.some.injEq, Prod.mk.injEq] at hc
  obtain ⟨rfl, rfl, rfl⟩ := hc
  have hzip : ∀ (i : Nat) (t : Nat) (v : Value), (rec.params.zip vals).toList[i]? = some (t, v) → rec.params.toList[i]? = some t ∧ vals.toList[i]? = some v := fun i t v h => by
    rw [Array.toList_zip, List.getElem?_zip_eq_some] at h
    exact h
  have hfold : (rec.params.zip vals).foldl (fun tmps (t, a) => tmps.setIfInBounds t a) rec.tmps = (rec.params.zip vals).toList.foldl (fun tmps (t, a) => tmps.setIfInBounds t a) rec.tmps := by
    rw [← Array.foldl_toList]
  have hsize : ((rec.params.zip vals).foldl (fun tmps (t, a) => tmps.setIfInBounds t a) rec.tmps).size = N := by
    rw [hfold, foldl_set_size, hrec.size]
  have hrel : Rel (.rd W p l) N (lk (roundFr rec.params.toList xs frl)) Hin C { tmps := (rec.params.zip vals).foldl (fun tmps (t, a) => tmps.setIfInBounds t a) rec.tmps, defers := [] } := by
    refine ⟨hH, hI, hsize, by have := hI.rod l rfl; simp [this, Base.rd], fun t x hx => ?_⟩
    show Rep C x (((rec.params.zip vals).foldl (fun tmps (t, a) => tmps.setIfInBounds t a) rec.tmps).getD t undef)
    rw [hfold]
    simp only [roundFr] at hx
    rw [lk_append] at hx
    rcases foldl_set_get (rec.params.zip vals).toList rec.tmps t with ⟨i, v, h1, h2⟩ | ⟨h1, h2⟩
    · rw [h2]
      obtain ⟨q1, q2⟩ := hzip i t v h1
      have htN : t < rec.tmps.size := by
        rw [hrec.size]
        have := List.all_eq_true.1 hN t (List.mem_of_getElem? q1)
        simpa using this
      rw [if_pos htN]
      have hix : i < xs.length := by rw [hxs]; simpa using (List.getElem?_eq_some_iff.1 q1).1
      have hz : lk (rec.params.toList.zip xs) t = some xs[i] := by
        have key : ∀ (ps : List Nat) (xs : List AV) (i : Nat) (x : AV), ps.Nodup → ps[i]? = some t → xs[i]? = some x → lk (ps.zip xs) t = some x := by
          intro ps
          induction ps with
          | nil => intro xs i x _ h; simp at h
          | cons q ps ih =>
            intro xs i x hn hq hy
            cases xs with
            | nil => simp at hy
            | cons y ys =>
              cases i with
              | zero => simp at hq hy; subst hy; rw [hq]; simp [lk]
              | succ i =>
                simp at hq hy
                have hne : q ≠ t := fun he => (List.nodup_cons.1 hn).1 (he ▸ List.mem_of_getElem? hq)
                simp only [List.zip_cons_cons, lk]
                rw [if_neg hne]
                exact ih ys i x (List.nodup_cons.1 hn).2 hq hy
        exact key _ _ i _ hnd q1 (List.getElem?_eq_getElem hix)
      rw [hz] at hx
      simp only [Option.some.injEq] at hx
      subst hx
      have := hrep i xs[i] (List.getElem?_eq_getElem hix)
      have hv : vals.getD i undef = v := by
        have : vals[i]? = some v := by simpa using q2
        simp [Array.getD_eq_getD_getElem?, this]
      rwa [hv] at this
    · rw [h2]
      have hz : lk (rec.params.toList.zip xs) t = none := by
        have key : ∀ (ps : List Nat) (xs : List AV), (∀ q ∈ ps, q ≠ t) → lk (ps.zip xs) t = none := by
          intro ps
          induction ps with
          | nil => intro xs _; rfl
          | cons q ps ih =>
            intro xs hq
            cases xs with
            | nil => rfl
            | cons y ys =>
              simp only [List.zip_cons_cons, lk]
              rw [if_neg (hq q (List.mem_cons_self ..))]
              exact ih ys (fun r hr => hq r (List.mem_cons_of_mem _ hr))
        refine key _ _ (fun q hq => ?_)
        obtain ⟨i, hi⟩ := List.getElem?_of_mem hq
        have hil : i < vals.toList.length := by
          have := (List.getElem?_eq_some_iff.1 hi).1
          simp at this ⊢; omega
        have hm : (q, vals.toList[i]) ∈ (rec.params.zip vals).toList := by
          rw [Array.toList_zip]
          refine List.mem_of_getElem? (i := i) ?_
          rw [List.getElem?_zip_eq_some]
          exact ⟨hi, List.getElem?_eq_getElem hil⟩
        exact h1 _ hm
      rw [hz] at hx
      exact hrl t x hx
  refine roundIn_of_wpIn trivial (wpIn_mono (h C _ hrel) fun e a1 w1 ⟨s, C1, g1, g2, g3, g4⟩ => ?_)
  obtain ⟨rfl, hs1, hbody⟩ := g4
  subst g1
  have hl1 : C1.w.heap[l]? = some (.loop rec) := g3.inv.lps l rec (by rw [g3.heap, hs1]; simp [lk])
  obtain ⟨m1, i1, r1⟩ := rec_turns g3.inv { rec with state := .busy } (by rw [g3.heap]; exact hs1)
  refine ⟨C1.w.putObj l (.loop { rec with state := .busy }), run_beginRound hl1 hrec.ready, ?_⟩
  have hrel1 : Rel (.rd W p l) N (lk s.fr) { s.H with lps := [(l, { rec with state := .busy })] } (C1.turn l { rec with state := .busy }) a1 :=
    ⟨by simp only [Ctx.turn, g3.heap], i1, g3.size, g3.defers, fun t x hx => r1 _ _ (g3.rep t x hx)⟩
  refine wpIn_mono (hbody _ _ hrel1) fun e a2 w2 ⟨s2, C2, q1, q2, q3, q4, j, q5, q6, q7⟩ => ?_
  subst q1
  have hl2 : C2.w.heap[l]? = some (.loop { rec with state := .busy }) := q3.inv.lps l _ (by rw [q3.heap, q4]; simp [lk])
  rw [← hrec.endRec] at q7
  obtain ⟨m2, i2, r2⟩ := rec_turns q3.inv { rec with state := if j.isNone then .ready else .done, pending := j } (by rw [q3.heap]; exact q4)
  have fin : ∃ v w', (Instr.endRound l j).run P C2.w = .ok v w' ∧ ∃ C', Ending.returned v = .returned (.bool b) ∧ C'.w = w' ∧ Mem C C' ∧ Inv (.rd W p l) C' ∧ C'.H = Hout := by
    obtain ⟨C3, p1, p2, p3⟩ := q7 (C2.turn l { rec with state := if j.isNone then .ready else .done, pending := j }) { tmps := #[], defers := [] } ⟨by simp only [Ctx.turn, q3.heap], i2, rfl, by rw [i2.rod l rfl]; rfl, fun t x hx => by simp [lk] at hx⟩
    refine ⟨_, _, run_endRound j hl2, C3, by rw [q6], ?_, g2.trans (m1.trans (q2.trans (m2.trans p2))), p3.inv, p3.heap⟩
    rw [p1]
    rfl
  cases e with
  | normal => simp only [jumpOf, Option.some.injEq] at q5; subst q5; exact fin
  | ret => simp only [jumpOf, Option.some.injEq] at q5; subst q5; exact fin
  | exit id => simp only [jumpOf, Option.some.injEq] at q5; subst q5; exact fin
  | goto t => simp only [jumpOf, Option.some.injEq] at q5; subst q5; exact fin
  | panic c => simp [jumpOf] at q5
  | outgrown => simp [jumpOf] at q5

theorem see_lps {Hs Ht : Heap} {g : List (Nat × Nat)} {nw : List Nat} {x x' : AV} (ho : Hs.objs = Ht.objs) (h : See Hs g nw x x') : See Ht g nw x x' := by
  have hget : ∀ id, Hs.get id = Ht.get id := fun id => by simp [Heap.get, ho]
  induction h with
  | same x h => exact .same x h
  | any x => exact .any x
  | view h => exact .view h
  | viewL h h2 => exact .viewL h h2
  | ref h => exact .ref h
  | mref h => exact .mref h
  | nil h => exact .nil h
  | lend h1 h2 h3 h4 => exact .lend (by rw [← hget]; exact h1) h2 h3 h4
  | agg cs cs' hl _ ih => exact .agg cs cs' hl ih
  | tuple cs cs' hl _ ih => exact .tuple cs cs' hl ih
  | clo fn cs cs' hl _ ih => exact .clo fn cs cs' hl ih
  | ifc t x x' _ ih => exact .ifc t x x' ih
  | wide es h => exact .wide es h
  | nilsl => exact .nilsl
  | frz h1 h2 h3 h4 h5 => exact .frz (by rw [← hget]; exact h1) h2 h3 h4 h5
theorem seen_lps' {Hs Ht : Heap} {g : List (Nat × Nat)} {nw : List Nat} {fr : List (Nat × AV)} (ho : Hs.objs = Ht.objs) : ∀ {l : List (Nat × AV)}, Seen Hs g nw fr l → Seen Ht g nw fr l
  | [], _ => trivial
  | _ :: _, ⟨⟨x, h1, h2⟩, h3⟩ => ⟨⟨x, h1, see_lps ho h2⟩, seen_lps' ho h3⟩
theorem seen_lps {Hs : Heap} {g : List (Nat × Nat)} {nw : List Nat} {fr : List (Nat × AV)} {l : List (Nat × AV)} {ll : List (Nat × Loop)} (h : Seen { Hs with lps := [] } g nw fr l) : Seen { Hs with lps := ll } g nw fr l := seen_lps' (Hs := { Hs with lps := [] }) (Ht := { Hs with lps := ll }) rfl h


theorem aop_yield3 {ok : AV → Prop} {args : Array Operand} {tys : Array TypeId} {f : Operand} {ys xs : List AV} {Hs Hin Hout H' : Heap} {g m : List (Nat × Nat)} {nw : List Nat} {p l k N : Nat} {rec : Loop} {fn : Func} {b : Bool} {frl : List (Nat × AV)} {W : World}
    (ho : o.op = .call { callee := .value f, args := args, argTypes := tys }) (hf : evalA fr f = some (.clo (.yield l) [])) (hys : args.toList.mapM (evalA fr) = some ys)
    (hround : Round3 P W p l rec frl xs Hin b Hout) (hrec : RecAt rec fn k N) (hlp : Hs.lps = [(l, rec)]) (hps : rec.params.size = ys.length)
    (h : Pass ok (argsFr 0 ys) (argsFr 0 xs) H Hs Hin Hout H' g m nw p (.imm (.bool b)) (.imm (.bool b))) (hl : xs.length = ys.length) (hg : (List.range p).all (fun k => lk g k == some k) = true) (hnp : (List.range p).all (fun k => !nw.contains k) = true) :
    AOpI P (.it W p rec frl) o fr H (.imm (.bool b)) H' := by
  intro C a hI hH hop K Q hK
  have hopy : ∀ y ∈ args.toList, RepO C fr a y := fun y hy => hop y (by rw [ho]; simp [Op.operands, Call.operands]; exact .inr (by simpa using hy))
  have hr0 := args_rep hopy hys
  have h1 := h.into hI hH hr0.1 hr0.2
  have h2 : Inv (.rd W p l) (C.sub Hs Hin g p) := h1.inv.repin (W0 := .it W p rec frl) rfl rfl (of_decide_eq_true h.ple) rfl trivial
  have hfv : a.eval f = .func (.yield l) #[] #[] := by
    have hmem : f ∈ o.op.operands := by rw [ho]; simp [Op.operands, Call.operands]
    have := rep_eval (hop f hmem) hf
    generalize a.eval f = v at this
    cases this with
    | clo _ _ vs hs _ =>
      have : vs = #[] := Array.eq_empty_of_size_eq_zero (by simpa using hs)
      rw [this]
  have hlr : C.w.heap[l]? = some (.loop rec) := hI.lps l rec (by
    have := h.isPart.lps l rec (by rw [hlp]; simp [lk])
    rw [hH]; exact this)
  have hyr := run_yield (P := P) (args := args.map a.eval) hlr (by rw [hr0.1]; exact hps.symm)
  have hrun : (execOp a.eval o).run P C.w = .ok (.round l rec.fn ((rec.params.zip (args.map a.eval)).foldl (fun tmps (t, a) => tmps.setIfInBounds t a) rec.tmps) rec.assign rec.body) C.w := by
    simp only [execOp, ho, resolve, hfv, Deferred.ofValue]
    simpa [invoke] using hyr
  -- what the rounds' frame holds, as the callee sees it
  have hfrl : ∀ t x, lk frl t = some x → Rep (C.sub Hs Hin g p) x (rec.tmps.getD t undef) := fun t x hx => by
    obtain ⟨hu, hr⟩ := hI.gh.2 t x hx
    have hp := h.isPart
    rw [← hH] at hp
    have hle : p ≤ Hin.next := of_decide_eq_true h.ple
    have key : ∀ x v, Under p x → Rep C x v → Rep (C.sub Hs Hin g p) x v := by
      intro x v hu hr
      have hbad : ∀ b, (C.sub Hs Hin g p).bad b → C.bad b := fun b hb => by
        have hb2 : ((C.hide Hs).re g Hin).bad b := hb
        rcases hb2 with hb2 | hb2
        · refine .inl ?_
          rcases hb2 with ⟨n, es', q1, q2, q3⟩ | ⟨r, q⟩ | q
          · obtain ⟨⟨s, e⟩, q4, q5⟩ := Option.map_eq_some_iff.1 (show (lk Hin.objs n).map (·.2) = some es' from q1)
            rcases (h.held.spec q4).1 with ⟨old, es, w1, w2, _⟩ | ⟨w, _⟩
            · have hpl : ((C.hide Hs).re g Hin).pl n = C.pl old := by simp [Ctx.re, Ctx.hide, w1]
              rw [hpl] at q2 q3
              refine .inl ⟨old, es, ?_, q2, q3⟩
              have := hp.objs old _ w2
              simp [Heap.get, this]
            · have hno : lk g n = none := by
                have := List.all_eq_true.1 h.nwf n w
                simp at this; exact this.1
              have hpl : ((C.hide Hs).re g Hin).pl n = ⟨0, 0, 0, 0, true⟩ := by simp [Ctx.re, hno]
              rw [hpl] at q2; cases q2
          · exact .inr (.inl ⟨r, hp.lps b r (by rw [← h.inlps]; exact q)⟩)
          · simp [Ctx.re, Ctx.hide] at q
        · rcases hb2 with hb2 | hb2
          · exact .inr hb2
          · exact .inl hb2.1
      have hids : ∀ id, id < p → ∀ es', Hin.get id = some es' → ∃ es, C.H.get id = some es ∧ (C.sub Hs Hin g p).pl id = C.pl id := fun id hid es' hes => by
        obtain ⟨⟨s, e⟩, q4, q5⟩ := Option.map_eq_some_iff.1 (show (lk Hin.objs id).map (·.2) = some es' from hes)
        have hgi : lk g id = some id := by
          have := List.all_eq_true.1 hg id (List.mem_range.2 hid)
          simpa using this
        rcases (h.held.spec q4).1 with ⟨old, es, w1, w2, _⟩ | ⟨w, _⟩
        · rw [hgi] at w1; cases w1
          have := hp.objs id _ w2
          exact ⟨es, by simp [Heap.get, this], by simp [Ctx.sub, Ctx.re, Ctx.hide, hgi]⟩
        · have := List.all_eq_true.1 hnp id (List.mem_range.2 hid)
          simp at this; exact absurd w this
      induction hr with
      | any v => exact .any v
      | imm v hv => exact .imm v hv
      | slNil a cap => exact .slNil a cap
      | sl es b off sz cap c hlt hn hc hf hcell _ ih =>
        cases hu with
        | sl _ hu => exact .sl es b off sz cap c hlt (fun h => hn (hbad b h)) hc hf hcell (fun i j e x he hx => ih i j e x he hx (hu e (List.mem_of_getElem? he) x (List.mem_of_getElem? hx)))
      | clipNil a => exact .clipNil a
      | clip es b off sz c hlt hn hf hcell _ ih =>
        cases hu with
        | clip _ hu => exact .clip es b off sz c hlt (fun h => hn (hbad b h)) hf hcell (fun i j e x he hx => ih i j e x he hx (hu e (List.mem_of_getElem? he) x (List.mem_of_getElem? hx)))
      | view id off len v hid hs h1 =>
        cases hu with
        | view _ _ _ hu =>
        refine .view id off len v (Nat.lt_of_lt_of_le hu hle) (fun es he => ?_) h1
        obtain ⟨es0, q1, q2⟩ := hids id hu es he
        rw [q2]; exact hs es0 q1
      | ref id i j v hid hs h1 =>
        cases hu with
        | ref _ _ _ hu =>
        refine .ref id i j v (Nat.lt_of_lt_of_le hu hle) (fun es he => ?_) h1
        obtain ⟨es0, q1, q2⟩ := hids id hu es he
        rw [q2]; exact hs es0 q1
      | mref id v hid hs h1 =>
        cases hu with
        | mref _ hu =>
        refine .mref id v (Nat.lt_of_lt_of_le hu hle) (fun es he => ?_) h1
        obtain ⟨es0, q1, q2⟩ := hids id hu es he
        rw [q2]; exact hs es0 q1
      | pp fl j b off c hlt hn hcell _ ih =>
        cases hu with
        | pp _ _ hu => exact .pp fl j b off c hlt (fun h => hn (hbad b h)) hcell (fun k x hx => ih k x hx (hu x (List.mem_of_getElem? hx)))
      | agg cs vs hs h1 _ ih => cases hu with | agg _ hu => exact .agg cs vs hs h1 (fun k x hx => ih k x hx (hu x (List.mem_of_getElem? hx)))
      | tuple cs vs hs _ ih => cases hu with | tuple _ hu => exact .tuple cs vs hs (fun k x hx => ih k x hx (hu x (List.mem_of_getElem? hx)))
      | ifc t x v _ ih => cases hu with | ifc _ _ hu => exact .ifc t x v (ih hu)
      | clo fn caps vs hs _ ih => cases hu with | clo _ _ hu => exact .clo fn caps vs hs (fun k x hx => ih k x hx (hu x (List.mem_of_getElem? hx)))
    exact key x _ hu hr
  refine ⟨fun _ _ => trivial, ?_⟩
  show o.uponIn Fence.wide 0 P a K Q ((execOp a.eval o).run P C.w)
  rw [hrun]
  refine ⟨fun hd => by simp [Fence.wide] at hd, ?_⟩
  refine (hround (C.sub Hs Hin g p) (args.map a.eval) h2 rfl (by rw [hl]; exact hr0.1) (fun k x hx => rep_pin (rel_args h1 k x hx)) hfrl).mono ?_
  rintro e w' ⟨C2, rfl, rfl, hM, hI2, hH2⟩
  obtain ⟨q1, q2, q3⟩ := h.outof (W0 := .it W p rec frl) (B1 := .rd W p l) hI hH rfl hM hI2 hH2 (hI2.rod l rfl)
  exact hK _ (C.back C2 H') q1 q2 rfl (q3 _ (.imm _ rfl))


def Ctx.lay (C : Ctx) (r : Loop) : Ctx :=
  { C with w := (C.w.alloc (.deferred (some []))).alloc (.loop r), H := { C.H with lps := [(C.w.heap.size + 1, r)] }, dfs := C.w.heap.size :: C.dfs }

theorem lay_rules (hI : Inv W0 C) (r : Loop) (hl : C.H.lps = []) (hro : W0.ro = none) : Mem C (C.lay r) ∧ Inv W0 (C.lay r) ∧ ∀ x v, Rep C x v → Rep (C.lay r) x v := by
  have hB : RowKit.Below C.w.heap.size C.w (C.lay r).w := ((RowKit.Below.refl _ _).alloc (Nat.le_refl _) _).alloc (by simp) _
  have e1 : Ext C (C.inW (C.lay r).w) := ext_of_block hB
  have i1 := hI.inW hB
  have hs : (C.lay r).w.heap.size = C.w.heap.size + 2 := by show ((C.w.alloc _).alloc _).heap.size = _; rw [alloc_size, alloc_size]
  have h0 : (C.lay r).w.heap[C.w.heap.size]? = some (.deferred (some [])) := by
    show ((C.w.alloc (.deferred (some []))).heap.push _)[C.w.heap.size]? = _
    rw [Array.getElem?_push_lt (by rw [alloc_size]; exact Nat.lt_succ_self _)]
    exact (Array.getElem?_eq_getElem _).symm.trans (alloc_heap C.w _)
  have h1 : (C.lay r).w.heap[C.w.heap.size + 1]? = some (.loop r) := by
    have := alloc_heap (C.w.alloc (.deferred (some []))) (.loop r)
    rw [alloc_size] at this
    exact this
  have hsp : ∀ b, (C.lay r).sp b → C.sp b ∨ C.w.heap.size ≤ b := by
    rintro b (⟨r', h⟩ | h)
    · simp only [Ctx.lay, lk] at h
      split at h
      · rename_i hb; right; omega
      · cases h
    · rcases List.mem_cons.1 h with h | h
      · right; omega
      · exact .inl (.inr h)
  have hown : ∀ b, (C.lay r).own b → C.own b ∨ C.w.heap.size ≤ b := by
    rintro b (h | h)
    · exact .inl (.inl h)
    · exact (hsp b h).imp .inr id
  have hbadl : ∀ b, b < C.w.heap.size → (C.lay r).bad b → C.bad b := fun b hb h => by
    rcases h with h | h
    · rcases hown b h with h | h
      · exact .inl h
      · omega
    · exact .inr h
  have hM : Mem C (C.lay r) := ⟨⟨rfl, rfl, rfl, by rw [hs]; omega, fun k hk => absurd hk (Nat.not_lt_zero k)⟩, fun b hb hn => hB.block b hb, fun b hb h => by
    rcases hown b h with h | h
    · exact h
    · omega, rfl, rfl, fun hp => ⟨hp, fun k es' _ hg => ⟨⟨es', hg⟩, rfl⟩⟩⟩
  have hholds : ∀ {b i : Nat} {v : Value}, b < C.w.heap.size → Holds C.w b i v → Holds (C.lay r).w b i v := fun {b i v} hb h => by
    refine ⟨?_, h.2⟩
    rw [World.cell?_of_block (w := C.w) (a := ⟨b, i, none⟩) (hB.block b hb)]
    exact h.1
  have hrep : ∀ x v, Rep C x v → Rep (C.lay r) x v := by
    intro x v h
    induction h with
    | any v => exact .any v
    | imm v hv => exact .imm v hv
    | slNil a cap => exact .slNil a cap
    | sl es b off sz cap c hlt hbd hc hf hcell _ ih => exact .sl es b off sz cap c (by rw [hs]; omega) (fun h => hbd (hbadl b hlt h)) hc hf (fun i j e x he hx => hholds hlt (hcell i j e x he hx)) ih
    | clipNil a => exact .clipNil a
    | clip es b off sz c hlt hbd hf hcell _ ih => exact .clip es b off sz c (by rw [hs]; omega) (fun h => hbd (hbadl b hlt h)) hf (fun i j e x he hx => hholds hlt (hcell i j e x he hx)) ih
    | view id off len v hid hs' h1 => exact .view id off len v hid hs' h1
    | ref id i j v hid hs' h1 => exact .ref id i j v hid hs' h1
    | mref id v hid hs' h1 => exact .mref id v hid hs' h1
    | pp fl j b off c hlt hbd hcell _ ih => exact .pp fl j b off c (by rw [hs]; omega) (fun h => hbd (hbadl b hlt h)) (fun k x hx => hholds hlt (hcell k x hx)) ih
    | agg cs vs hs' h1 _ ih => exact .agg cs vs hs' h1 ih
    | tuple cs vs hs' _ ih => exact .tuple cs vs hs' ih
    | ifc t x v _ ih => exact .ifc t x v ih
    | clo fn caps vs hs' _ ih => exact .clo fn caps vs hs' ih
  refine ⟨hM, ?_, hrep⟩
  exact {
    fresh := hI.fresh
    nil := hI.nil
    obj := fun id es h hn => by
      have hO := hI.obj id es h hn
      have hlt := hI.lt h hn
      have hc : ∀ o, (C.lay r).w.cell? ⟨(C.pl id).blk, o, none⟩ = C.w.cell? ⟨(C.pl id).blk, o, none⟩ := fun o => World.cell?_of_block (w := C.w) (a := ⟨_, o, none⟩) (hB.block _ hlt)
      exact ⟨hO.n, hO.cap, (by have e : (C.lay r).w.heap[((C.lay r).pl id).blk]? = C.w.heap[(C.pl id).blk]? := hB.block _ hlt; rw [e]; exact hO.blk), fun o v hv => hO.one o v (by rw [← hc o]; exact hv), hO.flat, fun i j e x v h1 h2 h3 => hrep _ _ (hO.cell i j e x v h1 h2 (by rw [← hc]; exact h3))⟩
    sep := hI.sep
    prot := hI.prot
    szok := hI.szok
    protlt := fun b h => Nat.lt_of_lt_of_le (hI.protlt b h) hB.size
    protge := hI.protge
    size := Nat.le_trans hI.size hB.size
    glob := fun b h => ⟨by rw [← (hI.glob b h).1]; exact hB.block b (Nat.lt_of_lt_of_le h hI.size), fun ho => by
      rcases hown b ho with h' | h'
      · exact (hI.glob b h).2 h'
      · have := hI.size; omega⟩
    lps := fun l r' h => by
      simp only [Ctx.lay, lk] at h
      split at h
      · rename_i hb; cases h; rw [← hb]; exact h1
      · cases h
    dfs := fun d h => by
      rcases List.mem_cons.1 h with h | h
      · rw [h]; exact h0
      · have h2 := hI.dfs d h
        rw [← h2]; exact hB.block d (Array.getElem?_eq_some_iff.1 h2).1
    dnd := List.nodup_cons.2 ⟨fun h => by
      have h2 := hI.dfs _ h
      have := (Array.getElem?_eq_some_iff.1 h2).1
      omega, hI.dnd⟩
    rod := fun l h => by rw [hro] at h; cases h
    spprot := fun b h hp => by
      rcases hsp b h with h | h
      · exact hI.spprot b h hp
      · have := hI.protlt b hp; omega
    pinB := hI.pinB
    pinlt := hI.pinlt
    gh := W0.st C _ hM hI.pinlt hI.gh }

theorem awp_range {ok : AV → Prop} {Q : Exit → St → Prop} {g0 : Operand} {ps : Array Tmp} {as1 bd j : Code} {frl fr : List (Nat × AV)} {H : Heap} {fi : FuncId} {fn : Func} {caps xs : List AV} {k p : Nat} {r : AV} {b : Bool} {Hs Hin Hout H' : Heap} {g m : List (Nat × Nat)} {nw : List Nat}
    (hro : W0.ro = none) (hcode : (fn.body.bind fun c => (rangesOf c)[k]?) = some (ps, as1, bd)) (hg : evalA (lk fr) g0 = some (.clo (.func fi) caps)) (hc : Callable P fi) (hHl : H.lps = []) (hul : ∀ t x, lk frl t = some x → Under p x)
    (hseen : Seen { Hs with lps := [] } g nw fr frl)
    (hit : ∀ (l : Nat) (rec : Loop), RecAt rec fn k N → Fun3 P (.it W0.w p rec frl) fi (.clo (.yield l) [] :: xs) { Hin with lps := [(l, rec)] } r { Hout with lps := [(l, lpst rec j b)] })
    (hpass : ∀ (l : Nat) (rec : Loop), Pass ok (argsFr 0 (.clo (.yield l) [] :: caps)) (argsFr 0 (.clo (.yield l) [] :: xs)) { H with lps := [(l, rec)] } { Hs with lps := [(l, rec)] } { Hin with lps := [(l, rec)] } { Hout with lps := [(l, lpst rec j b)] } { H' with lps := [(l, lpst rec j b)] } g m nw p r .any)
    (hl : xs.length = caps.length) (hnext : b = true → Q .normal ⟨fr, { H' with lps := [] }⟩) (hjump : b = false → AWP P W0 N j ⟨fr, { H' with lps := [] }⟩ Q) :
    AWP P W0 N (.rangeFunc g0 ps as1 bd) ⟨fr, H⟩ Q := fun C a hr => by
  rw [hro, fw_none]
  refine wpIn_rangeFunc fun fnid _ => ?_
  -- the record
  let rc : Loop := { state := .ready, pending := none, fn := fnid, tmps := a.tmps, params := ps, assign := as1, body := bd, defers := C.w.heap.size }
  have hrec : RecAt rc fn k N := ⟨rfl, rfl, hcode, hr.size⟩
  obtain ⟨m1, i1, r1⟩ := lay_rules hr.inv rc (by rw [hr.heap]; exact hHl) hro
  have hgv := rep_eval (C := C) (a := a) (fun q _ av hav => hr.rep q av hav) hg
  obtain ⟨vs, hvs, hsz, hcap⟩ : ∃ vs : Array Value, a.eval g0 = .func (.func fi) #[] vs ∧ vs.size = caps.length ∧ ∀ (k : Nat) (x : AV), caps[k]? = some x → Rep C x (vs.getD k undef) := by
    generalize a.eval g0 = u at hgv
    match hgv with
    | .clo _ _ vs h1 h2 => exact ⟨vs, rfl, h1, h2⟩
  refine ⟨C.w.heap.size + 1, [{ target := .collected C.w.heap.size, args := #[] }], (C.lay rc).w, { target := .fn (.func fi) vs, args := #[.func (.yield (C.w.heap.size + 1)) #[] #[]] }, (C.lay rc).w, fi, #[.func (.yield (C.w.heap.size + 1)) #[] #[]] ++ vs, (C.lay rc).w, run_enterLoop_outer fnid a.tmps ps as1 bd, ?_, fun _ _ => trivial, ?_, fun h => by simp [Fence.wide] at h, ?_⟩
  · show (resolve a.eval (rangeCall g0 (C.w.heap.size + 1)) 0).run P (C.lay rc).w = .ok { target := .fn (.func fi) vs, args := #[.func (.yield (C.w.heap.size + 1)) #[] #[]] } (C.lay rc).w
    have e1 : (#[Operand.const (.func (.yield (C.w.heap.size + 1)) #[] #[])].map a.eval) = #[.func (.yield (C.w.heap.size + 1)) #[] #[]] := by simp [Act.eval]
    simp only [resolve, rangeCall, hvs, Deferred.ofValue, e1]
    rfl
  · show (invoke (.fn (.func fi) vs) #[.func (.yield (C.w.heap.size + 1)) #[] #[]]).run P (C.lay rc).w = _
    simpa [invoke] using hc (#[.func (.yield (C.w.heap.size + 1)) #[] #[]] ++ vs) (C.lay rc).w
  · refine callsIn_wide.2 ?_
    have hHL : (C.lay rc).H = { H with lps := [(C.w.heap.size + 1, rc)] } := by simp only [Ctx.lay, hr.heap]
    have hrep : ∀ t x, lk (argsFr 0 (.clo (.yield (C.w.heap.size + 1)) [] :: caps)) t = some x → Rep (C.lay rc) x ((#[Value.func (.yield (C.w.heap.size + 1)) #[] #[]] ++ vs).getD t undef) := fun t x hx => by
      obtain ⟨_, h2⟩ := lk_argsFr _ 0 t x hx
      rw [Nat.sub_zero] at h2
      cases t with
      | zero =>
        simp at h2; subst h2
        have : (#[Value.func (.yield (C.w.heap.size + 1)) #[] #[]] ++ vs).getD 0 undef = .func (.yield (C.w.heap.size + 1)) #[] #[] := by
          rw [Array.getD_eq_getD_getElem?, Array.getElem?_append_left (by simp)]; rfl
        rw [this]
        exact .clo _ [] #[] rfl (fun k x h => by simp at h)
      | succ t =>
        simp at h2
        have hlt : t < vs.size := by rw [hsz]; exact (List.getElem?_eq_some_iff.1 h2).1
        have : (#[Value.func (.yield (C.w.heap.size + 1)) #[] #[]] ++ vs).getD (t + 1) undef = vs.getD t undef := by
          simp only [Array.getD_eq_getD_getElem?]
          rw [Array.getElem?_append_right (by simp)]
          simp
        rw [this]
        exact r1 _ _ (hcap t x h2)
    have hps := hpass (C.w.heap.size + 1) rc
    have hpart := hps.isPart
    rw [← hHL] at hpart
    have hG : (Base.it W0.w p rc frl).G ((C.lay rc).sub { Hs with lps := [(C.w.heap.size + 1, rc)] } { Hin with lps := [(C.w.heap.size + 1, rc)] } g p) := by
      refine ⟨rfl, fun t x hx => ⟨hul t x hx, ?_⟩⟩
      have hr0 : Rel (.of W0.w) N (lk fr) { Hs with lps := [(C.w.heap.size + 1, rc)] } ((C.lay rc).hide { Hs with lps := [(C.w.heap.size + 1, rc)] }) { tmps := a.tmps, defers := [] } :=
        ⟨rfl, i1.hide hpart, hr.size, rfl, fun t x hx => (r1 _ _ (hr.rep t x hx)).hide hpart⟩
      have hs2 : Seen { Hs with lps := [(C.w.heap.size + 1, rc)] } g nw fr frl := seen_lps hseen
      exact rep_pin ((re_rel (st := ⟨fr, { Hs with lps := [(C.w.heap.size + 1, rc)] }⟩) g nw hps.inj hps.lt hps.nwf hps.held hs2 (by simp [pinOk]) rfl hr0).2.rep t x hx)
    refine (call3 (W0 := W0) (C := C.lay rc) (hit (C.w.heap.size + 1) rc hrec) rfl rfl hps (by simp [hl]) i1 hHL (by simp [hsz]; omega) hrep hG).mono ?_
    rintro e w' ⟨v, C2, rfl, rfl, hE, hI2, hH2, _⟩
    have hl2 : C2.w.heap[C.w.heap.size + 1]? = some (.loop (lpst rc j b)) := hI2.lps _ _ (by rw [hH2]; simp [lk])
    have hbusy : (lpst rc j b).state ≠ .busy := by cases b <;> simp [lpst, rc]
    -- the record is of no more use
    let C3 : Ctx := { C2 with w := C2.w.putObj (C.w.heap.size + 1) (.loop { lpst rc j b with state := .exhausted }), H := { C2.H with lps := [] } }
    have hlt2 : C.w.heap.size + 1 < C2.w.heap.size := (Array.getElem?_eq_some_iff.1 hl2).1
    obtain ⟨m3, i3, r3⟩ := poke (C' := C3) hI2 (b := C.w.heap.size + 1) (.inl ⟨_, by rw [hH2]; simp [lk]; rfl⟩) (ob := .loop { lpst rc j b with state := .exhausted }) rfl rfl rfl rfl rfl rfl (fun b h => by
        rcases h with ⟨r', h⟩ | h
        · simp [C3, lk] at h
        · exact .inr h) (fun l r' h => by simp [C3, lk] at h) (fun d h => by
        have h1 := hI2.dfs d h
        rw [← h1]
        refine World.putObj_heap_other (fun hd => ?_)
        rw [hd, hl2] at h1; cases h1) hI2.dnd hI2.rod
    have hrel3 : Rel W0 N (lk fr) { H' with lps := [] } C3 { a with defers := [{ target := .collected C.w.heap.size, args := #[] }] ++ a.defers } := by
      refine ⟨by simp only [C3, hH2], i3, hr.size, ?_, fun t x hx => r3 _ _ ((r1 _ _ (hr.rep t x hx)).ext hE)⟩
      show _ = C2.dfs.map _ ++ _
      rw [hE.dfs]
      show _ = (C.w.heap.size :: C.dfs).map _ ++ _
      rw [hr.defers]; rfl
    have hMM : Mem C C3 := m1.trans (hE.mem.trans m3)
    refine ⟨(lpst rc j b).pending, C3.w, run_endLoop hl2 hbusy, ?_⟩
    cases b with
    | true => exact ⟨⟨fr, { H' with lps := [] }⟩, C3, rfl, hMM, hrel3, hnext rfl⟩
    | false =>
      have := (hjump rfl).at hMM hrel3
      rw [hro, fw_none] at this
      exact this

end

def UnderL (p : Nat) : List (Nat × AV) → Prop
  | [] => True
  | (_, x) :: r => Under p x ∧ UnderL p r
theorem UnderL.spec {p : Nat} : ∀ {l : List (Nat × AV)}, UnderL p l → ∀ t x, lk l t = some x → Under p x
  | [], _, _, _, h => by cases h
  | (q, u) :: l, hl, t, x, h => by
    simp only [lk] at h
    split at h
    · rename_i hq; subst hq; cases h; exact hl.1
    · exact UnderL.spec hl.2 t x h
theorem Under.noid {p : Nat} {x : AV} (h : NoId x) : Under p x := by
  have fl : ∀ (e x : AV), x ∈ e.flat → NoId e → (∀ y ∈ e.flat, NoId y) := fun e x _ hn y hy => by
    cases e <;> simp only [AV.flat, List.mem_singleton] at hy
    case agg cs => simp only [noId_agg] at hn; exact hn y hy
    case mapd => simp at hy
    all_goals (rw [hy]; exact hn)
  have key : ∀ x : AV, NoId x → Under p x ∧ ∀ y ∈ x.flat, Under p y := by
    intro x h
    induction h with
    | any => exact ⟨.any, fun y hy => by simp only [AV.flat, List.mem_singleton] at hy; rw [hy]; exact .any⟩
    | imm v => exact ⟨.imm v, fun y hy => by simp only [AV.flat, List.mem_singleton] at hy; rw [hy]; exact .imm v⟩
    | mapd l => exact ⟨.mapd l, fun y hy => by simp [AV.flat] at hy⟩
    | sl es _ ih =>
      have : Under p (.sl es) := .sl es (fun e he x hx => (ih e he).2 x hx)
      exact ⟨this, fun y hy => by simp only [AV.flat, List.mem_singleton] at hy; rw [hy]; exact this⟩
    | clip es _ ih =>
      have : Under p (.clip es) := .clip es (fun e he x hx => (ih e he).2 x hx)
      exact ⟨this, fun y hy => by simp only [AV.flat, List.mem_singleton] at hy; rw [hy]; exact this⟩
    | pp fl j _ ih =>
      have : Under p (.pp fl j) := .pp fl j (fun e he => (ih e he).1)
      exact ⟨this, fun y hy => by simp only [AV.flat, List.mem_singleton] at hy; rw [hy]; exact this⟩
    | agg cs _ ih => exact ⟨.agg cs (fun e he => (ih e he).1), fun y hy => by simp only [AV.flat] at hy; exact (ih y hy).1⟩
    | tuple cs _ ih =>
      have : Under p (.tuple cs) := .tuple cs (fun e he => (ih e he).1)
      exact ⟨this, fun y hy => by simp only [AV.flat, List.mem_singleton] at hy; rw [hy]; exact this⟩
    | ifc t x _ ih =>
      have : Under p (.ifc t x) := .ifc t x ih.1
      exact ⟨this, fun y hy => by simp only [AV.flat, List.mem_singleton] at hy; rw [hy]; exact this⟩
    | clo fn cs _ ih =>
      have : Under p (.clo fn cs) := .clo fn cs (fun e he => (ih e he).1)
      exact ⟨this, fun y hy => by simp only [AV.flat, List.mem_singleton] at hy; rw [hy]; exact this⟩
  exact (key x h).1
end Go.Av
end

section
/- Function values, methods behind interfaces, and loops gone through one by one. -/
namespace Go.Av

section
variable {P : Program} {W0 : Base} {C : Ctx} {fr : Fr} {a : Act} {H : Heap} {o : Oper} {N : Nat}

theorem Enters.clo {f : FuncId} {x : Operand} {args : Array Operand} {tys : Array TypeId} {ys caps : List AV} (ho : o.op = .call { callee := .value x, args := args, argTypes := tys }) (hx : evalA fr x = some (.clo (.func f) caps)) (hys : args.toList.mapM (evalA fr) = some ys) (hc : Callable P f) : Enters P o fr f (ys ++ caps) := fun C a hop => by
  have hopy : ∀ y ∈ args.toList, RepO C fr a y := fun y hy => hop y (by rw [ho]; simp [Op.operands, Call.operands]; exact .inr (by simpa using hy))
  obtain ⟨h1, h2⟩ := args_rep hopy hys
  have hv := rep_eval (hop x (by rw [ho]; simp [Op.operands, Call.operands])) hx
  obtain ⟨vs, hvs, hsz, hcap⟩ : ∃ vs : Array Value, a.eval x = .func (.func f) #[] vs ∧ vs.size = caps.length ∧ ∀ (k : Nat) (x : AV), caps[k]? = some x → Rep C x (vs.getD k undef) := by
    generalize a.eval x = u at hv
    match hv with
    | .clo _ _ vs h1 h2 => exact ⟨vs, rfl, h1, h2⟩
  refine ⟨args.map a.eval ++ vs, fun w => ?_, by simp [hsz] at h1 ⊢; omega, fun t z hz => ?_⟩
  · have := hc (args.map a.eval ++ vs) w
    simp only [execOp, ho, resolve, hvs, Deferred.ofValue]
    simpa [invoke] using this
  · obtain ⟨_, h3⟩ := lk_argsFr (ys ++ caps) 0 t z hz
    rw [Nat.sub_zero] at h3
    by_cases ht : t < ys.length
    · rw [List.getElem?_append_left ht] at h3
      have : (args.map a.eval ++ vs).getD t undef = (args.map a.eval).getD t undef := by
        rw [Array.getD_eq_getD_getElem?, Array.getElem?_append_left (by omega), ← Array.getD_eq_getD_getElem?]
      rw [this]
      refine h2 t z ?_
      have key : ∀ (xs : List AV) (q k : Nat) (x : AV), xs[k]? = some x → lk (argsFr q xs) (q + k) = some x := by
        intro xs
        induction xs with
        | nil => intro q k x h; simp at h
        | cons y ys ih =>
          intro q k x hk
          cases k with
          | zero => simp at hk; subst hk; simp [argsFr, lk]
          | succ k =>
            simp at hk
            simp only [argsFr, lk]
            rw [if_neg (by omega)]
            have := ih (q + 1) k x hk
            rwa [show q + 1 + k = q + (k + 1) by omega] at this
      have := key ys 0 t z h3
      rwa [Nat.zero_add] at this
    · rw [List.getElem?_append_right (by omega)] at h3
      have : (args.map a.eval ++ vs).getD t undef = vs.getD (t - ys.length) undef := by
        rw [Array.getD_eq_getD_getElem?, Array.getElem?_append_right (by omega), h1, ← Array.getD_eq_getD_getElem?]
      rw [this]
      exact hcap _ z h3

theorem Enters.iface {f : FuncId} {x : Operand} {name : String} {t : TypeId} {args : Array Operand} {tys : Array TypeId} {z : AV} {ys : List AV} (ho : o.op = .call { callee := .invoke x name, args := args, argTypes := tys }) (hx : evalA fr x = some (.ifc t z)) (hys : args.toList.mapM (evalA fr) = some ys)
    (hm : ∀ v w, (method (P.types.size + Made.depth) t v name).run P w = .ok (f, v) w) (hc : Callable P f) : Enters P o fr f (z :: ys) := fun C a hop => by
  have hopy : ∀ y ∈ args.toList, RepO C fr a y := fun y hy => hop y (by rw [ho]; simp [Op.operands, Call.operands]; exact .inr (by simpa using hy))
  obtain ⟨h1, h2⟩ := args_rep hopy hys
  have hv := rep_eval (hop x (by rw [ho]; simp [Op.operands, Call.operands])) hx
  obtain ⟨v, hvs, hrep⟩ : ∃ v : Value, a.eval x = .iface t v ∧ Rep C z v := by
    generalize a.eval x = u at hv
    match hv with
    | .ifc _ _ v h1 => exact ⟨v, rfl, h1⟩
  refine ⟨#[v] ++ args.map a.eval, fun w => ?_, by simpa [Nat.add_comm] using h1, fun k y hk => ?_⟩
  · have h3 := hc (#[v] ++ args.map a.eval) w
    have h4 := hm v w
    have e1 : (#[Value.iface t v] ++ args.map a.eval)[0]? = some (.iface t v) := by rw [Array.getElem?_append_left (by simp)]; rfl
    have e3 : (args.map a.eval).extract 0 args.size = args.map a.eval := by
      have h5 : args.size = (args.map a.eval).size := by simp
      rw [h5, Array.extract_size]
    have e4 : (#[Value.iface t v] ++ args.map a.eval).extract 1 (#[Value.iface t v] ++ args.map a.eval).size = args.map a.eval := by
      simp [e3]
    have h5 : (invoke (.fn (.method name) #[]) (#[.iface t v] ++ args.map a.eval)).run P w = .ok (.enter f (#[v] ++ args.map a.eval)) w := by
      simp only [invoke, e1, callMethod]
      rw [e4, Sem.run_bind]
      show (Result.andThen (.ok P w) _) = _
      simp only [Result.andThen_ok]
      rw [Sem.run_bind, h4]
      exact h3
    simp only [execOp, ho, resolve, hvs]
    rw [Sem.run_bind]
    exact h5
  · obtain ⟨_, h3⟩ := lk_argsFr (z :: ys) 0 k y hk
    rw [Nat.sub_zero] at h3
    cases k with
    | zero =>
      simp at h3; subst h3
      have : (#[v] ++ args.map a.eval).getD 0 undef = v := by
        rw [Array.getD_eq_getD_getElem?, Array.getElem?_append_left (by simp)]; rfl
      rw [this]; exact hrep
    | succ k =>
      simp at h3
      have : (#[v] ++ args.map a.eval).getD (k + 1) undef = (args.map a.eval).getD k undef := by
        rw [Array.getD_eq_getD_getElem?, Array.getElem?_append_right (by simp), ← Array.getD_eq_getD_getElem?]; simp
      rw [this]
      refine h2 k y ?_
      have key : ∀ (xs : List AV) (q k : Nat) (x : AV), xs[k]? = some x → lk (argsFr q xs) (q + k) = some x := by
        intro xs
        induction xs with
        | nil => intro q k x h; simp at h
        | cons y ys ih =>
          intro q k x hk
          cases k with
          | zero => simp at hk; subst hk; simp [argsFr, lk]
          | succ k =>
            simp at hk
            simp only [argsFr, lk]
            rw [if_neg (by omega)]
            have := ih (q + 1) k x hk
            rwa [show q + 1 + k = q + (k + 1) by omega] at this
      have := key ys 0 k y h3
      rwa [Nat.zero_add] at this

theorem aop_call3E {ok : AV → Prop} {f : FuncId} {ys xs : List AV} {r r' : AV} {Hs Hin Hout H' : Heap} {g m : List (Nat × Nat)} {nw : List Nat} {p : Nat} (he : Enters P o fr f ys)
    (hf : Fun3 P (.pinned W0.w p) f xs Hin r Hout) (h : Pass ok (argsFr 0 ys) (argsFr 0 xs) H Hs Hin Hout H' g m nw p r r') (hl : xs.length = ys.length) : AOp P W0 o fr H r' H' := by
  intro C a hI hH hop K Q hK
  obtain ⟨vals, hrun, h1, h2⟩ := he C a hop
  unfold Oper.wp
  rw [hrun, Oper.upon_enter]
  refine (call3 (W0 := W0) hf rfl rfl h hl hI hH h1 h2 trivial).mono ?_
  rintro e w' ⟨v, C', rfl, rfl, h1, h2, h3, h4⟩
  exact hK v C' h1 h2 h3 h4


def Unr (P : Program) (W0 : Base) (N : Nat) (c : Code) (Q : Exit → St → Prop) : Nat → St → Prop
  | 0, _ => False
  | n + 1, s => AWP P W0 N c s (Then (Unr P W0 N c Q n) Q)

theorem awp_unr {c : Code} {st : St} {Q : Exit → St → Prop} (n : Nat) (h : Unr P W0 N c Q n st) : AWP P W0 N (.loop c) st Q := by
  classical
  refine awp_loop (fun s => ∃ m, Unr P W0 N c Q m s) (fun s => if h : ∃ m, Unr P W0 N c Q m s then Classical.choose (exists_least _ h) else 0) ⟨n, h⟩ ?_
  intro s hs
  have hm : (if h : ∃ m, Unr P W0 N c Q m s then Classical.choose (exists_least _ h) else 0) = Classical.choose (exists_least _ hs) := dif_pos hs
  rw [hm]
  have h1 := (Classical.choose_spec (exists_least _ hs)).1
  generalize Classical.choose (exists_least _ hs) = k at h1
  cases k with
  | zero => exact h1.elim
  | succ k =>
    refine AWP.mono h1 fun e s1 h2 => ?_
    cases e with
    | normal =>
      have h3 : ∃ m, Unr P W0 N c Q m s1 := ⟨k, h2⟩
      refine ⟨s1, Weak.refl _, h3, ?_⟩
      rw [dif_pos h3]
      exact Nat.lt_succ_of_le ((Classical.choose_spec (exists_least _ h3)).2 k h2)
    | _ => exact h2
end


section
variable {P : Program} {W0 : Base} {fr : Fr} {H : Heap} {o : Oper}
theorem aop_min2 {x y : Operand} {tys : Array TypeId} {a b : Int} (ho : o.op = .call { callee := .builtin .min, args := #[x, y], argTypes := tys }) (hx : evalA fr x = some (i64 a)) (hy : evalA fr y = some (i64 b)) : AOp P W0 o fr H (i64 (Sh.min a b)) H :=
  .of_pure fun C a' _ _ hop => by
    have e1 := rep_toV (v := .int .i64 a) rfl (rep_eval (hop x (by simp [ho, Op.operands, Call.operands])) hx)
    have e2 := rep_toV (v := .int .i64 b) rfl (rep_eval (hop y (by simp [ho, Op.operands, Call.operands])) hy)
    refine ⟨.int .i64 (Sh.min a b), ?_, .imm _ rfl⟩
    obtain ⟨cs, hb⟩ := run_builtin (P := P) ho a'
    rw [hb]
    have e : (#[x, y].map a'.eval) = #[.int .i64 a, .int .i64 b] := by simp [e1, e2]
    rw [e]
    simp [builtin, Builtin.min_, Builtin.min2, Sh.min]
theorem aop_max2 {x y : Operand} {tys : Array TypeId} {a b : Int} (ho : o.op = .call { callee := .builtin .max, args := #[x, y], argTypes := tys }) (hx : evalA fr x = some (i64 a)) (hy : evalA fr y = some (i64 b)) : AOp P W0 o fr H (i64 (Sh.max a b)) H :=
  .of_pure fun C a' _ _ hop => by
    have e1 := rep_toV (v := .int .i64 a) rfl (rep_eval (hop x (by simp [ho, Op.operands, Call.operands])) hx)
    have e2 := rep_toV (v := .int .i64 b) rfl (rep_eval (hop y (by simp [ho, Op.operands, Call.operands])) hy)
    refine ⟨.int .i64 (Sh.max a b), ?_, .imm _ rfl⟩
    obtain ⟨cs, hb⟩ := run_builtin (P := P) ho a'
    rw [hb]
    have e : (#[x, y].map a'.eval) = #[.int .i64 a, .int .i64 b] := by simp [e1, e2]
    rw [e]
    simp [builtin, Builtin.max_, Builtin.max2, Sh.max]
end
end Go.Av
namespace Go.Av
section
variable {H : Heap} {g : List (Nat × Nat)} {nw : List Nat}
theorem See.cl {fn : Fn} {cs cs' : List AV} (h : SeeAll H g nw cs cs') : See H g nw (.clo fn cs) (.clo fn cs') := .clo fn cs cs' h.spec.1 h.spec.2
theorem See.frzA {id i j : Nat} {es fl : List AV} {e : AV} (h1 : H.get id = some es) (h2 : g.all (fun p => p.2 != id) = true) (h3 : es[i]? = some e) (h4 : e.flat = fl) (h5 : ∀ x ∈ fl, NoId x) : See H g nw (.ref id i j) (.pp fl j) :=
  .frz h1 (fun p hp => by have := List.all_eq_true.1 h2 p hp; simpa using this) h3 h4 h5
end
end Go.Av
namespace Go.Av
theorem awp_unrS {P : Program} {W0 : Base} {N n : Nat} {c : Code} {Q : Exit → St → Prop} {s : St} (h : AWP P W0 N c s (Then (Unr P W0 N c Q n) Q)) : Then (Unr P W0 N c Q (n + 1)) Q .normal s := h
end Go.Av
namespace Go.Av
theorem See.sm {H : Heap} {g : List (Nat × Nat)} {nw : List Nat} {x : AV} (h : NoId x := by simp) : See H g nw x x := .same x h
theorem Shift.sm {ok : AV → Prop} {n : Nat} {x : AV} (h : ok x := by simp) : Shift ok n x x := .same x h
theorem Ren.sm {m : List (Nat × Nat)} {x : AV} (h : NoId x := by simp) : Ren NoId m x x := .same x h
end Go.Av
namespace Go.Av
theorem dt {p : Prop} [Decidable p] (h : decide p = true := by rfl) : p := of_decide_eq_true h
theorem Weak.e {W0 : Base} {N : Nat} {st : St} {fr' : List (Nat × AV)} {H' : Heap} (hfr : Seen st.H [] [] st.fr fr') (h0 : H'.objs = [] := by rfl) (hpo : pinOk W0.p [] [] H'.next = true := by rfl) (hlp : H'.lps = st.H.lps := by rfl) : Weak W0 N st ⟨fr', H'⟩ :=
  Weak.re [] [] rfl rfl rfl (by rw [h0]; trivial) hfr hpo hlp
end Go.Av
theorem Exists.k {H : Go.Av.Heap} {g : List (Nat × Nat)} {nw : List Nat} {fr : List (Nat × Go.Av.AV)} {t : Nat} {y : Go.Av.AV} (h : Go.Av.lk fr t = some y := by rfl) (hn : Go.Av.NoId y := by simp) : ∃ x, Go.Av.lk fr t = some x ∧ Go.Av.See H g nw x y := ⟨y, h, .same y hn⟩
end

section
/- What an operation makes, some of it given up at once. -/
namespace Go.Av
section
variable {P : Program} {W0 : Base} {fr : Fr} {H : Heap} {o : Oper}
theorem AOp.re {r r' : AV} {H1 H2 : Heap} (h : AOp P W0 o fr H r H1) (g : List (Nat × Nat)) (hs : See H1 g [] r r') (hH : Held H1 g [] H2.next H2.objs) (hid : g.all (fun p => p.1 == p.2) = true := by rfl) (hnext : H1.next ≤ H2.next := by exact Nat.le_refl _)
    (hinj : g.all (fun p => g.all (fun q => p.2 != q.2 || p.1 == q.1)) = true := by rfl) (hlt : g.all (fun p => decide (p.1 < H2.next)) = true := by rfl) (hpo : pinOk W0.p g [] H2.next = true := by rfl) (hlp : H2.lps = H1.lps := by rfl) : AOp P W0 o fr H r' H2 := by
  intro C a hI hCH hop K Q hK
  refine h C a hI hCH hop K Q (fun v C1 h1 h2 h3 h4 => ?_)
  have hr : Rel W0 1 (lk [(0, r)]) H1 C1 { a with tmps := #[v], defers := (C1.dfs.map fun d => { target := .collected d, args := #[] }) ++ W0.dx } := ⟨h3, h2, rfl, rfl, fun t x hx => by
    simp only [lk] at hx
    split at hx
    · rename_i ht; subst ht; cases hx; exact h4
    · cases hx⟩
  obtain ⟨hM, hR⟩ := re_rel (st := ⟨[(0, r)], H1⟩) (fr' := [(0, r')]) (H' := H2) g [] hinj hlt rfl hH ⟨⟨r, rfl, hs⟩, trivial⟩ hpo hlp hr
  refine hK v (C1.re g H2) (h1.trans ?_) hR.inv rfl (hR.rep 0 r' rfl)
  refine ⟨hM.below, hM.keep, hM.own, by rw [h3]; exact hnext, fun id es' hlt' hg => ?_, rfl, rfl, rfl⟩
  simp only [Ctx.re, Heap.get, Option.map_eq_some_iff] at hg
  obtain ⟨⟨s, e⟩, hq, rfl⟩ := hg
  obtain ⟨h5, _⟩ := hH.spec hq
  rcases h5 with ⟨old, es, q1, q2, _⟩ | ⟨q, _⟩
  · have := List.all_eq_true.1 hid _ (lk_mem q1)
    simp only [beq_iff_eq] at this
    subst this
    refine ⟨⟨es, ?_⟩, ?_⟩
    · rw [h3]; simp only [Heap.get, q2, Option.map_some]
    · show (match lk g id with | some old => C1.pl old | none => _) = _
      rw [q1]
  · cases q
end
end Go.Av
end

section
/- A family of objects, as many as a list is long: the rows of a slice of slices that is the proof's own. -/
namespace Go.Av
section
variable {α : Type}
def fam (enc : α → AV) (sz : Nat) : Nat → List (List α) → List (Nat × (Nat × List AV))
  | _, [] => []
  | M, l :: L => (M, (sz, l.map enc)) :: fam enc sz (M + 1) L
def famV (enc : α → AV) : Nat → List (List α) → List AV
  | _, [] => []
  | M, l :: L => .view M 0 (l.map enc).length :: famV enc (M + 1) L
@[simp] theorem famV_len (enc : α → AV) : ∀ (L : List (List α)) (M : Nat), (famV enc M L).length = L.length
  | [], _ => rfl
  | _ :: L, M => by simp [famV, famV_len enc L]
theorem famV_get (enc : α → AV) : ∀ (L : List (List α)) (M i : Nat), (famV enc M L)[i]? = L[i]?.map fun l => .view (M + i) 0 (l.map enc).length
  | [], _, i => by simp [famV]
  | l :: L, M, 0 => by simp [famV]
  | l :: L, M, i + 1 => by simp only [famV, List.getElem?_cons_succ, famV_get enc L]; rw [Nat.add_assoc, Nat.add_comm 1 i]
theorem lk_fam (enc : α → AV) (sz : Nat) : ∀ (L : List (List α)) (M k : Nat), lk (fam enc sz M L) k = if M ≤ k then L[k - M]?.map fun l => (sz, l.map enc) else none
  | [], M, k => by simp [fam, lk]
  | l :: L, M, k => by
    simp only [fam, lk]
    by_cases h : M = k
    · subst h; simp
    · rw [if_neg h, lk_fam enc sz L]
      by_cases h1 : M ≤ k
      · have h2 : M + 1 ≤ k := by omega
        rw [if_pos h1, if_pos h2]
        have : k - M = (k - (M + 1)) + 1 := by omega
        rw [this, List.getElem?_cons_succ]
      · rw [if_neg h1, if_neg (by omega)]
abbrev famH (F : List (Nat × (Nat × List AV))) (enc : α → AV) (sz M : Nat) (L : List (List α)) : Heap := ⟨M + L.length, F ++ fam enc sz M L, []⟩
theorem low_lt {F : List (Nat × (Nat × List AV))} {M : Nat} (hF : F.all (fun p => decide (p.1 < M)) = true) {k : Nat} {x : Nat × List AV} (h : lk F k = some x) : k < M := by simpa using List.all_eq_true.1 hF _ (lk_mem h)
theorem lk_famH {F : List (Nat × (Nat × List AV))} {enc : α → AV} {sz M : Nat} {L : List (List α)} (hF : F.all (fun p => decide (p.1 < M)) = true) {i : Nat} {l : List α} (h : L[i]? = some l) : lk (F ++ fam enc sz M L) (M + i) = some (sz, l.map enc) := by
  rw [lk_append]
  have h0 : lk F (M + i) = none := by
    cases hc : lk F (M + i) with
    | none => rfl
    | some v => have := low_lt hF hc; omega
  rw [h0, lk_fam, if_pos (Nat.le_add_right _ _), Nat.add_sub_cancel_left, h]; rfl
theorem lk_famL {F : List (Nat × (Nat × List AV))} {enc : α → AV} {sz M : Nat} {L : List (List α)} {k : Nat} (hk : k < M) : lk (F ++ fam enc sz M L) k = lk F k := by
  rw [lk_append, lk_fam, if_neg (by omega)]
  cases lk F k <;> rfl

def famG (gr : Nat → Option Nat) (M : Nat) : Nat → Nat → List (Nat × Nat)
  | _, 0 => []
  | i, n + 1 => match gr i with
    | some o => (M + i, o) :: famG gr M (i + 1) n
    | none => famG gr M (i + 1) n
def famN (gr : Nat → Option Nat) (M : Nat) : Nat → Nat → List Nat
  | _, 0 => []
  | i, n + 1 => match gr i with
    | some _ => famN gr M (i + 1) n
    | none => (M + i) :: famN gr M (i + 1) n
theorem mem_famG {gr : Nat → Option Nat} {M : Nat} : ∀ {n i : Nat} {p : Nat × Nat}, p ∈ famG gr M i n ↔ ∃ j o, i ≤ j ∧ j < i + n ∧ gr j = some o ∧ p = (M + j, o)
  | 0, i, p => by simp [famG]; intro j h1 h2; omega
  | n + 1, i, p => by
    unfold famG
    cases hg : gr i with
    | none =>
      simp only [mem_famG (n := n)]
      constructor
      · rintro ⟨j, o, h1, h2, h3⟩; exact ⟨j, o, by omega, by omega, h3⟩
      · rintro ⟨j, o, h1, h2, h3, h4⟩
        by_cases h : j = i
        · subst h; rw [hg] at h3; cases h3
        · exact ⟨j, o, by omega, by omega, h3, h4⟩
    | some o =>
      simp only [List.mem_cons, mem_famG (n := n)]
      constructor
      · rintro (h | ⟨j, o, h1, h2, h3⟩)
        · exact ⟨i, o, Nat.le_refl _, by omega, hg, h⟩
        · exact ⟨j, o, by omega, by omega, h3⟩
      · rintro ⟨j, o', h1, h2, h3, h4⟩
        by_cases h : j = i
        · subst h; rw [hg] at h3; cases h3; exact .inl h4
        · exact .inr ⟨j, o', by omega, by omega, h3, h4⟩
theorem mem_famN {gr : Nat → Option Nat} {M : Nat} : ∀ {n i k : Nat}, k ∈ famN gr M i n ↔ ∃ j, i ≤ j ∧ j < i + n ∧ gr j = none ∧ k = M + j
  | 0, i, p => by simp [famN]; intro j h1 h2; omega
  | n + 1, i, p => by
    unfold famN
    cases hg : gr i with
    | some o =>
      simp only [mem_famN (n := n)]
      constructor
      · rintro ⟨j, h1, h2, h3⟩; exact ⟨j, by omega, by omega, h3⟩
      · rintro ⟨j, h1, h2, h3, h4⟩
        by_cases h : j = i
        · subst h; rw [hg] at h3; cases h3
        · exact ⟨j, by omega, by omega, h3, h4⟩
    | none =>
      simp only [List.mem_cons, mem_famN (n := n)]
      constructor
      · rintro (h | ⟨j, h1, h2, h3⟩)
        · exact ⟨i, Nat.le_refl _, by omega, hg, h⟩
        · exact ⟨j, by omega, by omega, h3⟩
      · rintro ⟨j, h1, h2, h3, h4⟩
        by_cases h : j = i
        · subst h; exact .inl h4
        · exact .inr ⟨j, by omega, by omega, h3, h4⟩
theorem lk_famG {gr : Nat → Option Nat} {M : Nat} : ∀ {n i j : Nat}, i ≤ j → j < i + n → lk (famG gr M i n) (M + j) = gr j
  | 0, i, j, h1, h2 => by omega
  | n + 1, i, j, h1, h2 => by
    unfold famG
    by_cases h : j = i
    · subst h
      cases hg : gr j with
      | some o => simp [lk]
      | none =>
        cases hc : lk (famG gr M (j + 1) n) (M + j) with
        | none => rfl
        | some v =>
          obtain ⟨k, o, k1, _, _, k2⟩ := mem_famG.1 (lk_mem hc)
          simp only [Prod.mk.injEq] at k2
          omega
    · cases hg : gr i with
      | some o => simp only [lk]; rw [if_neg (by omega), lk_famG (n := n) (by omega) (by omega)]
      | none => simp only; rw [lk_famG (n := n) (by omega) (by omega)]
theorem Held.append {H : Heap} {g : List (Nat × Nat)} {nw : List Nat} {next : Nat} : ∀ {l m : List (Nat × (Nat × List AV))}, Held H g nw next l → Held H g nw next m → Held H g nw next (l ++ m)
  | [], _, _, h => h
  | _ :: _, _, h1, h2 => ⟨h1.1, h1.2.1, Held.append h1.2.2 h2⟩
theorem Held.rows {H : Heap} {g : List (Nat × Nat)} {nw : List Nat} {next sz : Nat} {enc : α → AV} (hno : ∀ x, NoId (enc x)) : ∀ (L : List (List α)) (M : Nat), (∀ i l, L[i]? = some l → (∃ o, lk g (M + i) = some o ∧ lk H.objs o = some (sz, l.map enc)) ∨ (M + i ∈ nw ∧ l = [])) → M + L.length ≤ next → Held H g nw next (fam enc sz M L)
  | [], M, _, _ => trivial
  | l :: L, M, h, hn => by
    simp only [List.length_cons] at hn
    refine ⟨?_, by omega, Held.rows hno L (M + 1) (fun i l' hi => ?_) (by omega)⟩
    · rcases h 0 l rfl with ⟨o, h1, h2⟩ | ⟨h1, h2⟩
      · rw [Nat.add_zero] at h1
        refine .inl ⟨_, _, h1, h2, .same fun e he => ?_⟩
        obtain ⟨x, _, rfl⟩ := List.mem_map.1 he; exact hno x
      · exact .inr ⟨h1, by rw [h2]; rfl⟩
    · have := h (i + 1) l' (by simpa using hi)
      rwa [show M + (i + 1) = M + 1 + i by omega] at this
theorem seeL_rows {H : Heap} {g0 : List (Nat × Nat)} {gr : Nat → Option Nat} {M : Nat} {enc : α → AV} {L : List (List α)} {es : List AV} (hg0 : g0.all (fun p => decide (p.1 < M)) = true) (hl : es.length = L.length)
    (h : ∀ i l, L[i]? = some l → (∃ o, gr i = some o ∧ es[i]? = some (.view o 0 (l.map enc).length)) ∨ (gr i = none ∧ es[i]? = some nilS ∧ l = [])) : SeeL H (g0 ++ famG gr M 0 L.length) (famN gr M 0 L.length) es (famV enc M L) :=
  ⟨by simp [hl], fun k e e' h1 h2 => by
    rw [famV_get] at h2
    simp only [Option.map_eq_some_iff] at h2
    obtain ⟨l, h2, rfl⟩ := h2
    have hk : k < L.length := (List.getElem?_eq_some_iff.1 h2).1
    have hlk : lk (g0 ++ famG gr M 0 L.length) (M + k) = gr k := by
      rw [lk_append]
      have : lk g0 (M + k) = none := by
        cases hc : lk g0 (M + k) with
        | none => rfl
        | some v =>
          have := List.all_eq_true.1 hg0 _ (lk_mem hc)
          simp only [decide_eq_true_eq] at this
          omega
      rw [this]; exact lk_famG (Nat.zero_le _) (by omega)
    rcases h k l h2 with ⟨o, h3, h4⟩ | ⟨h3, h4, h5⟩
    · rw [h1] at h4; cases h4
      exact ⟨.view (hlk.trans h3), rfl⟩
    · rw [h1] at h4; cases h4
      subst h5
      exact ⟨.nil (mem_famN.2 ⟨k, Nat.zero_le _, by omega, h3, rfl⟩), rfl⟩⟩
theorem Weak.rows {W0 : Base} {N : Nat} {st : St} {fr' : List (Nat × AV)} {F' : List (Nat × (Nat × List AV))} (g0 : List (Nat × Nat)) {M sz : Nat} {enc : α → AV} (L : List (List α)) (gr : Nat → Option Nat) (hno : ∀ x, NoId (enc x))
    (hrow : ∀ i l, L[i]? = some l → (∃ o, gr i = some o ∧ lk st.H.objs o = some (sz, l.map enc)) ∨ (gr i = none ∧ l = []))
    (hinj : ∀ i j o, i < L.length → j < L.length → gr i = some o → gr j = some o → i = j)
    (hdis : ∀ i o, i < L.length → gr i = some o → ∀ p ∈ g0, p.2 ≠ o)
    (hfront : Held st.H (g0 ++ famG gr M 0 L.length) (famN gr M 0 L.length) (M + L.length) F')
    (hfr : Seen st.H (g0 ++ famG gr M 0 L.length) (famN gr M 0 L.length) st.fr fr')
    (hg0 : g0.all (fun p => decide (p.1 < M)) = true := by rfl) (hinj0 : g0.all (fun p => g0.all (fun q => p.2 != q.2 || p.1 == q.1)) = true := by rfl) (hp : W0.p = 0 := by rfl) (hlp : st.H.lps = [] := by rfl) :
    Weak W0 N st ⟨fr', ⟨M + L.length, F' ++ fam enc sz M L, []⟩⟩ := by
  have hlt0 : ∀ p ∈ g0, p.1 < M := fun p hp => by simpa using List.all_eq_true.1 hg0 p hp
  have hno0 : ∀ i, lk g0 (M + i) = none := fun i => by
    cases hc : lk g0 (M + i) with
    | none => rfl
    | some v => have := hlt0 _ (lk_mem hc); simp only at this; omega
  have hlk : ∀ i, i < L.length → lk (g0 ++ famG gr M 0 L.length) (M + i) = gr i := fun i hi => by
    rw [lk_append, hno0]; exact lk_famG (Nat.zero_le _) (by omega)
  refine Weak.re (H' := ⟨M + L.length, F' ++ fam enc sz M L, []⟩) (g0 ++ famG gr M 0 L.length) (famN gr M 0 L.length) ?_ ?_ ?_ (Held.append hfront (Held.rows hno L M (fun i l hi => ?_) (Nat.le_refl _))) hfr ?_ hlp.symm
  · rw [List.all_eq_true]
    intro p hp'
    rw [List.all_eq_true]
    intro q hq
    simp only [Bool.or_eq_true, bne_iff_ne, ne_eq, beq_iff_eq]
    rcases List.mem_append.1 hp' with h1 | h1 <;> rcases List.mem_append.1 hq with h2 | h2
    · simpa using List.all_eq_true.1 (List.all_eq_true.1 hinj0 p h1) q h2
    · obtain ⟨j, o, _, hj, ho, rfl⟩ := mem_famG.1 h2
      exact .inl (hdis j o (by omega) ho p h1)
    · obtain ⟨j, o, _, hj, ho, rfl⟩ := mem_famG.1 h1
      exact .inl (fun h => hdis j o (by omega) ho q h2 h.symm)
    · obtain ⟨i, o, _, hi, ho, rfl⟩ := mem_famG.1 h1
      obtain ⟨j, o', _, hj, ho', rfl⟩ := mem_famG.1 h2
      by_cases h : o = o'
      · subst h; exact .inr (by rw [hinj i j o (by omega) (by omega) ho ho'])
      · exact .inl h
  · rw [List.all_eq_true]
    intro p hp'
    simp only [decide_eq_true_eq]
    rcases List.mem_append.1 hp' with h1 | h1
    · have := hlt0 p h1; omega
    · obtain ⟨j, o, _, hj, _, rfl⟩ := mem_famG.1 h1
      show M + j < M + L.length
      omega
  · rw [List.all_eq_true]
    intro k hk
    obtain ⟨j, _, hj, hn, rfl⟩ := mem_famN.1 hk
    rw [hlk j (by omega), hn]
    simp; omega
  · have hi' : i < L.length := (List.getElem?_eq_some_iff.1 hi).1
    rcases hrow i l hi with ⟨o, h1, h2⟩ | ⟨h1, h2⟩
    · exact .inl ⟨o, (hlk i hi').trans h1, h2⟩
    · exact .inr ⟨mem_famN.2 ⟨i, Nat.zero_le _, by omega, h1, rfl⟩, h2⟩
  · rw [hp]; simp [pinOk]

theorem Weak.newRow {W0 : Base} {N : Nat} {fr fr' : List (Nat × AV)} {F F' : List (Nat × (Nat × List AV))} (g0 : List (Nat × Nat)) {M sz oid : Nat} {enc : α → AV} {L : List (List α)} (L2 : List (List α)) (h2 : L2 = L ++ [[]]) (hno : ∀ x, NoId (enc x)) (ho : lk F oid = some (1, famV enc M L))
    (hfront : ∀ (H : Heap) (g : List (Nat × Nat)) (nw : List Nat), (∀ n, n < M → lk g n = lk g0 n) → (∀ n x, n ≠ oid → lk F n = some x → lk H.objs n = some x) →
      ∀ es, lk H.objs (M + L.length) = some (1, es) → SeeL H g nw es (famV enc M L2) → Held H g nw (M + L2.length) F' ∧ Seen H g nw fr fr')
    (hF : F.all (fun p => decide (p.1 < M)) = true := by rfl) (hg0 : g0.all (fun p => decide (p.1 < M)) = true := by rfl) (hg2 : ∀ p ∈ g0, p.2 < M ∨ p.2 = M + L.length := by simp) (hinj0 : g0.all (fun p => g0.all (fun q => p.2 != q.2 || p.1 == q.1)) = true := by simp) (hp : W0.p = 0 := by rfl) :
    Weak W0 N ⟨fr, (((famH F enc sz M L).del oid).push 1 (famV enc M L ++ [nilS]))⟩ ⟨fr', famH F' enc sz M L2⟩ := by
  subst h2
  have hoM := low_lt hF ho
  have hlk : ∀ n, lk ((((famH F enc sz M L).del oid).push 1 (famV enc M L ++ [nilS]))).objs n = if n = M + L.length then some (1, famV enc M L ++ [nilS]) else if n = oid then none else lk (F ++ fam enc sz M L) n := fun n => by
    simp only [Heap.push, Heap.del, lk_up, lk_del]
  let gr : Nat → Option Nat := fun i => if i < L.length then some (M + i) else none
  have hsee := seeL_rows (H := (((famH F enc sz M L).del oid).push 1 (famV enc M L ++ [nilS]))) (g0 := g0) (gr := gr) (M := M) (enc := enc) (L := L ++ [[]]) (es := famV enc M L ++ [nilS]) hg0 (by simp) (fun i l2 hi => by
    rw [List.getElem?_append] at hi ⊢
    rw [famV_len]
    by_cases hik : i < L.length
    · rw [if_pos hik] at hi ⊢
      rw [famV_get, hi]
      exact .inl ⟨M + i, if_pos hik, rfl⟩
    · rw [if_neg hik] at hi ⊢
      have h0 : i - L.length = 0 := by
        have := (List.getElem?_eq_some_iff.1 hi).1
        simp at this; omega
      rw [h0] at hi ⊢
      simp at hi
      exact .inr ⟨if_neg hik, rfl, hi⟩)
  obtain ⟨hf1, hf2⟩ := hfront (((famH F enc sz M L).del oid).push 1 (famV enc M L ++ [nilS])) (g0 ++ famG gr M 0 (L ++ [[]]).length) (famN gr M 0 (L ++ [[]]).length) (fun n hn => by
      rw [lk_append]
      cases hc : lk g0 n with
      | some v => rfl
      | none =>
        cases hc2 : lk (famG gr M 0 (L ++ [[]]).length) n with
        | none => rfl
        | some v =>
          obtain ⟨j, o, _, _, _, h5⟩ := mem_famG.1 (lk_mem hc2)
          simp only [Prod.mk.injEq] at h5
          omega) (fun n x hn hx => by
      have := low_lt hF hx
      rw [hlk, if_neg (by omega), if_neg hn, lk_famL this, hx]) _ (by rw [hlk, if_pos rfl]) hsee
  refine Weak.rows g0 (L ++ [[]]) gr hno (fun i l2 hi => ?_) (fun i j o hi hj h1 h2 => ?_) (fun i o hi h1 p hp' => ?_) hf1 hf2 hg0 hinj0 hp rfl
  · rw [List.getElem?_append] at hi
    by_cases hik : i < L.length
    · rw [if_pos hik] at hi
      refine .inl ⟨M + i, if_pos hik, ?_⟩
      rw [hlk, if_neg (by omega), if_neg (by omega)]
      exact lk_famH hF hi
    · rw [if_neg hik] at hi
      have := List.mem_of_getElem? hi
      simp at this
      exact .inr ⟨if_neg hik, this⟩
  · simp only [gr] at h1 h2
    split at h1 <;> split at h2
    · rw [Option.some.injEq] at h1 h2; omega
    · cases h2
    · cases h1
    · cases h1
  · simp only [gr] at h1
    split at h1
    · cases h1
      rcases hg2 p hp' with k | k <;> omega
    · cases h1
end

section
variable {P : Program} {W0 : Base} {fr : Fr} {H : Heap} {o : Oper} {α : Type} {i : Int} {x : List α} {ki : IntKind}
end
end Go.Av
end

section
/- Maps of the proof's own. -/
namespace Go.Av
open Go.RowKit (Below)
section
variable {P : Program} {W0 : Base} {C : Ctx} {fr : Fr} {a : Act} {H : Heap} {o : Oper}

theorem cell_map {w : World} {b : Nat} {ms : Array MapEntry} {k : Nat} (h : w.heap[b]? = some (.map ms k)) (j : Nat) : w.cell? ⟨b, j, none⟩ = none := by
  simp [World.cell?, h]

theorem new_map (hI : Inv W0 C) :
    Ext C ((C.inW (C.w.alloc (.map #[] 0))).push ⟨C.w.heap.size, 0, 1, 1, false⟩ [.mapd []]) ∧
    Inv W0 ((C.inW (C.w.alloc (.map #[] 0))).push ⟨C.w.heap.size, 0, 1, 1, false⟩ [.mapd []]) := by
  have hb := below_alloc C.w (.map #[] 0)
  have h1 : Ext C (C.inW (C.w.alloc (.map #[] 0))) := ext_of_block hb
  have I1 := hI.inW hb
  have hE := ext_push (C := C.inW (C.w.alloc (.map #[] 0))) h1 ⟨C.w.heap.size, 0, 1, 1, false⟩ [.mapd []] (fun _ => .inl (Nat.le_refl _))
  refine ⟨hE, I1.push _ _ (fun h => by cases h) (fun _ => ⟨fun ho => ?_, fun hp => ?_, hI.size⟩) (fun k e h hn => ?_) (fun _ => ?_) (W0.st C _ hE.mem hI.pinlt hI.gh)⟩
  · exact Nat.lt_irrefl _ (hI.own_lt ho)
  · exact Nat.lt_irrefl _ (hI.protlt _ hp)
  · have := hI.obj k e h hn
    exact this.ext hE (hb.block _ (hI.lt h hn))
  · have hh : ((C.inW (C.w.alloc (.map #[] 0))).push ⟨C.w.heap.size, 0, 1, 1, false⟩ [.mapd []]).w.heap[C.w.heap.size]? = some (.map #[] 0) := alloc_heap C.w _
    refine ⟨rfl, Nat.le_refl _, .inr ⟨rfl, #[], 0, hh, fun l hl => ?_⟩, fun o v h => ?_, fun i e he => ?_, fun i j e x v h1 h2 h3 => ?_⟩
    · simp only [List.cons.injEq, AV.mapd.injEq, and_true] at hl
      subst hl; rfl
    · rw [cell_map hh] at h; cases h
    · cases i with
      | zero => simp at he; subst he; rfl
      | succ i => simp at he
    · rw [cell_map hh] at h3; cases h3

theorem aop_makeMap {t k v : TypeId} (ho : o.op = .makeMap t none) (_hu : P.underlying t = some (.map k v)) : AOp P W0 o fr H (.mref H.next) (H.push 0 [.mapd []]) :=
  .of_run fun C a hI hH hop => by
    subst hH
    obtain ⟨h1, h2⟩ := new_map hI
    refine ⟨.map (some C.w.heap.size), _, ?_, h1, h2, rfl, ?_⟩
    · simp [execOp, ho, Instr.makeMap, newObj]; rfl
    · exact .mref _ _ (Nat.lt_succ_self _) (fun es he => by
        have e : ((C.inW (C.w.alloc (.map #[] 0))).push ⟨C.w.heap.size, 0, 1, 1, false⟩ [.mapd []]).pl C.H.next = ⟨C.w.heap.size, 0, 1, 1, false⟩ := by
          show (if C.H.next = C.H.next then _ else _) = _
          rw [if_pos rfl]
        rw [e]; exact ⟨rfl, rfl⟩) rfl

theorem run_checkKey_ints {t : TypeId} {n : Nat} (ht : intsB P t n = true) (ks : List Int) (hk : ks.length = n) (em : Bool) (w : World) :
    (Instr.checkKey em 10000 t (.agg (ks.map fun n => Value.int .i64 n).toArray)).run P w = .ok () w := by
  simp only [intsB, Bool.and_eq_true, Bool.not_eq_true'] at ht
  obtain ⟨⟨h1, h2⟩, h3⟩ := ht
  split at h1
  · rename_i fs hu
    simp only [Bool.and_eq_true, decide_eq_true_eq] at h1
    obtain ⟨h4, h5⟩ := h1
    rw [show (10000 : Nat) = 9999 + 1 from rfl, Instr.checkKey]
    simp only [Sem.run_bind, run_underlying hu, Result.andThen_ok]
    rw [← Array.forIn_toList]
    have hlen : fs.toList.length = n := by simpa using h4
    have key : ∀ (l : List Field) (k : Nat), (l.zipIdx k).all (fun p => p.1.offset == p.2 && p.1.name != "_" && (match P.underlying p.1.type with | some (.int .i64) => true | _ => false)) = true → k + l.length = ks.length →
        (forIn l PUnit.unit fun f r => (do
          if f.name ≠ "_" then Instr.checkKey em 9999 f.type (← part f.type (ks.map fun n => Value.int .i64 n).toArray f.offset)
          pure (ForInStep.yield PUnit.unit) : Sem (ForInStep PUnit))).run P w = .ok PUnit.unit w := by
      intro l
      induction l with
      | nil => intro k _ _; simp
      | cons f l ih =>
        intro k h hk2
        simp only [List.zipIdx_cons, List.all_cons, Bool.and_eq_true, beq_iff_eq, bne_iff_ne] at h
        obtain ⟨⟨⟨g1, g2⟩, g3⟩, g4⟩ := h
        have hu2 : P.underlying f.type = some (.int .i64) := by
          split at g3
          · assumption
          · cases g3
        simp only [List.length_cons] at hk2
        have hka : k < ks.length := by omega
        have ga : (ks.map fun n => Value.int .i64 n).toArray[f.offset]? = some (.int .i64 ks[k]) := by simp [g1, hka]
        have hc : (Instr.checkKey em 9999 f.type (.int .i64 ks[k])).run P w = .ok () w := by
          rw [show (9999 : Nat) = 9998 + 1 from rfl, Instr.checkKey]
          simp [Sem.run_bind, run_underlying hu2]
        simp only [List.forIn_cons, Sem.run_bind, part_int hu2 ga, hc, Result.andThen_ok, Sem.run_pure, ne_eq, not_false_eq_true, if_true, g2]
        exact ih (k + 1) g4 (by omega)
    have := key fs.toList 0 h5 (by omega)
    simp at this ⊢
    rw [this]; rfl
  · cases h1

def kvE (e : List Int × Bool) : Value × Value := (.agg (e.1.map fun n => Value.int .i64 n).toArray, .bool e.2)
def mpE (L : List (List Int × Bool)) : AV := .mapd (L.map kvE)
def askL (k : List Int) : List (List Int × Bool) → Nat → Option (Nat × Bool)
  | [], _ => none
  | e :: es, i => if k = e.1 then some (i, e.2) else askL k es (i + 1)
theorem run_findAsking_ints {t : TypeId} {n : Nat} (ht : intsB P t n = true) (k : List Int) (hk : k.length = n) (w : World) : ∀ (L : List (List Int × Bool)) (es : List MapEntry) (i : Nat), es.map (fun e => (e.key, e.val)) = L.map kvE → (∀ e ∈ L, e.1.length = n) →
    (Instr.findAsking t (.agg (k.map fun n => Value.int .i64 n).toArray) es i).run P w = .ok ((askL k L i).map fun p => (p.1, Value.bool p.2)) w
  | [], [], i, _, _ => by simp [Instr.findAsking, askL]
  | [], _ :: _, _, h, _ => by simp at h
  | _ :: _, [], _, h, _ => by simp at h
  | e :: L, m :: es, i, h, hl => by
    simp only [List.map_cons, List.cons.injEq, Prod.mk.injEq, kvE] at h
    obtain ⟨⟨h1, h2⟩, h3⟩ := h
    have ih := run_findAsking_ints ht k hk w L es (i + 1) h3 (fun x hx => hl x (List.mem_cons_of_mem _ hx))
    have he := (run_eq_ints (P := P) ht k e.1 hk (hl e (List.mem_cons_self ..)) w).1
    unfold Instr.findAsking
    rw [h1, Sem.run_bind]
    have he' : (Op.equal t (.agg (k.map fun n => Value.int .i64 n).toArray) (.agg (e.1.map fun n => Value.int .i64 n).toArray)).run P w = .ok (decide (k = e.1)) w := he
    rw [he']
    simp only [Result.andThen_ok, askL]
    by_cases hc : k = e.1
    · simp [hc, h2]
    · simp [hc, ih]
theorem run_findKey_ints {t : TypeId} {n : Nat} (ht : intsB P t n = true) (k : List Int) (hk : k.length = n) (w : World) (L : List (List Int × Bool)) (es : List MapEntry) (h : es.map (fun e => (e.key, e.val)) = L.map kvE) (hl : ∀ e ∈ L, e.1.length = n) :
    (Instr.findKey t (.agg (k.map fun n => Value.int .i64 n).toArray) es).run P w = .ok ((askL k L 0).map fun p => (p.1, Value.bool p.2)) w := by
  rw [run_findKey_eq w (by
    simp only [intsB, Bool.and_eq_true] at ht
    have h1 := ht.1.1
    cases hu : P.underlying t with
    | none => simp [hu] at h1
    | some d => cases d <;> simp [hu] at h1 ⊢)]
  exact run_findAsking_ints ht k hk w L es 0 h hl

def mgetL (k : List Int) (L : List (List Int × Bool)) : Bool := match askL k L 0 with | some p => p.2 | none => false
def mputL (k : List Int) (b : Bool) (L : List (List Int × Bool)) : List (List Int × Bool) := match askL k L 0 with | some p => L.modify p.1 (fun e => (e.1, b)) | none => L ++ [(k, b)]

theorem map_obj (hI : Inv W0 C) {id : Nat} {l : List (Value × Value)} (hid : C.H.get id = some [.mapd l]) (hn : (C.pl id).nil = false) : (C.pl id).sz = 0 ∧ ∃ ms clock, C.w.heap[(C.pl id).blk]? = some (.map ms clock) ∧ MapIs l ms := by
  have hO := hI.obj id _ hid hn
  have hz : (C.pl id).sz = 0 := by have := hO.flat 0 (.mapd l) rfl; simpa [AV.flat] using this.symm
  rcases hO.blk with ⟨h, _⟩ | ⟨_, ms, k, h1, h2⟩
  · exact absurd hz h
  · exact ⟨hz, ms, k, h1, h2 l rfl⟩

theorem aop_lookup {t kt et : TypeId} {x ix : Operand} {id n : Nat} (k : List Int) (L : List (List Int × Bool)) (ho : o.op = .lookup t x ix false) (hu : P.underlying t = some (.map kt et)) (hx : evalA fr x = some (.mref id)) (hid : H.get id = some [mpE L])
    (hi : evalA fr ix = some (.agg (k.map i64))) (ht : intsB P kt n = true) (hk : k.length = n) (hL : ∀ e ∈ L, e.1.length = n) (hz : zrT P et = some (.bool false)) : AOp P W0 o fr H (bl (mgetL k L)) H :=
  .of_pure fun C a hI hH hr => by
    subst hH
    have e1 := rep_eval (hr x (by simp [ho, Op.operands])) hx
    have e2 := rep_ints (rep_eval (hr ix (by simp [ho, Op.operands])) hi)
    generalize hux : a.eval x = u at e1
    cases e1 with
    | mref _ _ h1 h2 h3 =>
      obtain ⟨hn, rfl⟩ := h2 _ hid
      obtain ⟨_, ms, clock, hb, hms⟩ := map_obj hI hid hn
      have hms' : ms.toList.map (fun e => (e.key, e.val)) = L.map kvE := hms
      have g1 := run_checkKey_ints (P := P) ht k hk ms.isEmpty C.w
      have g2 := run_findKey_ints (P := P) ht k hk C.w L ms.toList hms' hL
      refine ⟨.bool (mgetL k L), ?_, .imm _ rfl⟩
      unfold mgetL
      cases hq : askL k L 0 with
      | none =>
        rw [hq] at g2
        unfold zrT at hz
        cases hie : P.info? et with
        | none => simp [hie] at hz
        | some i =>
          simp only [hie, Option.bind_some] at hz
          simp [execOp, ho, Instr.lookup, run_underlying hu, hux, e2, g1, g2, MapKept.run_getObj_map hb, zeroValue, typeInfo, hie, hz]
      | some p =>
        rw [hq] at g2
        simp [execOp, ho, Instr.lookup, run_underlying hu, hux, e2, g1, g2, MapKept.run_getObj_map hb]

theorem write_map (hI : Inv W0 C) {id : Nat} {l l' : List (Value × Value)} (hid : C.H.get id = some [.mapd l]) (hn : (C.pl id).nil = false) {ms ms' : Array MapEntry} {ck ck' : Nat}
    (hb : C.w.heap[(C.pl id).blk]? = some (.map ms ck)) (hl : MapIs l' ms') :
    Ext C (C.write id (C.w.putObj (C.pl id).blk (.map ms' ck')) [.mapd l']) ∧ Inv W0 (C.write id (C.w.putObj (C.pl id).blk (.map ms' ck')) [.mapd l']) := by
  have hO := hI.obj id _ hid hn
  obtain ⟨hz, _⟩ := map_obj hI hid hn
  have hlt := hI.lt hid hn
  have other : ∀ b, b ≠ (C.pl id).blk → (C.w.putObj (C.pl id).blk (.map ms' ck')).heap[b]? = C.w.heap[b]? := fun b h => World.putObj_heap_other h
  have hrow : (C.w.putObj (C.pl id).blk (.map ms' ck')).heap[(C.pl id).blk]? = some (.map ms' ck') := World.putObj_heap_same hlt
  have hsame : ∀ b, (C.write id (C.w.putObj (C.pl id).blk (.map ms' ck')) [.mapd l']).own b → C.own b := by
    rintro b (⟨k, e, h1, h2, h3⟩ | h)
    · simp only [Ctx.write, Heap.get_set] at h1
      split at h1
      · rename_i hk; subst hk; exact .inl ⟨k, _, hid, h2, h3⟩
      · exact .inl ⟨k, e, h1, h2, h3⟩
    · exact .inr h
  have hE : Ext C (C.write id (C.w.putObj (C.pl id).blk (.map ms' ck')) [.mapd l']) := {
    below := ⟨rfl, rfl, rfl, by simp [Ctx.write], fun k hk => absurd hk (Nat.not_lt_zero k)⟩
    keep := fun b _ ho => other b (fun hbb => ho (.inl ⟨id, _, hid, hn, hbb.symm⟩))
    own := fun b _ h => hsame b h
    next := Nat.le_refl _
    id := fun i es' _ h => by
      simp only [Ctx.write, Heap.get_set] at h
      split at h
      · rename_i hk; subst hk; exact ⟨⟨_, hid⟩, rfl⟩
      · exact ⟨⟨es', h⟩, rfl⟩
    prot := rfl
    dfs := rfl
    pin := rfl }
  have hspne : ∀ b, C.sp b → b ≠ (C.pl id).blk := fun b h he => by subst he; exact hI.sp_neD h hb (.inr ⟨_, _, rfl⟩)
  have cases' : ∀ k e, (C.write id (C.w.putObj (C.pl id).blk (.map ms' ck')) [.mapd l']).H.get k = some e → (k = id ∧ e = [.mapd l']) ∨ (k ≠ id ∧ C.H.get k = some e) := by
    intro k e h
    simp only [Ctx.write, Heap.get_set] at h
    split at h
    · rename_i hk; exact .inl ⟨hk, by simpa using h.symm⟩
    · rename_i hk; exact .inr ⟨hk, h⟩
  refine ⟨hE, {
    fresh := fun k e h => by
      rcases cases' k e h with ⟨rfl, _⟩ | ⟨_, h'⟩
      · exact hI.fresh k _ hid
      · exact hI.fresh k e h'
    nil := fun k e h hk => by
      rcases cases' k e h with ⟨rfl, _⟩ | ⟨_, h'⟩
      · have hk' : (C.pl k).nil = true := hk
        rw [hn] at hk'; cases hk'
      · exact hI.nil k e h' hk
    obj := fun k e h hk => by
      rcases cases' k e h with ⟨rfl, rfl⟩ | ⟨hne, h'⟩
      · refine ⟨hO.n.trans rfl, hO.cap, .inr ⟨hz, ms', ck', hrow, fun q hq => ?_⟩, fun o v hv => ?_, fun i e he => ?_, fun i j e' x v h1 h2 h3 => ?_⟩
        · simp only [List.cons.injEq, AV.mapd.injEq, and_true] at hq
          subst hq; exact hl
        · have hv' : (C.w.putObj (C.pl k).blk (.map ms' ck')).cell? ⟨(C.pl k).blk, o, none⟩ = some v := hv
          rw [cell_map hrow] at hv'; cases hv'
        · cases i with
          | zero => simp at he; subst he; exact hz.symm
          | succ i => simp at he
        · have hv' : (C.w.putObj (C.pl k).blk (.map ms' ck')).cell? ⟨(C.pl k).blk, i * (C.pl k).sz + j, none⟩ = some v := h3
          rw [cell_map hrow] at hv'; cases hv'
      · exact (hI.obj k e h' hk).ext hE (other _ (fun hbb => hne (hI.sep k id e _ h' hid hk hn hbb)))
    sep := fun a b ea eb ha hb na nb hab => by
      have g : ∀ k e, (C.write id (C.w.putObj (C.pl id).blk (.map ms' ck')) [.mapd l']).H.get k = some e → ∃ e', C.H.get k = some e' := by
        intro k e h
        rcases cases' k e h with ⟨rfl, _⟩ | ⟨_, h'⟩
        · exact ⟨_, hid⟩
        · exact ⟨e, h'⟩
      obtain ⟨e1, h1⟩ := g a ea ha
      obtain ⟨e2, h2⟩ := g b eb hb
      exact hI.sep a b e1 e2 h1 h2 na nb hab
    prot := fun k e h hk => by
      rcases cases' k e h with ⟨rfl, _⟩ | ⟨_, h'⟩
      · exact hI.prot k _ hid hk
      · exact hI.prot k e h' hk
    szok := fun k s h => hI.szok k s (by rw [← Heap.sz_set C.H id [.mapd l'] _ hid k]; exact h)
    protlt := fun b h => by simpa [Ctx.write] using hI.protlt b h
    protge := hI.protge
    size := by simpa [Ctx.write] using hI.size
    glob := fun b h => ⟨by
      have hne : b ≠ (C.pl id).blk := fun hbb => (hI.glob b h).2 (.inl ⟨id, _, hid, hn, hbb.symm⟩)
      rw [← (hI.glob b h).1]
      exact other _ hne, fun ho => (hI.glob b h).2 (hsame b ho)⟩
    lps := fun l r h => by
      rw [← hI.lps l r h]
      exact other _ (hspne l (.inl ⟨r, h⟩))
    dfs := fun d h => by
      rw [← hI.dfs d h]
      exact other _ (hspne d (.inr h))
    dnd := hI.dnd
    rod := hI.rod
    spprot := hI.spprot
    pinB := hI.pinB
    pinlt := hI.pinlt
    gh := W0.st C _ hE.mem hI.pinlt hI.gh }⟩

theorem askL_some {k : List Int} : ∀ {L : List (List Int × Bool)} {j i : Nat} {b : Bool}, askL k L j = some (i, b) → ∃ m, i = j + m ∧ L[m]? = some (k, b)
  | [], _, _, _, h => by simp [askL] at h
  | e :: L, j, i, b, h => by
    unfold askL at h
    split at h
    · rename_i hk
      simp only [Option.some.injEq, Prod.mk.injEq] at h
      exact ⟨0, by omega, by simp [hk, ← h.2]⟩
    · obtain ⟨m, h1, h2⟩ := askL_some h
      exact ⟨m + 1, by omega, by simpa using h2⟩
theorem sameBits_ints (ks : List Int) : Instr.sameBits 10000 (.agg (ks.map fun n => Value.int .i64 n).toArray) (.agg (ks.map fun n => Value.int .i64 n).toArray) = true := by
  rw [show (10000 : Nat) = 9999 + 1 from rfl]
  unfold Instr.sameBits
  simp only [beq_self_eq_true, Bool.true_and, List.all_eq_true]
  rintro ⟨x, y⟩ h
  have hxy : x = y ∧ ∃ n, x = Value.int .i64 n := by
    obtain ⟨i, hi, he⟩ := List.getElem_of_mem h
    simp only [List.getElem_zip, Prod.mk.injEq] at he
    obtain ⟨rfl, rfl⟩ := he
    refine ⟨rfl, ?_⟩
    simp
  obtain ⟨rfl, n, rfl⟩ := hxy
  simp [Instr.sameBits]

theorem aop_mapUpdate {t kt et : TypeId} {x kx vx : Operand} {id n : Nat} (k : List Int) (b : Bool) (L : List (List Int × Bool)) (ho : o.op = .mapUpdate t x kx vx) (hu : P.underlying t = some (.map kt et)) (hx : evalA fr x = some (.mref id)) (hid : H.get id = some [mpE L])
    (hi : evalA fr kx = some (.agg (k.map i64))) (hv : evalA fr vx = some (bl b)) (ht : intsB P kt n = true) (hk : k.length = n) (hL : ∀ e ∈ L, e.1.length = n) : AOp P W0 o fr H .any (H.set id [mpE (mputL k b L)]) :=
  .of_skip fun C a hI hH hr => by
    subst hH
    have e1 := rep_eval (hr x (by simp [ho, Op.operands])) hx
    have e2 := rep_ints (rep_eval (hr kx (by simp [ho, Op.operands])) hi)
    have e3 := rep_toV (v := .bool b) rfl (rep_eval (hr vx (by simp [ho, Op.operands])) hv)
    generalize hux : a.eval x = u at e1
    cases e1 with
    | mref _ _ h1 h2 h3 =>
      obtain ⟨hn, rfl⟩ := h2 _ hid
      obtain ⟨_, ms, clock, hb, hms⟩ := map_obj hI hid hn
      have hms' : ms.toList.map (fun e => (e.key, e.val)) = L.map kvE := hms
      have g1 := run_checkKey_ints (P := P) ht k hk false C.w
      have g2 := run_findKey_ints (P := P) ht k hk C.w L ms.toList hms' hL
      unfold mputL
      cases hq : askL k L 0 with
      | none =>
        rw [hq] at g2
        have hl : MapIs ((L ++ [(k, b)]).map kvE) (ms.push ⟨.agg (k.map fun n => Value.int .i64 n).toArray, .bool b, clock⟩) := by
          simp [MapIs, hms', kvE]
        obtain ⟨q1, q2⟩ := write_map (ck' := clock + 1) hI hid hn hb hl
        refine ⟨_, ?_, q1, q2, rfl⟩
        simp [execOp, ho, Instr.mapUpdate, run_underlying hu, hux, e2, e3, g1, g2, MapKept.run_getObj_map hb, MapKept.run_setObj_map _ hb, Ctx.write]
        rfl
      | some p =>
        obtain ⟨i, b0⟩ := p
        rw [hq] at g2
        obtain ⟨m, hm, hLm⟩ := askL_some hq
        obtain rfl : i = m := by omega
        have hmm : (ms.toList.map (fun e => (e.key, e.val)))[i]? = some (kvE (k, b0)) := by rw [hms']; simp [hLm]
        rw [List.getElem?_map] at hmm
        obtain ⟨e0, he0, he1⟩ := Option.map_eq_some_iff.1 hmm
        simp only [kvE, Prod.mk.injEq] at he1
        have hei : ms[i]? = some e0 := by simpa using he0
        have hl : MapIs ((L.modify i (fun e => (e.1, b))).map kvE) (ms.modify i fun e => { e with key := .agg (k.map fun n => Value.int .i64 n).toArray, val := .bool b }) := by
          unfold MapIs
          apply List.ext_getElem?
          intro q
          have hq2 := congrArg (fun l : List (Value × Value) => l[q]?) hms'
          simp only [List.getElem?_map] at hq2
          simp only [List.getElem?_map, Array.toList_modify, List.getElem?_modify]
          by_cases hiq : i = q
          · subst hiq
            simp only [he0, hLm, if_true]
            simp [kvE]
          · simp only [hiq, if_false]
            simpa using hq2
        obtain ⟨q1, q2⟩ := write_map (ck' := clock) hI hid hn hb hl
        refine ⟨_, ?_, q1, q2, rfl⟩
        simp [execOp, ho, Instr.mapUpdate, run_underlying hu, hux, e2, e3, g1, g2, hei, he1.1, Instr.keyThatStays, sameBits_ints, MapKept.run_getObj_map hb, MapKept.run_setObj_map _ hb, Ctx.write]
        rfl
end
end Go.Av
end

section
/- Pointers and slices against nil, slices.Clone, maps whose keys are structs of numbers. -/
namespace Go.Sh
def mget {κ : Type} [DecidableEq κ] (k : κ) : List (κ × Bool) → Bool
  | [] => false
  | e :: L => if k = e.1 then e.2 else mget k L
def mput {κ : Type} [DecidableEq κ] (k : κ) (b : Bool) : List (κ × Bool) → List (κ × Bool)
  | [] => [(k, b)]
  | e :: L => if k = e.1 then (e.1, b) :: L else e :: mput k b L
def either {α β γ : Type} (s : α ⊕ β) (f : α → Option γ) (g : β → Option γ) : Option γ := match s with | .inl a => f a | .inr b => g b
theorem either_l {α β γ : Type} {a : α} {f : α → Option γ} {g : β → Option γ} {x : γ} (h : either (.inl a) f g = some x) : f a = some x := h
theorem either_r {α β γ : Type} {b : β} {f : α → Option γ} {g : β → Option γ} {x : γ} (h : either (.inr b) f g = some x) : g b = some x := h
end Go.Sh
namespace Go.Av
open Go
section
variable {P : Program} {W0 : Base} {fr : Fr} {H : Heap} {o : Oper}

theorem aop_eq_ref {t t' : TypeId} {x y : Operand} {id i j : Nat} {es : List AV} (ho : o.op = .binOp .eql t x y t') (hx : evalA fr x = some (.ref id i j)) (hid : H.get id = some es) (hy : evalA fr y = some (.imm (.pointer none))) (ht : P.underlying t = some (.pointer (P.pointee t))) : AOp P W0 o fr H (bl false) H :=
  .of_pure fun C a _ hH hr => by
    subst hH
    have e1 := rep_eval (hr x (by simp [ho, Op.operands])) hx
    have e2 := rep_toV (v := .pointer none) rfl (rep_eval (hr y (by simp [ho, Op.operands])) hy)
    generalize hu : a.eval x = u at e1
    cases e1 with
    | ref _ _ _ _ h1 h2 h3 =>
      obtain ⟨_, rfl⟩ := h2 _ hid
      refine ⟨.bool false, ?_, .imm _ rfl⟩
      simp only [execOp, ho, hu, e2, Sem.run_bind, eqGuard]
      simp [run_eql_pointer_nil (P := P) C.w t _ ht]
theorem aop_eq_nilp {t t' : TypeId} {x y : Operand} (ho : o.op = .binOp .eql t x y t') (hx : evalA fr x = some (.imm (.pointer none))) (hy : evalA fr y = some (.imm (.pointer none))) (ht : P.underlying t = some (.pointer (P.pointee t))) : AOp P W0 o fr H (bl true) H :=
  .of_pure fun C a _ hH hr => by
    have e1 := rep_toV (v := .pointer none) rfl (rep_eval (hr x (by simp [ho, Op.operands])) hx)
    have e2 := rep_toV (v := .pointer none) rfl (rep_eval (hr y (by simp [ho, Op.operands])) hy)
    refine ⟨.bool true, ?_, .imm _ rfl⟩
    simp only [execOp, ho, e1, e2, Sem.run_bind, eqGuard]
    simp [run_eql_pointer_nil (P := P) C.w t none ht]
theorem aop_box0 {t : TypeId} {x : Operand} (ho : o.op = .box t x) : AOp P W0 o fr H .any H :=
  .of_run fun C a hI hH _ => by
    have hb := below_alloc C.w (.cells (a.eval x).cells t)
    refine ⟨.pointer (some ⟨C.w.heap.size, 0, none⟩), C.inW (C.w.alloc (.cells (a.eval x).cells t)), ?_, ext_of_block hb, hI.inW hb, hH, .any _⟩
    simp [execOp, ho, Instr.box, newVar, newRow, newObj]
    rfl

theorem t_app_clip0 {α : Type} {enc : α → AV} {t ty e : TypeId} {s by' : Nat} {z : Value} {xo yo : Operand} {ay : AV} (m L : List α) (hL : Sh.app by' [] m = some L) (hT : ElT P t e s by' z) (hfl : ∀ x : α, (enc x).flat.length = s) (ho : o.op = .call { callee := .builtin .append, args := #[xo, yo], argTypes := #[t, t] }) (hty : o.type = ty)
    (hx : evalA fr xo = some (.clip [])) (hy : evalA fr yo = some ay) (hys : ay.elems H = some (m.map enc)) : AOp P W0 o fr H (.view H.next 0 (L.map enc).length) (H.push s (L.map enc)) := by
  obtain ⟨h1, rfl⟩ := Sh.app_some hL
  have := aop_append_nil (P := P) (W0 := W0) (o := o) (fr := fr) (H := H) hT ho hty hx (.inr rfl) hy hys (flat_map hfl _) (by simpa using h1)
  simpa using this

theorem elems_view {H : Heap} {id : Nat} {es : List AV} (h : H.get id = some es) : (AV.view id 0 es.length).elems H = some es := by simp [AV.elems, h]

def mpC {κ : Type} (ky : κ → List Int) (L : List (κ × Bool)) : AV := mpE (L.map fun e => (ky e.1, e.2))
@[simp] theorem noId_mpC {κ : Type} (ky : κ → List Int) (L : List (κ × Bool)) : NoId (mpC ky L) := .mapd _
@[simp] theorem flat_mpC {κ : Type} (ky : κ → List Int) (L : List (κ × Bool)) : (mpC ky L).flat = [] := rfl

theorem mgetL_C {κ : Type} [DecidableEq κ] {ky : κ → List Int} (hi : ∀ a b, ky a = ky b → a = b) (k : κ) (L : List (κ × Bool)) : mgetL (ky k) (L.map fun e => (ky e.1, e.2)) = Sh.mget k L := by
  unfold mgetL
  have key : ∀ (L : List (κ × Bool)) (n : Nat), (match askL (ky k) (L.map fun e => (ky e.1, e.2)) n with | some p => p.2 | none => false) = Sh.mget k L := by
    intro L
    induction L with
    | nil => intro n; rfl
    | cons e L ih =>
      intro n
      simp only [List.map_cons, askL, Sh.mget]
      by_cases h : k = e.1
      · simp [h]
      · have : ky k ≠ ky e.1 := fun h' => h (hi _ _ h')
        simp [h, this, ih]
  exact key L 0
theorem modify_mid {α : Type} (f : α → α) (x : α) (t : List α) : ∀ pre : List α, (pre ++ x :: t).modify pre.length f = pre ++ f x :: t
  | [] => rfl
  | y :: pre => by simp [modify_mid f x t pre]
theorem mputL_C {κ : Type} [DecidableEq κ] {ky : κ → List Int} (hi : ∀ a b, ky a = ky b → a = b) (k : κ) (b : Bool) (L : List (κ × Bool)) : mputL (ky k) b (L.map fun e => (ky e.1, e.2)) = (Sh.mput k b L).map fun e => (ky e.1, e.2) := by
  unfold mputL
  have key : ∀ (L : List (κ × Bool)) (pre : List (List Int × Bool)),
      (match askL (ky k) (L.map fun e => (ky e.1, e.2)) pre.length with | some p => (pre ++ L.map fun e => (ky e.1, e.2)).modify p.1 (fun e => (e.1, b)) | none => (pre ++ L.map fun e => (ky e.1, e.2)) ++ [(ky k, b)]) = pre ++ (Sh.mput k b L).map fun e => (ky e.1, e.2) := by
    intro L
    induction L with
    | nil => intro pre; simp [askL, Sh.mput]
    | cons e L ih =>
      intro pre
      simp only [List.map_cons, askL, Sh.mput]
      by_cases h : k = e.1
      · subst h
        simp only [if_true]
        exact modify_mid _ _ _ _
      · have hn : ky k ≠ ky e.1 := fun h' => h (hi _ _ h')
        have := ih (pre ++ [(ky e.1, e.2)])
        simp only [List.length_append, List.length_singleton, List.append_assoc, List.singleton_append] at this
        rw [if_neg hn, if_neg h]
        simpa using this
  have := key L []
  simp only [List.length_nil, List.nil_append] at this
  cases hq : askL (ky k) (L.map fun e => (ky e.1, e.2)) 0 with
  | none => rw [hq] at this; simpa using this
  | some p => rw [hq] at this; simpa using this

theorem t_makeMap {t k v : TypeId} {κ : Type} (ky : κ → List Int) (ho : o.op = .makeMap t none) (hu : P.underlying t = some (.map k v)) : AOp P W0 o fr H (.mref H.next) (H.push 0 [mpC ky []]) := aop_makeMap ho hu

theorem t_lookup {t kt et : TypeId} {x ix : Operand} {id n : Nat} {κ : Type} [DecidableEq κ] {ky : κ → List Int} {ak : AV} (hi : ∀ a b, ky a = ky b → a = b) (hn : ∀ a, (ky a).length = n) (k : κ) (L : List (κ × Bool)) (ht : intsB P kt n = true) (ho : o.op = .lookup t x ix false) (hx : evalA fr x = some (.mref id)) (hid : H.get id = some [mpC ky L])
    (hu : P.underlying t = some (.map kt et)) (hix : evalA fr ix = some ak) (hak : ak = .agg ((ky k).map i64)) (hz : zrT P et = some (.bool false)) : AOp P W0 o fr H (bl (Sh.mget k L)) H := by
  subst hak
  exact (aop_lookup (ky k) _ ho hu hx hid hix ht (hn k) (fun e he => by obtain ⟨q, _, rfl⟩ := List.mem_map.1 he; exact hn _) hz).conv (congrArg bl (mgetL_C hi k L))
theorem t_mapUpdate {t kt et : TypeId} {x kx vx : Operand} {id n : Nat} {κ : Type} [DecidableEq κ] {ky : κ → List Int} {ak : AV} (hi : ∀ a b, ky a = ky b → a = b) (hn : ∀ a, (ky a).length = n) (k : κ) (b : Bool) (L : List (κ × Bool)) (ht : intsB P kt n = true) (ho : o.op = .mapUpdate t x kx vx) (hx : evalA fr x = some (.mref id)) (hid : H.get id = some [mpC ky L])
    (hu : P.underlying t = some (.map kt et)) (hkx : evalA fr kx = some ak) (hak : ak = .agg ((ky k).map i64)) (hv : evalA fr vx = some (bl b)) : AOp P W0 o fr H .any (H.set id [mpC ky (Sh.mput k b L)]) := by
  subst hak
  have := aop_mapUpdate (P := P) (W0 := W0) (o := o) (fr := fr) (H := H) (ky k) b _ ho hu hx hid hkx hv ht (hn k) (fun e he => by obtain ⟨q, _, rfl⟩ := List.mem_map.1 he; exact hn _)
  rw [mputL_C hi] at this
  exact this
end

section
variable {P : Program} {W0 : Base} {N : Nat} {st : St} {Q : Exit → St → Prop}

theorem awp_eqnil {id d1 d2 : Nat} {t t' e : TypeId} {x : Operand} {es : List AV} {o1 o2 : Oper} (h1 : o1.op = .move x) (g1 : o1.guard = none) (q1 : o1.dst = some d1) (h2 : o2.op = .binOp .eql t (.tmp d1) (.const (.slice none 0 0)) t') (g2 : o2.guard = none) (q2 : o2.dst = some d2)
    (l1 : d1 < N) (l2 : d2 < N) (hu : P.underlying t = some (.slice e)) (hx : evalA (lk st.fr) x = some (.sl es))
    (hQ : ∀ b, (b = true → es = []) → Q .normal ⟨putL (putL st.fr (some d1) (.sl es)) (some d2) (bl b), st.H⟩) : AWP P W0 N (.region id [o1, o2].toArray false) st Q := by
  intro C a hr
  refine wpIn_region_lit ?_
  unfold wpListIn
  have w1 : Region.wanted o1 (yielded [o1, o2].toArray a.tmps) = true := by simp [Region.wanted, g1]
  rw [w1]
  simp only [if_true]
  refine wpIn_of_wp (fun c hc => by rw [h1] at hc; cases hc) (aop_move (.inl h1) hx C a hr.inv hr.heap (fun y _ t _ av hav => hr.rep t av hav) _ _ (fun v C1 he hi hH hv => ?_))
  rw [q1]
  have hr1 : Rel W0 N (Fr.put (lk st.fr) (some d1) (.sl es)) st.H C1 (a.put (some d1) v) := hr.put he hi hH hv (fun d hd => by cases hd; exact l1)
  unfold wpListIn
  have w2 : Region.wanted o2 (yielded [o1, o2].toArray (a.put (some d1) v).tmps) = true := by simp [Region.wanted, g2]
  rw [w2]
  simp only [if_true]
  have hsl : ∃ ad n c, v = .slice ad n c ∧ (ad = none → es = []) := by
    cases hv with
    | slNil ad c => exact ⟨ad, 0, c, rfl, fun _ => rfl⟩
    | sl _ b off sz cap c => exact ⟨_, _, _, rfl, fun h => by cases h⟩
  obtain ⟨ad, n, c, rfl, hnil⟩ := hsl
  have hev : (a.put (some d1) (.slice ad n c)).eval (.tmp d1) = .slice ad n c := by
    have hlt : d1 < a.tmps.size := by rw [hr.size]; exact l1
    simp [Act.eval, Act.put, Array.getD, hlt]
  have hrun : (execOp (a.put (some d1) (.slice ad n c)).eval o2).run P C1.w = .ok (.value (.bool ad.isNone)) C1.w := by
    have hc : (a.put (some d1) (.slice ad n c)).eval (.const (.slice none 0 0)) = .slice none 0 0 := rfl
    simp only [execOp, h2, hev, hc, Sem.run_bind, eqGuard]
    simp only [binOp]
    simp [run_equal_slice_nil (P := P) C1.w t e ad n c hu]
  refine wpIn_of_wp (fun c hc => by rw [h2] at hc; cases hc) ?_
  unfold Oper.wp
  rw [hrun]
  unfold Oper.upon
  rw [q2]
  unfold wpListIn
  have hr2 : Rel W0 N (Fr.put (Fr.put (lk st.fr) (some d1) (.sl es)) (some d2) (bl ad.isNone)) st.H C1 ((a.put (some d1) (.slice ad n c)).put (some d2) (.bool ad.isNone)) :=
    hr1.put (.refl C1) hr1.inv hr1.heap (.imm _ rfl) (fun d hd => by cases hd; exact l2)
  refine ⟨_, C1, rfl, he.mem, ?_, hQ ad.isNone (fun h => hnil (by cases ad <;> simp_all))⟩
  rw [lk_putL, lk_putL]
  exact hr2
theorem awp_eqnilV {id d1 d2 i0 n0 : Nat} {t t' e : TypeId} {x : Operand} {es : List AV} {o1 o2 : Oper} (h1 : o1.op = .move x) (g1 : o1.guard = none) (q1 : o1.dst = some d1) (h2 : o2.op = .binOp .eql t (.tmp d1) (.const (.slice none 0 0)) t') (g2 : o2.guard = none) (q2 : o2.dst = some d2)
    (l1 : d1 < N) (l2 : d2 < N) (hu : P.underlying t = some (.slice e)) (hx : evalA (lk st.fr) x = some (.view i0 0 n0)) (hid : st.H.get i0 = some es)
    (hQ : ∀ b, (b = true → es = []) → Q .normal ⟨putL (putL st.fr (some d1) (.view i0 0 n0)) (some d2) (bl b), st.H⟩) : AWP P W0 N (.region id [o1, o2].toArray false) st Q := by
  intro C a hr
  refine wpIn_region_lit ?_
  unfold wpListIn
  have w1 : Region.wanted o1 (yielded [o1, o2].toArray a.tmps) = true := by simp [Region.wanted, g1]
  rw [w1]
  simp only [if_true]
  refine wpIn_of_wp (fun c hc => by rw [h1] at hc; cases hc) (aop_move (.inl h1) hx C a hr.inv hr.heap (fun y _ t _ av hav => hr.rep t av hav) _ _ (fun v C1 he hi hH hv => ?_))
  rw [q1]
  have hr1 : Rel W0 N (Fr.put (lk st.fr) (some d1) (.view i0 0 n0)) st.H C1 (a.put (some d1) v) := hr.put he hi hH hv (fun d hd => by cases hd; exact l1)
  unfold wpListIn
  have w2 : Region.wanted o2 (yielded [o1, o2].toArray (a.put (some d1) v).tmps) = true := by simp [Region.wanted, g2]
  rw [w2]
  simp only [if_true]
  have hsl : ∃ ad n c, v = .slice ad n c ∧ (ad = none → es = []) := by
    cases hv with
    | view _ _ _ _ _ hs _ =>
      have hid1 : C1.H.get i0 = some es := by rw [hH]; exact hid
      have hs1 := hs es hid1
      unfold SliceAt at hs1
      cases hn : (C1.pl i0).nil with
      | true =>
        rw [hn] at hs1
        simp only [if_true] at hs1
        obtain ⟨_, _, ad, rfl⟩ := hs1
        exact ⟨ad, 0, 0, rfl, fun _ => hi.nil i0 es hid1 hn⟩
      | false =>
        rw [hn] at hs1
        simp only [Bool.false_eq_true, if_false] at hs1
        obtain ⟨ad, cap, rfl, _⟩ := hs1
        exact ⟨some ad, _, cap, rfl, fun h => by cases h⟩
  obtain ⟨ad, n, c, rfl, hnil⟩ := hsl
  have hev : (a.put (some d1) (.slice ad n c)).eval (.tmp d1) = .slice ad n c := by
    have hlt : d1 < a.tmps.size := by rw [hr.size]; exact l1
    simp [Act.eval, Act.put, Array.getD, hlt]
  have hrun : (execOp (a.put (some d1) (.slice ad n c)).eval o2).run P C1.w = .ok (.value (.bool ad.isNone)) C1.w := by
    have hc : (a.put (some d1) (.slice ad n c)).eval (.const (.slice none 0 0)) = .slice none 0 0 := rfl
    simp only [execOp, h2, hev, hc, Sem.run_bind, eqGuard]
    simp only [binOp]
    simp [run_equal_slice_nil (P := P) C1.w t e ad n c hu]
  refine wpIn_of_wp (fun c hc => by rw [h2] at hc; cases hc) ?_
  unfold Oper.wp
  rw [hrun]
  unfold Oper.upon
  rw [q2]
  unfold wpListIn
  have hr2 : Rel W0 N (Fr.put (Fr.put (lk st.fr) (some d1) (.view i0 0 n0)) (some d2) (bl ad.isNone)) st.H C1 ((a.put (some d1) (.slice ad n c)).put (some d2) (.bool ad.isNone)) :=
    hr1.put (.refl C1) hr1.inv hr1.heap (.imm _ rfl) (fun d hd => by cases hd; exact l2)
  refine ⟨_, C1, rfl, he.mem, ?_, hQ ad.isNone (fun h => hnil (by cases ad <;> simp_all))⟩
  rw [lk_putL, lk_putL]
  exact hr2
end
end Go.Av
end

section
/- Strings, and integers of few bits. -/
namespace Go.Sh
end Go.Sh
namespace Go.Av
open Go
section
variable {P : Program} {W0 : Base} {fr : Fr} {H : Heap} {o : Oper}

end
end Go.Av
end

section
/- A struct with a table of numbers behind its first cell. -/
namespace Go.Sh
end Go.Sh
namespace Go.Av
open Go
section
variable {P : Program} {W0 : Base} {fr : Fr} {H : Heap} {o : Oper}

end
end Go.Av
end

section
/- Sorting numbers, and leaving out what comes twice: by what is known of the library's functions. -/
namespace Go.Av
open Go.RowKit (Below)

def Sh.put (x : Int) : List Int → List Int
  | [] => [x]
  | y :: l => if x ≤ y then x :: y :: l else y :: Sh.put x l
section
variable {P : Program} {W0 : Base} {C : Ctx} {fr : Fr} {a : Act} {H : Heap} {o : Oper} {N : Nat}

end
end Go.Av
end

section
/- Rows of numbers are sorted by their first ones, where they lie: by what is known of the library's function. -/
namespace Go.Av
open Go.RowKit (Below)

@[simp] theorem all_bools (p q : Prop) (R : AV → Prop) : (∀ e : AV, p ∧ bl false = e ∨ q ∧ bl true = e → R e) ↔ (p → R (bl false)) ∧ (q → R (bl true)) := ⟨fun h => ⟨fun hp => h _ (.inl ⟨hp, rfl⟩), fun hq => h _ (.inr ⟨hq, rfl⟩)⟩, fun ⟨h1, h2⟩ e h => by rcases h with ⟨hp, rfl⟩ | ⟨hq, rfl⟩; exact h1 hp; exact h2 hq⟩
def Sh.first (l : List Int) : Int := l.headD 0
section
variable {P : Program} {W0 : Base} {C : Ctx} {fr : Fr} {a : Act} {H : Heap} {o : Oper} {N : Nat}

end
end Go.Av
end

section
/- Numbers are sorted by where they stand in a row, where they lie: by what is known of the library's function. -/
namespace Go.Av
open Go.RowKit (Below)

def Sh.ix (os : List Int) (x : Int) : Int := Lib.idxOf os x
section
variable {P : Program} {W0 : Base} {C : Ctx} {fr : Fr} {a : Act} {H : Heap} {o : Oper} {N : Nat}

end
end Go.Av
end

section
/- A call that hands back one new object, whatever the heap is. -/
namespace Go.Av
section
variable {P : Program} {W0 : Base} {fr : Fr} {H : Heap} {o : Oper}
end
end Go.Av
end

section
/- Calls that panic, and what takes the panic back. -/
namespace Go.Av
open Go.RowKit (Below)

section
variable {P : Program} {W0 : Base} {C : Ctx} {fr : Fr} {a : Act} {H : Heap} {o : Oper} {N : Nat} {ops : Array Oper} {Q : Exit → St → Prop}


@[reducible] def Base.off (W : World) (p : Nat) (ds : List Deferred) : Base := ⟨W, p, none, fun _ => True, fun _ _ _ _ _ => trivial, ds⟩

theorem Inv.off {W : World} {B : Base} (hI : Inv B C) (hB : B.w = W) (p : Nat) (ds : List Deferred) (hle : p ≤ C.H.next) : Inv (.off W p ds) { C with pin := p } where
  fresh := hI.fresh
  nil := hI.nil
  obj id es h hn := by
    have hO := hI.obj id es h hn
    exact ⟨hO.n, hO.cap, hO.blk, hO.one, hO.flat, fun i j e x v h1 h2 h3 => (hO.cell i j e x v h1 h2 h3).sub rfl (Nat.le_refl _) (fun id es _ h => ⟨es, h⟩) (fun _ _ => rfl) (fun b h => h)⟩
  sep := hI.sep
  prot := hI.prot
  szok := hI.szok
  protlt := hI.protlt
  protge b h := by subst hB; exact hI.protge b h
  size := by subst hB; exact hI.size
  glob b h := by subst hB; exact hI.glob b h
  lps := hI.lps
  dfs := hI.dfs
  dnd := hI.dnd
  rod _ h := by cases h
  spprot := hI.spprot
  pinB := rfl
  pinlt := hle
  gh := trivial

theorem Inv.dx {W : World} {p : Nat} {ds ds' : List Deferred} (h : Inv (.off W p ds) C) : Inv (.off W p ds') C :=
  ⟨h.fresh, h.nil, h.obj, h.sep, h.prot, h.szok, h.protlt, h.protge, h.size, h.glob, h.lps, h.dfs, h.dnd, h.rod, h.spprot, h.pinB, h.pinlt, h.gh⟩
theorem Inv.on {W : World} {p : Nat} {ds : List Deferred} (h : Inv (.off W p ds) C) : Inv (.of W) { C with pin := 0 } :=
  have k := h.off (W := W) rfl 0 [] (Nat.zero_le _)
  ⟨k.fresh, k.nil, k.obj, k.sep, k.prot, k.szok, k.protlt, k.protge, k.size, k.glob, k.lps, k.dfs, k.dnd, k.rod, k.spprot, k.pinB, k.pinlt, k.gh⟩

end
end Go.Av
end
