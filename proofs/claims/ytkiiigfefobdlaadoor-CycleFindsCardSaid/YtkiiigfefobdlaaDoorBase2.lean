/- What a proof sees of a run, and the rules by which it goes through a text. -/
import Derived.Test.YtkiiigfefobdlaaDoorBase1
import Derived.Test.YtkiiigfefobdlaaDoorBase
import Derived.OpenShut
import Derived.Lib.LaidTab
set_option linter.unusedSimpArgs false
set_option linter.unusedVariables false
section
/- From what a law's function does to what its row asks. -/
namespace Go.Av
open Go.RowKit (Below)

section
variable {H : Type} {enc : TypeId × Value → H} {P : Program}

theorem trodAll_below (hl : laidOutB P = true) {W W' : World} (hb : Below W.heap.size W W') : ∀ {ts : List TypeId} {vs : List Value} {ds : List (DataW H)} {ps : List MemPlace}, (∀ t ∈ ts, P.readableRec t = true ∧ t < P.types.size) →
    DataW.TrodAll enc P W 0 (fun _ => true) true ts vs ds ps → (∀ x ∈ ps, x.block < W.heap.size) → DataW.TrodAll enc P W' 0 (fun b => decide (b < W.heap.size)) true ts vs ds ps
  | [], [], [], ps, _, h, _ => h
  | t :: ts, v :: vs, d :: ds, ps, hr, h, hlt => by
    obtain ⟨p, q, h1, h2, rfl⟩ := h
    obtain ⟨r1, r2⟩ := hr t (List.mem_cons_self ..)
    exact ⟨p, q, RowKit.Below.trod hl r1 r2 h1 hb (fun x hx => hlt x (List.mem_append_left _ hx)), trodAll_below hl hb (fun t ht => hr t (List.mem_cons_of_mem _ ht)) h2 (fun x hx => hlt x (List.mem_append_right _ hx)), rfl⟩

theorem law_post {fn : Func} {s : ChangeSpec} {W W' : World} {args : Array Value} {ds gs : List (DataW H)} {before : List MemPlace} {tb : TypeId} (hW : DataW.Whole enc P fn.params.toList s.vars false W args.toList ds gs before)
    (hv : s.vars = []) (hfn : s.fn H (ds ++ gs) = ⟨[.lit (.bool true)], ds, []⟩) (hres : fn.resultTypes = #[tb]) (hb : P.underlying tb = some .bool) (hl : laidOutB P = true) (hr : ∀ t ∈ fn.params.toList, P.readableRec t = true ∧ t < P.types.size)
    (hbel : Below W.heap.size W W') : s.post enc P fn false true false false W args (.bool true) W' := by
  have hlt := fun p hp => hW.lt p hp
  have hW' := hW
  obtain ⟨p, q, h1, h2, rfl, h3, h4⟩ := hW
  refine ⟨ds, gs, p ++ q, [], p, [], hW', ?_, ?_, ?_, hbel.frame _, fun h => by cases h⟩
  · rw [hfn, hres]
    show DataW.TrodAll enc P W' _ _ _ [tb] [.bool true] [.lit (.bool true)] []
    exact ⟨[], [], RowKit.shut_bool hb true, rfl, rfl⟩
  · rw [hfn]
    exact trodAll_below hl hbel hr h1 (fun x hx => hlt x (List.mem_append_left _ hx))
  · rw [hfn, hv]; rfl

def Ctx.start (W : World) : Ctx := { w := W, H := .empty, pl := fun _ => ⟨0, 0, 0, 0, false⟩, prot := fun _ => False, dfs := [], pin := 0 }

theorem start_own (W : World) (b : Nat) : ¬ (Ctx.start W).own b := own_none rfl rfl b

theorem start_inv (W : World) : Inv (.of W) (Ctx.start W) where
  fresh id es h := by simp [Ctx.start, Heap.empty, Heap.get, lk] at h
  nil id es h := by simp [Ctx.start, Heap.empty, Heap.get, lk] at h
  obj id es h := by simp [Ctx.start, Heap.empty, Heap.get, lk] at h
  sep i1 i2 e1 e2 h := by simp [Ctx.start, Heap.empty, Heap.get, lk] at h
  prot id es h := by simp [Ctx.start, Heap.empty, Heap.get, lk] at h
  szok id s h := by simp [Ctx.start, Heap.empty, Heap.sz, lk] at h
  protlt _ h := h.elim
  protge _ h := h.elim
  size := Nat.le_refl _
  glob b _ := ⟨rfl, start_own W b⟩
  lps l r h := by simp [Ctx.start, Heap.empty, lk] at h
  dfs d h := by simp [Ctx.start] at h
  dnd := .nil
  rod := fun _ _ => rfl
  spprot b h := absurd (.inr h) (start_own W b)
  pinB := rfl
  pinlt := Nat.zero_le _
  gh := trivial

theorem start_bad (W : World) (b : Nat) : ¬ (Ctx.start W).bad b := by
  rintro (h | h)
  · exact start_own W b h
  · exact h

theorem one_of_okWide {W : World} {base : Nat} {t : TypeId} {v : Value} {n : Nat} (hp : plainTy P n t = true) (h : Value.okWide P W .any base t v) : v.oneCell' = true ∨ ∃ cs, v = .agg cs ∧ ((∃ fs, P.underlying t = some (.struct fs)) ∨ ∃ m e, P.underlying t = some (.array m e)) := by
  cases n with
  | zero => simp [plainTy] at hp
  | succ n =>
    unfold plainTy at hp
    split at hp <;> rename_i hu
    · left; cases v <;> first | rfl | (simp [Value.okWide, Cell.okWide, Cell.ok, hu] at h)
    · left; cases v <;> first | rfl | (simp [Value.okWide, Cell.okWide, Cell.ok, hu] at h)
    · left; cases v <;> first | rfl | (simp [Value.okWide, Cell.okWide, Cell.ok, hu] at h)
    · left; cases v <;> first | rfl | (simp [Value.okWide, Cell.okWide, Cell.ok, hu] at h)
    · right
      simp only [Value.okWide, hu] at h
      obtain ⟨cs, rfl, _⟩ := h
      exact ⟨cs, rfl, .inl ⟨_, hu⟩⟩
    · right
      simp only [Value.okWide, hu] at h
      obtain ⟨cs, rfl, _⟩ := h
      exact ⟨cs, rfl, .inr ⟨_, _, hu⟩⟩
    · cases hp

theorem arg_rep {W : World} {base : Nat} {t : TypeId} {v : Value} {d : DataW H} {ps : List MemPlace} (n : Nat) (hp : plainTy P n t = true) (h : DataW.Trod enc P W 0 (fun _ => true) true t v d ps) (hform : Value.okWide P W .any base t v) : Rep (Ctx.start W) (avOf d) v := by
  obtain ⟨fuel, hf⟩ := h
  have hr := reads_of_trod (C := Ctx.start W) rfl (start_bad W) fuel n t v.cells.toList d ps hp hf
  rcases one_of_okWide hp hform with h1 | ⟨cs, rfl, hu⟩
  · rw [cells_one h1] at hr hf
    obtain ⟨c, g1, g2⟩ := hr.rep 0 ((avOf d).flat.getD 0 .any) (by
      have := hr.len
      simp only [List.length_cons, List.length_nil] at this
      rw [List.getD_eq_getElem?_getD]
      cases hq : (avOf d).flat with
      | nil => rw [hq] at this; simp at this
      | cons _ _ => rfl)
    simp only [List.getElem?_cons_zero, Option.some.injEq] at g1
    subst g1
    -- the datum is no aggregate
    have hd : (avOf d).flat = [avOf d] := by
      cases fuel with
      | zero => simp [DataW.trod] at hf
      | succ fuel =>
        cases n with
        | zero => simp [plainTy] at hp
        | succ n =>
          unfold plainTy at hp
          split at hp
          · rename_i hu; obtain ⟨b, _, rfl⟩ := trod_bool_inv hu hf; rfl
          · rename_i k hu; obtain ⟨q, _, rfl, _⟩ := trod_int_inv hu hf; rfl
          · rename_i hu; obtain ⟨q, _, rfl⟩ := trod_string_inv hu hf; rfl
          · rename_i e hu
            rcases trod_slice_inv hu hf with ⟨_, rfl⟩ | ⟨_, _, _, _, _, _, rfl, _⟩ <;> rfl
          · rename_i fs hu
            simp only [Value.okWide, hu] at hform
            obtain ⟨cs, rfl, _⟩ := hform
            simp [Value.oneCell'] at h1
          · rename_i m e hu
            simp only [Value.okWide, hu] at hform
            obtain ⟨cs, rfl, _⟩ := hform
            simp [Value.oneCell'] at h1
          · cases hp
    rw [hd] at g2
    exact g2
  · have hagg : ∃ l, avOf d = .agg l := by
      cases fuel with
      | zero => simp [DataW.trod] at hf
      | succ fuel =>
        rcases hu with ⟨fs, hu⟩ | ⟨m, e, hu⟩
        · obtain ⟨xs, _, rfl, _⟩ := trod_struct_inv hu hf; exact ⟨_, rfl⟩
        · obtain ⟨xs, _, rfl, _⟩ := trod_array_inv hu hf; exact ⟨_, rfl⟩
    obtain ⟨l, hl⟩ := hagg
    rw [hl] at hr ⊢
    have hlen := hr.len
    simp only [flat_agg, Value.cells, Array.length_toList] at hlen
    refine .agg l cs hlen.symm (fun k u hk => hr.one u (by simp [Value.cells]; exact Array.mem_of_getElem? hk)) (fun k x hx => ?_)
    obtain ⟨c, g1, g2⟩ := hr.rep k x hx
    have g1' : cs[k]? = some c := by simpa [Value.cells] using g1
    have hlt := (Array.getElem?_eq_some_iff.1 g1').1
    have : cs.getD k undef = c := by have := getD_of hlt; rw [g1'] at this; exact (Option.some.inj this).symm
    rw [this]; exact g2


def Dec (P : Program) (t : TypeId) {α : Type} (f : α → AV) (ok : α → Prop) : Prop :=
  ∀ {H : Type} (enc : TypeId × Value → H) (w : World) (spare : Nat → Bool) (held : Bool) (fuel : Nat) (cs : List Value) (d : DataW H) (ps : List MemPlace), DataW.trod enc P w 0 spare held fuel t cs = some (d, ps) → ∃ x, ok x ∧ avOf d = f x

theorem dec_u64 {t : TypeId} (hu : P.underlying t = some (.int .u64)) : Dec P t u64 (fun _ => True) := by
  intro H enc w spare held fuel cs d ps h
  cases fuel with
  | zero => simp [DataW.trod] at h
  | succ fuel =>
    obtain ⟨n, _, rfl, hwf⟩ := trod_int_inv hu h
    simp [Lit.wf, IntKind.min, IntKind.max, IntKind.signed, IntKind.bits] at hwf
    refine ⟨BitVec.ofInt 64 n, trivial, ?_⟩
    simp only [avOf, u64]
    have : ((BitVec.ofInt 64 n).toNat : Int) = n := by
      rw [BitVec.toNat_ofInt]; omega
    rw [this]

theorem dec_i64 {t : TypeId} (hu : P.underlying t = some (.int .i64)) : Dec P t i64 (fun n => -9223372036854775808 ≤ n ∧ n ≤ 9223372036854775807) := by
  intro H enc w spare held fuel cs d ps h
  cases fuel with
  | zero => simp [DataW.trod] at h
  | succ fuel =>
    obtain ⟨n, _, rfl, hwf⟩ := trod_int_inv hu h
    simp [Lit.wf, IntKind.min, IntKind.max, IntKind.signed, IntKind.bits] at hwf
    exact ⟨n, by omega, rfl⟩

theorem dec_slice {t e : TypeId} {α : Type} {f : α → AV} {ok : α → Prop} (hu : P.underlying t = some (.slice e)) (he : Dec P e f ok) : Dec P t (fun l : List α => AV.sl (l.map f)) (fun l => (∀ x ∈ l, ok x) ∧ l.length ≤ 9223372036854775807) := by
  intro H enc w spare held fuel cs d ps h
  cases fuel with
  | zero => simp [DataW.trod] at h
  | succ fuel =>
    rcases trod_slice_inv hu h with ⟨_, rfl⟩ | ⟨a, len, cap, elems, rest, _, rfl, hlc, hmx, hm⟩
    · exact ⟨[], by simp, rfl⟩
    · obtain ⟨l1, l2⟩ := mapM_some _ _ _ hm
      have key : ∀ (es : List (DataW H × List MemPlace)), (∀ z ∈ es, ∃ x, ok x ∧ avOf z.1 = f x) → ∃ l : List α, (∀ x ∈ l, ok x) ∧ l.length = es.length ∧ (es.map (·.1)).map avOf = l.map f := by
        intro es
        induction es with
        | nil => intro _; exact ⟨[], by simp, rfl, rfl⟩
        | cons z es ih =>
          intro hz
          obtain ⟨x, g1, g2⟩ := hz z (List.mem_cons_self ..)
          obtain ⟨l, g3, g4, g5⟩ := ih (fun y hy => hz y (List.mem_cons_of_mem _ hy))
          refine ⟨x :: l, ?_, by simp [g4], by simp only [List.map_cons, g2, g5]⟩
          intro y hy
          rcases List.mem_cons.1 hy with rfl | hy
          · exact g1
          · exact g3 y hy
      obtain ⟨l, g1, g2, g3⟩ := key elems (fun z hz => by
        obtain ⟨k, hk⟩ := List.getElem?_of_mem hz
        have hlt := (List.getElem?_eq_some_iff.1 hk).1
        rw [l1] at hlt
        have hlt' : k < len := by simpa using hlt
        obtain ⟨y, q1, q2⟩ := l2 k k (by simp [hlt'])
        rw [hk] at q1; cases q1
        obtain ⟨seg, _, q4⟩ := Option.bind_eq_some_iff.1 q2
        exact he enc w spare held fuel seg z.1 z.2 q4)
      refine ⟨l, ⟨g1, ?_⟩, ?_⟩
      · rw [g2, l1]
        have : cap ≤ 9223372036854775807 := hmx
        simp; omega
      · simp only [avOf, avAll_map, g3]

theorem dec_agg {t : TypeId} {fs : Array Field} (hu : P.underlying t = some (.struct fs)) {H : Type} {enc : TypeId × Value → H} {w : World} {spare : Nat → Bool} {held : Bool} {fuel : Nat} {cs : List Value} {d : DataW H} {ps : List MemPlace} (h : DataW.trod enc P w 0 spare held fuel t cs = some (d, ps)) :
    ∃ fuel' xs, avOf d = .agg (cellsAll (xs.map (·.1))) ∧ fs.toList.mapM (fun f => DataW.trod enc P w 0 spare held fuel' f.type ((cs.drop f.offset).take (P.cellsOf f.type))) = some xs := by
  cases fuel with
  | zero => simp [DataW.trod] at h
  | succ fuel =>
    obtain ⟨xs, _, rfl, hm⟩ := trod_struct_inv hu h
    exact ⟨fuel, xs, rfl, hm⟩

theorem law_calls {f : FuncId} {fn : Func} {s : ChangeSpec} {W : World} {args : Array Value} {ds gs : List (DataW H)} {before : List MemPlace} {tb : TypeId} {xs : List AV} (hf : Fun1 P W f xs (bl true)) (hsz : args.size = xs.length)
    (hrep : ∀ (k : Nat) (x : AV), xs[k]? = some x → Rep (Ctx.start W) x (args.getD k undef)) (hW : DataW.Whole enc P fn.params.toList s.vars false W args.toList ds gs before)
    (hv : s.vars = []) (hfn : s.fn H (ds ++ gs) = ⟨[.lit (.bool true)], ds, []⟩) (hres : fn.resultTypes = #[tb]) (hb : P.underlying tb = some .bool) (hl : laidOutB P = true) (hr : ∀ t ∈ fn.params.toList, P.readableRec t = true ∧ t < P.types.size) :
    Calls P f args W fun e W' => ∃ v, e = .returned v ∧ s.post enc P fn false true false false W args v W' := by
  refine (hf.runs (Ctx.start W) args (start_inv W) rfl rfl hsz hrep).mono ?_
  rintro e W' ⟨v, C', rfl, rfl, hE, _, hv'⟩
  obtain rfl := rep_toV (v := .bool true) rfl hv'
  exact ⟨_, rfl, law_post hW hv hfn hres hb hl hr (below_of_ext hE (start_own W))⟩

end
end Go.Av
end

section
/- From a row's argument to what a proof sees of it. -/
namespace Go.Av
open Go.ChangeShapes Go.WideShapes Go.ChangeAt Go.RowKit
variable {P : Program} {H : Type} {enc : TypeId × Value → H}

theorem arg_dec {W : World} {base : Nat} {t : TypeId} {v : Value} {d : DataW H} {ps : List MemPlace} {α : Type} {f : α → AV} {ok : α → Prop} (n : Nat) (hp : plainTy P n t = true) (hd : Dec P t f ok) (h : DataW.Trod enc P W 0 (fun _ => true) true t v d ps) (hform : Value.okWide P W .any base t v) : ∃ x, ok x ∧ Rep (Ctx.start W) (f x) v := by
  have h1 := arg_rep n hp h hform
  obtain ⟨fuel, hf⟩ := h
  obtain ⟨x, h2, h3⟩ := hd enc W _ _ fuel _ d ps hf
  exact ⟨x, h2, h3 ▸ h1⟩

theorem params_ok {fn : Func} (h : (fn.params.toList.all fun t => P.readableRec t && decide (t < P.types.size)) = true) : ∀ t ∈ fn.params.toList, P.readableRec t = true ∧ t < P.types.size := fun t ht => by
  have := List.all_eq_true.1 h t ht
  simpa using this

theorem tab_of {W : World} {name : String} {l : List Nat} {g : Nat} (h : Lib.TabIs P W name .u8 (l.map fun (k : Nat) => (k : Int))) (hg : P.globalNamed name = some g) : ∀ (j : Nat) (v : Value), (l.map fun (k : Nat) => Value.int .u8 (k : Int))[j]? = some v → W.cell? ⟨g, j, none⟩ = some v ∧ v.oneCell' = true := fun j v hj => by
  simp only [List.getElem?_map, Option.map_eq_some_iff] at hj
  obtain ⟨k, hk, rfl⟩ := hj
  have hlt := (List.getElem?_eq_some_iff.1 hk).1
  have := h.cell hg j (by simpa using hlt)
  rw [this]
  refine ⟨?_, rfl⟩
  simp [List.getD, hk]

theorem reps1 {C : Ctx} {x0 : AV} {v0 : Value} (h0 : Rep C x0 v0) : ∀ (k : Nat) (x : AV), [x0][k]? = some x → Rep C x (#[v0].getD k undef) := fun k x h => by
  match k with
  | 0 => cases h; exact h0
  | k + 1 => cases h
end Go.Av
end
