/- What a proof sees of a run, and the rules by which it goes through a text. -/
import Derived.Test.YtdeepljikmgjjaaBase
import Derived.Carry
import Derived.ProofKit
import Derived.OpenShut
import Derived.Lib.LaidTab
set_option linter.unusedSimpArgs false
set_option linter.unusedVariables false
section
/- From the reading of a claim's arguments to what the proof sees of them; and from what a law's function does to what its row asks. -/
namespace Go.Av
open Go.RowKit (Below)

mutual
def avOf {H : Type} : DataW H → AV
  | .lit (.bool b) => .imm (.bool b)
  | .lit (.int k n) => .imm (.int k n)
  | .lit (.string bs) => .imm (.string ⟨bs.toArray⟩)
  | .nil => .sl []
  | .slice es _ => .sl (avAll es)
  | .agg ps => .agg (cellsAll ps)
  | _ => .any
def avAll {H : Type} : List (DataW H) → List AV
  | [] => []
  | d :: r => avOf d :: avAll r
def cellsAll {H : Type} : List (DataW H) → List AV
  | [] => []
  | d :: r => (avOf d).flat ++ cellsAll r
end

theorem avAll_map {H : Type} (l : List (DataW H)) : avAll l = l.map avOf := by
  induction l with
  | nil => rfl
  | cons d r ih => simp [avAll, ih]

def plainTy (P : Program) : Nat → TypeId → Bool
  | 0, _ => false
  | n + 1, t =>
    match P.underlying t with
    | some .bool | some (.int _) | some .string => true
    | some (.slice e) => P.cellsOf e != 0 && plainTy P n e
    | some (.struct fs) => fs.toList.all (fun f => plainTy P n f.type) && (fs.toList.foldl (fun (acc : Option Nat) f => acc.bind fun a => if f.offset == a then some (a + P.cellsOf f.type) else none) (some 0)) == some (P.cellsOf t)
    | some (.array m e) => plainTy P n e && m * P.cellsOf e == P.cellsOf t
    | _ => false

theorem flat_agg (cs : List AV) : (AV.agg cs).flat = cs := rfl

structure ReadsAs (C : Ctx) (cs : List Value) (x : AV) : Prop where
  len : x.flat.length = cs.length
  one : ∀ c ∈ cs, c.oneCell' = true
  rep : ∀ (k : Nat) (y : AV), x.flat[k]? = some y → ∃ c, cs[k]? = some c ∧ Rep C y c

theorem mapM_some {α β : Type} (f : α → Option β) : ∀ (l : List α) (ys : List β), l.mapM f = some ys → ys.length = l.length ∧ ∀ (k : Nat) (x : α), l[k]? = some x → ∃ y, ys[k]? = some y ∧ f x = some y := by
  intro l
  induction l with
  | nil => intro ys h; simp only [List.mapM_nil, Option.pure_def, Option.some.injEq] at h; subst h; exact ⟨rfl, fun k x hk => by simp at hk⟩
  | cons y l ih =>
    intro ys h
    rw [List.mapM_cons] at h
    simp only [Option.bind_eq_bind, Option.bind_eq_some_iff, Option.pure_def, Option.some.injEq] at h
    obtain ⟨z, hz, zs, hzs, rfl⟩ := h
    obtain ⟨h1, h2⟩ := ih zs hzs
    refine ⟨by simp [h1], fun k x hk => ?_⟩
    cases k with
    | zero => simp at hk; subst hk; exact ⟨z, rfl, hz⟩
    | succ k => simp at hk; simpa using h2 k x hk

theorem readsAs_one {C : Ctx} {c : Value} {x : AV} (h1 : c.oneCell' = true) (hr : Rep C x c) : ReadsAs C [c] x := by
  have hf := rep_flat_one hr h1
  refine ⟨by rw [hf]; rfl, fun c' hc => by simp at hc; subst hc; exact h1, fun k y hk => ?_⟩
  rw [hf] at hk
  cases k with
  | zero => simp at hk; subst hk; exact ⟨c, rfl, hr⟩
  | succ k => simp at hk

section
variable {H : Type} {enc : TypeId × Value → H} {P : Program} {w : World} {spare : Nat → Bool} {held : Bool} {C : Ctx}

theorem reads_segs {ι : Type} (ty : ι → TypeId) (off : ι → Nat) (fuel : Nat) (cs : List Value) :
    ∀ (l : List ι) (acc : Nat) (xs : List (DataW H × List MemPlace)), (∀ x ∈ l, ∀ (seg : List Value) (y : DataW H × List MemPlace), DataW.trod enc P w 0 spare held fuel (ty x) seg = some y → seg.length = P.cellsOf (ty x) → ReadsAs C seg (avOf y.1)) → (∀ (i : Nat) (x : ι), l[i]? = some x → off x = acc + ((l.take i).map fun y => P.cellsOf (ty y)).sum) → acc + (l.map fun y => P.cellsOf (ty y)).sum = cs.length →
      l.mapM (fun x => DataW.trod enc P w 0 spare held fuel (ty x) ((cs.drop (off x)).take (P.cellsOf (ty x)))) = some xs → ReadsAs C (cs.drop acc) (.agg (cellsAll (xs.map (·.1)))) := by
  intro l
  induction l with
  | nil =>
    intro acc xs _ _ hlen h
    simp only [List.mapM_nil, Option.pure_def, Option.some.injEq] at h; subst h
    have : cs.drop acc = [] := List.drop_eq_nil_of_le (by simp at hlen; omega)
    rw [this]
    exact ⟨rfl, fun c hc => (by cases hc), fun k y hk => (by simp [cellsAll, AV.flat] at hk)⟩
  | cons x l ihl =>
    intro acc xs ih hoff hlen h
    rw [List.mapM_cons] at h
    simp only [Option.bind_eq_bind, Option.bind_eq_some_iff, Option.pure_def, Option.some.injEq] at h
    obtain ⟨z, hz, zs, hzs, rfl⟩ := h
    have h0 : off x = acc := by have := hoff 0 x rfl; simpa using this
    simp only [List.map_cons, List.sum_cons] at hlen
    rw [h0] at hz
    have hseg : ((cs.drop acc).take (P.cellsOf (ty x))).length = P.cellsOf (ty x) := by simp; omega
    have r1 := ih x (List.mem_cons_self ..) _ z hz hseg
    have r2 := ihl (acc + P.cellsOf (ty x)) zs (fun y hy => ih y (List.mem_cons_of_mem _ hy)) (fun i y hy => by
      have := hoff (i + 1) y (by simpa using hy)
      rw [this]; simp only [List.take_succ_cons, List.map_cons, List.sum_cons]; omega) (by omega) hzs
    have hsplit : cs.drop acc = (cs.drop acc).take (P.cellsOf (ty x)) ++ cs.drop (acc + P.cellsOf (ty x)) := by
      rw [← List.drop_drop]; exact (List.take_append_drop _ _).symm
    rw [hsplit]
    have l1 := r1.len
    have l2 := r2.len
    simp only [flat_agg] at l2
    refine ⟨by simp only [flat_agg, List.map_cons, cellsAll, List.length_append, l1, l2], fun c hc => ?_, fun k y hk => ?_⟩
    · rcases List.mem_append.1 hc with h | h
      · exact r1.one c h
      · exact r2.one c h
    · simp only [flat_agg, List.map_cons, cellsAll] at hk
      by_cases hlt : k < (avOf z.1).flat.length
      · rw [List.getElem?_append_left hlt] at hk
        obtain ⟨c, g1, g2⟩ := r1.rep k y hk
        exact ⟨c, by rw [List.getElem?_append_left (by omega)]; exact g1, g2⟩
      · rw [List.getElem?_append_right (by omega)] at hk
        obtain ⟨c, g1, g2⟩ := r2.rep _ y hk
        exact ⟨c, by rw [List.getElem?_append_right (by omega), ← l1]; exact g1, g2⟩

theorem foldl_contig (P : Program) : ∀ (fs : List Field) (a tot : Nat), fs.foldl (fun (acc : Option Nat) f => acc.bind fun a => if f.offset == a then some (a + P.cellsOf f.type) else none) (some a) = some tot →
    (∀ (i : Nat) (x : Field), fs[i]? = some x → x.offset = a + ((fs.take i).map fun y => P.cellsOf y.type).sum) ∧ a + (fs.map fun y => P.cellsOf y.type).sum = tot := by
  intro fs
  induction fs with
  | nil => intro a tot h; simp only [List.foldl_nil, Option.some.injEq] at h; subst h; exact ⟨fun i x h => by simp at h, by simp⟩
  | cons f fs ih =>
    intro a tot h
    simp only [List.foldl_cons, Option.bind_some] at h
    by_cases hf : f.offset == a
    · rw [if_pos hf] at h
      obtain ⟨h1, h2⟩ := ih _ _ h
      have hf' : f.offset = a := by simpa using hf
      refine ⟨fun i x hx => ?_, by simp only [List.map_cons, List.sum_cons]; omega⟩
      cases i with
      | zero => simp at hx; subst hx; simpa using hf'
      | succ i =>
        simp only [List.getElem?_cons_succ] at hx
        rw [h1 i x hx]
        simp only [List.take_succ_cons, List.map_cons, List.sum_cons]; omega
    · rw [if_neg hf] at h
      have : ∀ (l : List Field), l.foldl (fun (acc : Option Nat) f => acc.bind fun a => if f.offset == a then some (a + P.cellsOf f.type) else none) none = none := by
        intro l; induction l with
        | nil => rfl
        | cons _ _ ih => simpa using ih
      rw [this] at h; cases h

theorem trod_slice_inv {fuel : Nat} {t e : TypeId} {cs : List Value} {d : DataW H} {ps : List MemPlace} (hu : P.underlying t = some (.slice e)) (h : DataW.trod enc P w 0 spare held (fuel + 1) t cs = some (d, ps)) :
    (cs = [.slice none 0 0] ∧ d = .nil) ∨ ∃ a len cap elems rest, cs = [.slice (some a) len cap] ∧ d = .slice (elems.map (·.1)) rest ∧ len ≤ cap ∧ cap ≤ maxLen ∧
      (List.range len).mapM (fun i => (w.cells? 0 (a.add (i * P.cellsOf e)) (P.cellsOf e)).bind (DataW.trod enc P w 0 spare held fuel e)) = some elems := by
  rcases cs with _ | ⟨c, _ | ⟨c', cs⟩⟩
  · simp [DataW.trod, hu] at h
  · cases c <;> try (simp [DataW.trod, hu] at h; done)
    rename_i a len cap
    cases a with
    | none =>
      cases len <;> cases cap <;> simp [DataW.trod, hu] at h
      exact .inl ⟨rfl, h.1.symm⟩
    | some a =>
      simp only [DataW.trod, hu] at h
      split at h
      · rename_i hc
        simp only [Option.bind_eq_some_iff, Option.map_eq_some_iff, Prod.mk.injEq] at h
        obtain ⟨elems, h1, rest, h2, rfl, _⟩ := h
        exact .inr ⟨a, len, cap, elems, _, rfl, rfl, hc.2.1, hc.2.2, h1⟩
      · cases h
  · simp [DataW.trod, hu] at h

theorem trod_bool_inv {fuel : Nat} {t : TypeId} {cs : List Value} {d : DataW H} {ps : List MemPlace} (hu : P.underlying t = some .bool) (h : DataW.trod enc P w 0 spare held (fuel + 1) t cs = some (d, ps)) : ∃ b, cs = [.bool b] ∧ d = .lit (.bool b) := by
  rcases cs with _ | ⟨c, _ | ⟨c', cs⟩⟩
  · simp [DataW.trod, hu] at h
  · cases c <;> try (simp [DataW.trod, hu] at h; done)
    rename_i b
    simp only [DataW.trod, hu, Option.some.injEq, Prod.mk.injEq] at h
    exact ⟨b, rfl, h.1.symm⟩
  · simp [DataW.trod, hu] at h

theorem trod_int_inv {fuel : Nat} {t : TypeId} {k : IntKind} {cs : List Value} {d : DataW H} {ps : List MemPlace} (hu : P.underlying t = some (.int k)) (h : DataW.trod enc P w 0 spare held (fuel + 1) t cs = some (d, ps)) : ∃ n, cs = [.int k n] ∧ d = .lit (.int k n) ∧ (Lit.int k n).wf = true := by
  rcases cs with _ | ⟨c, _ | ⟨c', cs⟩⟩
  · simp [DataW.trod, hu] at h
  · cases c <;> try (simp [DataW.trod, hu] at h; done)
    rename_i k' n
    simp only [DataW.trod, hu] at h
    split at h
    · rename_i hk
      obtain ⟨rfl, hwf⟩ := hk
      simp only [Option.some.injEq, Prod.mk.injEq] at h
      exact ⟨n, rfl, h.1.symm, hwf⟩
    · cases h
  · simp [DataW.trod, hu] at h

theorem trod_string_inv {fuel : Nat} {t : TypeId} {cs : List Value} {d : DataW H} {ps : List MemPlace} (hu : P.underlying t = some .string) (h : DataW.trod enc P w 0 spare held (fuel + 1) t cs = some (d, ps)) : ∃ s, cs = [.string s] ∧ d = .lit (.string s.data.toList) := by
  rcases cs with _ | ⟨c, _ | ⟨c', cs⟩⟩
  · simp [DataW.trod, hu] at h
  · cases c <;> try (simp [DataW.trod, hu] at h; done)
    rename_i s
    simp only [DataW.trod, hu] at h
    split at h
    · simp only [Option.some.injEq, Prod.mk.injEq] at h
      exact ⟨s, rfl, h.1.symm⟩
    · cases h
  · simp [DataW.trod, hu] at h

theorem trod_struct_inv {fuel : Nat} {t : TypeId} {fs : Array Field} {cs : List Value} {d : DataW H} {ps : List MemPlace} (hu : P.underlying t = some (.struct fs)) (h : DataW.trod enc P w 0 spare held (fuel + 1) t cs = some (d, ps)) :
    ∃ xs, cs.length = P.cellsOf t ∧ d = .agg (xs.map (·.1)) ∧ fs.toList.mapM (fun f => DataW.trod enc P w 0 spare held fuel f.type ((cs.drop f.offset).take (P.cellsOf f.type))) = some xs := by
  have key : (if cs.length = P.cellsOf t then (fs.toList.mapM fun f => DataW.trod enc P w 0 spare held fuel f.type ((cs.drop f.offset).take (P.cellsOf f.type))).map fun xs => ((.agg (xs.map (·.1)) : DataW H), xs.flatMap (·.2)) else none) = some (d, ps) := by
    rcases cs with _ | ⟨c, _ | ⟨c', cs⟩⟩
    · simpa only [DataW.trod, hu] using h
    · cases c <;> simpa only [DataW.trod, hu] using h
    · simpa only [DataW.trod, hu] using h
  split at key
  · rename_i hl
    obtain ⟨xs, h1, h2⟩ := Option.map_eq_some_iff.1 key
    simp only [Prod.mk.injEq] at h2
    exact ⟨xs, hl, h2.1.symm, h1⟩
  · cases key

theorem trod_array_inv {fuel : Nat} {t e : TypeId} {m : Nat} {cs : List Value} {d : DataW H} {ps : List MemPlace} (hu : P.underlying t = some (.array m e)) (h : DataW.trod enc P w 0 spare held (fuel + 1) t cs = some (d, ps)) :
    ∃ xs, cs.length = P.cellsOf t ∧ d = .agg (xs.map (·.1)) ∧ (List.range m).mapM (fun i => DataW.trod enc P w 0 spare held fuel e ((cs.drop (i * P.cellsOf e)).take (P.cellsOf e))) = some xs := by
  have key : (if cs.length = P.cellsOf t then ((List.range m).mapM fun i => DataW.trod enc P w 0 spare held fuel e ((cs.drop (i * P.cellsOf e)).take (P.cellsOf e))).map fun xs => ((.agg (xs.map (·.1)) : DataW H), xs.flatMap (·.2)) else none) = some (d, ps) := by
    rcases cs with _ | ⟨c, _ | ⟨c', cs⟩⟩
    · simpa only [DataW.trod, hu] using h
    · cases c <;> simpa only [DataW.trod, hu] using h
    · simpa only [DataW.trod, hu] using h
  split at key
  · rename_i hl
    obtain ⟨xs, h1, h2⟩ := Option.map_eq_some_iff.1 key
    simp only [Prod.mk.injEq] at h2
    exact ⟨xs, hl, h2.1.symm, h1⟩
  · cases key

theorem cells?_get {a : Addr} {n : Nat} {seg : List Value} (h : w.cells? 0 a n = some seg) : seg.length = n ∧ ∀ (j : Nat) (c : Value), seg[j]? = some c → w.cell? (a.add j) = some c := by
  unfold World.cells? at h
  rw [if_pos (Nat.zero_le _)] at h
  obtain ⟨h1, h2⟩ := mapM_some _ _ _ h
  refine ⟨by simpa using h1, fun j c hc => ?_⟩
  have hj : j < n := by have := (List.getElem?_eq_some_iff.1 hc).1; rw [h1] at this; simpa using this
  obtain ⟨y, g1, g2⟩ := h2 j j (by simp [hj])
  rw [g1] at hc; cases hc; exact g2

theorem reads_of_trod (hw : C.w = w) (hbad : ∀ b, ¬ C.bad b) : ∀ (fuel n : Nat) (t : TypeId) (cs : List Value) (d : DataW H) (ps : List MemPlace), plainTy P n t = true →
    DataW.trod enc P w 0 spare held fuel t cs = some (d, ps) → ReadsAs C cs (avOf d) := by
  intro fuel
  induction fuel with
  | zero => intro n t cs d ps _ h; simp [DataW.trod] at h
  | succ fuel ih =>
    intro n t cs d ps hp h
    cases n with
    | zero => simp [plainTy] at hp
    | succ n =>
    unfold plainTy at hp
    split at hp
    · rename_i hu
      obtain ⟨b, rfl, rfl⟩ := trod_bool_inv hu h
      exact readsAs_one rfl (.imm _ rfl)
    · rename_i k hu
      obtain ⟨q, rfl, rfl, _⟩ := trod_int_inv hu h
      exact readsAs_one rfl (.imm _ rfl)
    · rename_i hu
      obtain ⟨q, rfl, rfl⟩ := trod_string_inv hu h
      refine readsAs_one (c := .string q) rfl ?_
      have : (⟨q.data.toList.toArray⟩ : ByteArray) = q := by cases q; simp
      simp only [avOf, this]
      exact .imm _ rfl
    · -- slice
      rename_i e hu
      simp only [Bool.and_eq_true, bne_iff_ne, ne_eq] at hp
      obtain ⟨hs0, hpe⟩ := hp
      rcases trod_slice_inv hu h with ⟨rfl, rfl⟩ | ⟨a, len, cap, elems, rest, rfl, rfl, hlc, _, hm⟩
      · exact readsAs_one rfl (.slNil _ _)
      · obtain ⟨l1, l2⟩ := mapM_some _ _ _ hm
        simp only [List.length_range] at l1
        refine readsAs_one rfl ?_
        simp only [avOf, avAll_map, List.map_map]
        subst l1
        by_cases h0 : elems = []
        · subst h0; exact .slNil _ _
        · have hpos : 0 < elems.length := List.length_pos_iff.2 h0
          obtain ⟨b, off, sp⟩ := a
          -- each element's cells
          have hel : ∀ i, i < elems.length → ∃ seg z, elems[i]? = some z ∧ w.cells? 0 ((⟨b, off, sp⟩ : Addr).add (i * P.cellsOf e)) (P.cellsOf e) = some seg ∧ ReadsAs C seg (avOf z.1) := fun i hi => by
            obtain ⟨z, g1, g2⟩ := l2 i i (by simp [hi])
            obtain ⟨seg, g3, g4⟩ := Option.bind_eq_some_iff.1 g2
            exact ⟨seg, z, g1, g3, ih n e seg z.1 z.2 hpe g4⟩
          have hsp : sp = none := by
            obtain ⟨seg, z, _, g2, _⟩ := hel 0 hpos
            obtain ⟨q1, q2⟩ := cells?_get g2
            have hs : 0 < seg.length := by omega
            have := q2 0 _ (List.getElem?_eq_getElem hs)
            rw [Nat.zero_mul] at this
            cases sp with
            | none => rfl
            | some x => simp [Addr.add, World.cell?] at this; split at this <;> simp at this
          subst hsp
          have cell : ∀ (i j : Nat) (q x : AV), (elems.map (avOf ∘ (·.1)))[i]? = some q → q.flat[j]? = some x → ∃ v, Holds C.w b (off + i * P.cellsOf e + j) v ∧ Rep C x v := fun i j q x hq hx => by
            have hi : i < elems.length := by have := (List.getElem?_eq_some_iff.1 hq).1; simpa using this
            obtain ⟨seg, z, g1, g2, g3⟩ := hel i hi
            simp only [List.getElem?_map, g1, Option.map_some, Function.comp, Option.some.injEq] at hq
            subst hq
            obtain ⟨c, g4, g5⟩ := g3.rep j x hx
            have := (cells?_get g2).2 j c g4
            rw [addr_add, addr_add] at this
            exact ⟨c, ⟨by rw [hw]; exact this, g3.one c (List.mem_of_getElem? g4)⟩, g5⟩
          have hfl : ∀ (i : Nat) (q : AV), (elems.map (avOf ∘ (·.1)))[i]? = some q → q.flat.length = P.cellsOf e := fun i q hq => by
            have hi : i < elems.length := by have := (List.getElem?_eq_some_iff.1 hq).1; simpa using this
            obtain ⟨seg, z, g1, g2, g3⟩ := hel i hi
            simp only [List.getElem?_map, g1, Option.map_some, Function.comp, Option.some.injEq] at hq
            subst hq
            rw [g3.len]; exact (cells?_get g2).1
          have hb : b < C.w.heap.size := by
            obtain ⟨seg, z, g1, g2, g3⟩ := hel 0 hpos
            have hs : 0 < (avOf z.1).flat.length := by
              rw [hfl 0 _ (by simp [g1])]; omega
            obtain ⟨v, g4, _⟩ := cell 0 0 _ _ (by simp [g1]) (List.getElem?_eq_getElem hs)
            have := g4.1
            unfold World.cell? at this
            split at this
            · rename_i h9; exact (Array.getElem?_eq_some_iff.1 h9).1
            · cases this
          have hlen : (elems.map (avOf ∘ (·.1))).length = elems.length := by simp
          have := Rep.sl (C := C) (elems.map (avOf ∘ (·.1))) b off (P.cellsOf e) cap (fun i j => (C.w.cell? ⟨b, off + i * P.cellsOf e + j, none⟩).getD undef) hb (hbad b) (by rw [hlen]; exact hlc) hfl
            (fun i j q x hq hx => by
              obtain ⟨v, g1, g2⟩ := cell i j q x hq hx
              rw [g1.1]; exact g1)
            (fun i j q x hq hx => by
              obtain ⟨v, g1, g2⟩ := cell i j q x hq hx
              rw [g1.1]; exact g2)
          rw [hlen] at this
          exact this
    · -- struct
      rename_i fs hu
      rw [Bool.and_eq_true, List.all_eq_true] at hp
      obtain ⟨hpf, hct⟩ := hp
      rw [beq_iff_eq] at hct
      obtain ⟨xs, hl, rfl, hm⟩ := trod_struct_inv hu h
      obtain ⟨c1, c2⟩ := foldl_contig P fs.toList 0 _ hct
      have := reads_segs (C := C) (P := P) (w := w) (enc := enc) (spare := spare) (held := held) (fun f : Field => f.type) (fun f => f.offset) fuel cs
        fs.toList 0 xs (fun x hx seg y hy _ => ih n x.type seg y.1 y.2 (hpf x hx) hy) c1 (by rw [hl]; exact c2) hm
      simpa [avOf] using this
    · -- array
      rename_i m e hu
      simp only [Bool.and_eq_true, beq_iff_eq] at hp
      obtain ⟨hpe, hct⟩ := hp
      obtain ⟨xs, hl, rfl, hm⟩ := trod_array_inv hu h
      have hsum : ∀ (l : List Nat), (l.map fun _ => P.cellsOf e).sum = l.length * P.cellsOf e := by
        intro l; induction l with
        | nil => simp
        | cons _ l ih => simp [ih, Nat.add_mul, Nat.add_comm]
      have := reads_segs (C := C) (P := P) (w := w) (enc := enc) (spare := spare) (held := held) (fun _ : Nat => e) (fun i => i * P.cellsOf e) fuel cs
        (List.range m) 0 xs (fun x _ seg y hy _ => ih n e seg y.1 y.2 hpe hy)
        (fun i x hx => by
          have hi : i < m := by have := (List.getElem?_eq_some_iff.1 hx).1; simpa using this
          have hx' : x = i := by simp [hi] at hx; exact hx.symm
          subst hx'
          rw [hsum]; simp; rw [Nat.min_eq_left (by omega)]) (by rw [hsum, hl]; simpa using hct) hm
      simpa [avOf] using this
    · cases hp
end
end Go.Av
end

section
/- From what a law's function does to what its row asks. -/
namespace Go.Av
open Go.RowKit (Below)

section
variable {H : Type} {enc : TypeId × Value → H} {P : Program}

theorem trodAll_below (hl : laidOutB P = true) {W W' : World} (hb : Below W.heap.size W W') : ∀ {ts : List TypeId} {vs : List Value} {ds : List (DataW H)} {ps : List MemPlace}, (∀ t ∈ ts, P.readableRec t = true ∧ t < P.types.size) →
    DataW.TrodAll enc P W 0 (fun _ => true) true ts vs ds ps → (∀ x ∈ ps, x.block < W.heap.size) → DataW.TrodAll enc P W' 0 (fun b => decide (b < W.heap.size)) true ts vs ds ps
  | [], [], [], ps, _, h, _ => h
  | t :: ts, v :: vs, d :: ds, ps, hr, h, hlt => by
    obtain ⟨p, q, h1, h2, rfl⟩ := h
    obtain ⟨r1, r2⟩ := hr t (List.mem_cons_self ..)
    exact ⟨p, q, RowKit.Below.trod hl r1 r2 h1 hb (fun x hx => hlt x (List.mem_append_left _ hx)), trodAll_below hl hb (fun t ht => hr t (List.mem_cons_of_mem _ ht)) h2 (fun x hx => hlt x (List.mem_append_right _ hx)), rfl⟩

theorem law_post {fn : Func} {s : ChangeSpec} {W W' : World} {args : Array Value} {ds gs : List (DataW H)} {before : List MemPlace} {tb : TypeId} (hW : DataW.Whole enc P fn.params.toList s.vars false W args.toList ds gs before)
    (hv : s.vars = []) (hfn : s.fn H (ds ++ gs) = ⟨[.lit (.bool true)], ds, []⟩) (hres : fn.resultTypes = #[tb]) (hb : P.underlying tb = some .bool) (hl : laidOutB P = true) (hr : ∀ t ∈ fn.params.toList, P.readableRec t = true ∧ t < P.types.size)
    (hbel : Below W.heap.size W W') : s.post enc P fn false true false false W args (.bool true) W' := by
  have hlt := fun p hp => hW.lt p hp
  have hW' := hW
  obtain ⟨p, q, h1, h2, rfl, h3, h4⟩ := hW
  refine ⟨ds, gs, p ++ q, [], p, [], hW', ?_, ?_, ?_, hbel.frame _, fun h => by cases h⟩
  · rw [hfn, hres]
    show DataW.TrodAll enc P W' _ _ _ [tb] [.bool true] [.lit (.bool true)] []
    exact ⟨[], [], RowKit.shut_bool hb true, rfl, rfl⟩
  · rw [hfn]
    exact trodAll_below hl hbel hr h1 (fun x hx => hlt x (List.mem_append_left _ hx))
  · rw [hfn, hv]; rfl

def Ctx.start (W : World) : Ctx := { w := W, H := .empty, pl := fun _ => ⟨0, 0, 0, 0, false⟩, prot := fun _ => False, dfs := [], pin := 0 }

theorem start_own (W : World) (b : Nat) : ¬ (Ctx.start W).own b := own_none rfl rfl b

theorem start_inv (W : World) : Inv (.of W) (Ctx.start W) where
  fresh id es h := by simp [Ctx.start, Heap.empty, Heap.get, lk] at h
  nil id es h := by simp [Ctx.start, Heap.empty, Heap.get, lk] at h
  obj id es h := by simp [Ctx.start, Heap.empty, Heap.get, lk] at h
  sep i1 i2 e1 e2 h := by simp [Ctx.start, Heap.empty, Heap.get, lk] at h
  prot id es h := by simp [Ctx.start, Heap.empty, Heap.get, lk] at h
  szok id s h := by simp [Ctx.start, Heap.empty, Heap.sz, lk] at h
  protlt _ h := h.elim
  protge _ h := h.elim
  size := Nat.le_refl _
  glob b _ := ⟨rfl, start_own W b⟩
  lps l r h := by simp [Ctx.start, Heap.empty, lk] at h
  dfs d h := by simp [Ctx.start] at h
  dnd := .nil
  rod := fun _ _ => rfl
  spprot b h := absurd (.inr h) (start_own W b)
  pinB := rfl
  pinlt := Nat.zero_le _
  gh := trivial

theorem start_bad (W : World) (b : Nat) : ¬ (Ctx.start W).bad b := by
  rintro (h | h)
  · exact start_own W b h
  · exact h

theorem one_of_okWide {W : World} {base : Nat} {t : TypeId} {v : Value} {n : Nat} (hp : plainTy P n t = true) (h : Value.okWide P W .any base t v) : v.oneCell' = true ∨ ∃ cs, v = .agg cs ∧ ((∃ fs, P.underlying t = some (.struct fs)) ∨ ∃ m e, P.underlying t = some (.array m e)) := by
  cases n with
  | zero => simp [plainTy] at hp
  | succ n =>
    unfold plainTy at hp
    split at hp <;> rename_i hu
    · left; cases v <;> first | rfl | (simp [Value.okWide, Cell.okWide, Cell.ok, hu] at h)
    · left; cases v <;> first | rfl | (simp [Value.okWide, Cell.okWide, Cell.ok, hu] at h)
    · left; cases v <;> first | rfl | (simp [Value.okWide, Cell.okWide, Cell.ok, hu] at h)
    · left; cases v <;> first | rfl | (simp [Value.okWide, Cell.okWide, Cell.ok, hu] at h)
    · right
      simp only [Value.okWide, hu] at h
      obtain ⟨cs, rfl, _⟩ := h
      exact ⟨cs, rfl, .inl ⟨_, hu⟩⟩
    · right
      simp only [Value.okWide, hu] at h
      obtain ⟨cs, rfl, _⟩ := h
      exact ⟨cs, rfl, .inr ⟨_, _, hu⟩⟩
    · cases hp

theorem arg_rep {W : World} {base : Nat} {t : TypeId} {v : Value} {d : DataW H} {ps : List MemPlace} (n : Nat) (hp : plainTy P n t = true) (h : DataW.Trod enc P W 0 (fun _ => true) true t v d ps) (hform : Value.okWide P W .any base t v) : Rep (Ctx.start W) (avOf d) v := by
  obtain ⟨fuel, hf⟩ := h
  have hr := reads_of_trod (C := Ctx.start W) rfl (start_bad W) fuel n t v.cells.toList d ps hp hf
  rcases one_of_okWide hp hform with h1 | ⟨cs, rfl, hu⟩
  · rw [cells_one h1] at hr hf
    obtain ⟨c, g1, g2⟩ := hr.rep 0 ((avOf d).flat.getD 0 .any) (by
      have := hr.len
      simp only [List.length_cons, List.length_nil] at this
      rw [List.getD_eq_getElem?_getD]
      cases hq : (avOf d).flat with
      | nil => rw [hq] at this; simp at this
      | cons _ _ => rfl)
    simp only [List.getElem?_cons_zero, Option.some.injEq] at g1
    subst g1
    -- the datum is no aggregate
    have hd : (avOf d).flat = [avOf d] := by
      cases fuel with
      | zero => simp [DataW.trod] at hf
      | succ fuel =>
        cases n with
        | zero => simp [plainTy] at hp
        | succ n =>
          unfold plainTy at hp
          split at hp
          · rename_i hu; obtain ⟨b, _, rfl⟩ := trod_bool_inv hu hf; rfl
          · rename_i k hu; obtain ⟨q, _, rfl, _⟩ := trod_int_inv hu hf; rfl
          · rename_i hu; obtain ⟨q, _, rfl⟩ := trod_string_inv hu hf; rfl
          · rename_i e hu
            rcases trod_slice_inv hu hf with ⟨_, rfl⟩ | ⟨_, _, _, _, _, _, rfl, _⟩ <;> rfl
          · rename_i fs hu
            simp only [Value.okWide, hu] at hform
            obtain ⟨cs, rfl, _⟩ := hform
            simp [Value.oneCell'] at h1
          · rename_i m e hu
            simp only [Value.okWide, hu] at hform
            obtain ⟨cs, rfl, _⟩ := hform
            simp [Value.oneCell'] at h1
          · cases hp
    rw [hd] at g2
    exact g2
  · have hagg : ∃ l, avOf d = .agg l := by
      cases fuel with
      | zero => simp [DataW.trod] at hf
      | succ fuel =>
        rcases hu with ⟨fs, hu⟩ | ⟨m, e, hu⟩
        · obtain ⟨xs, _, rfl, _⟩ := trod_struct_inv hu hf; exact ⟨_, rfl⟩
        · obtain ⟨xs, _, rfl, _⟩ := trod_array_inv hu hf; exact ⟨_, rfl⟩
    obtain ⟨l, hl⟩ := hagg
    rw [hl] at hr ⊢
    have hlen := hr.len
    simp only [flat_agg, Value.cells, Array.length_toList] at hlen
    refine .agg l cs hlen.symm (fun k u hk => hr.one u (by simp [Value.cells]; exact Array.mem_of_getElem? hk)) (fun k x hx => ?_)
    obtain ⟨c, g1, g2⟩ := hr.rep k x hx
    have g1' : cs[k]? = some c := by simpa [Value.cells] using g1
    have hlt := (Array.getElem?_eq_some_iff.1 g1').1
    have : cs.getD k undef = c := by have := getD_of hlt; rw [g1'] at this; exact (Option.some.inj this).symm
    rw [this]; exact g2


def Dec (P : Program) (t : TypeId) {α : Type} (f : α → AV) (ok : α → Prop) : Prop :=
  ∀ {H : Type} (enc : TypeId × Value → H) (w : World) (spare : Nat → Bool) (held : Bool) (fuel : Nat) (cs : List Value) (d : DataW H) (ps : List MemPlace), DataW.trod enc P w 0 spare held fuel t cs = some (d, ps) → ∃ x, ok x ∧ avOf d = f x

theorem dec_i64 {t : TypeId} (hu : P.underlying t = some (.int .i64)) : Dec P t i64 (fun n => -9223372036854775808 ≤ n ∧ n ≤ 9223372036854775807) := by
  intro H enc w spare held fuel cs d ps h
  cases fuel with
  | zero => simp [DataW.trod] at h
  | succ fuel =>
    obtain ⟨n, _, rfl, hwf⟩ := trod_int_inv hu h
    simp [Lit.wf, IntKind.min, IntKind.max, IntKind.signed, IntKind.bits] at hwf
    exact ⟨n, by omega, rfl⟩

theorem dec_slice {t e : TypeId} {α : Type} {f : α → AV} {ok : α → Prop} (hu : P.underlying t = some (.slice e)) (he : Dec P e f ok) : Dec P t (fun l : List α => AV.sl (l.map f)) (fun l => (∀ x ∈ l, ok x) ∧ l.length ≤ 9223372036854775807) := by
  intro H enc w spare held fuel cs d ps h
  cases fuel with
  | zero => simp [DataW.trod] at h
  | succ fuel =>
    rcases trod_slice_inv hu h with ⟨_, rfl⟩ | ⟨a, len, cap, elems, rest, _, rfl, hlc, hmx, hm⟩
    · exact ⟨[], by simp, rfl⟩
    · obtain ⟨l1, l2⟩ := mapM_some _ _ _ hm
      have key : ∀ (es : List (DataW H × List MemPlace)), (∀ z ∈ es, ∃ x, ok x ∧ avOf z.1 = f x) → ∃ l : List α, (∀ x ∈ l, ok x) ∧ l.length = es.length ∧ (es.map (·.1)).map avOf = l.map f := by
        intro es
        induction es with
        | nil => intro _; exact ⟨[], by simp, rfl, rfl⟩
        | cons z es ih =>
          intro hz
          obtain ⟨x, g1, g2⟩ := hz z (List.mem_cons_self ..)
          obtain ⟨l, g3, g4, g5⟩ := ih (fun y hy => hz y (List.mem_cons_of_mem _ hy))
          refine ⟨x :: l, ?_, by simp [g4], by simp only [List.map_cons, g2, g5]⟩
          intro y hy
          rcases List.mem_cons.1 hy with rfl | hy
          · exact g1
          · exact g3 y hy
      obtain ⟨l, g1, g2, g3⟩ := key elems (fun z hz => by
        obtain ⟨k, hk⟩ := List.getElem?_of_mem hz
        have hlt := (List.getElem?_eq_some_iff.1 hk).1
        rw [l1] at hlt
        have hlt' : k < len := by simpa using hlt
        obtain ⟨y, q1, q2⟩ := l2 k k (by simp [hlt'])
        rw [hk] at q1; cases q1
        obtain ⟨seg, _, q4⟩ := Option.bind_eq_some_iff.1 q2
        exact he enc w spare held fuel seg z.1 z.2 q4)
      refine ⟨l, ⟨g1, ?_⟩, ?_⟩
      · rw [g2, l1]
        have : cap ≤ 9223372036854775807 := hmx
        simp; omega
      · simp only [avOf, avAll_map, g3]

theorem dec_agg {t : TypeId} {fs : Array Field} (hu : P.underlying t = some (.struct fs)) {H : Type} {enc : TypeId × Value → H} {w : World} {spare : Nat → Bool} {held : Bool} {fuel : Nat} {cs : List Value} {d : DataW H} {ps : List MemPlace} (h : DataW.trod enc P w 0 spare held fuel t cs = some (d, ps)) :
    ∃ fuel' xs, avOf d = .agg (cellsAll (xs.map (·.1))) ∧ fs.toList.mapM (fun f => DataW.trod enc P w 0 spare held fuel' f.type ((cs.drop f.offset).take (P.cellsOf f.type))) = some xs := by
  cases fuel with
  | zero => simp [DataW.trod] at h
  | succ fuel =>
    obtain ⟨xs, _, rfl, hm⟩ := trod_struct_inv hu h
    exact ⟨fuel, xs, rfl, hm⟩

theorem law_calls {f : FuncId} {fn : Func} {s : ChangeSpec} {W : World} {args : Array Value} {ds gs : List (DataW H)} {before : List MemPlace} {tb : TypeId} {xs : List AV} (hf : Fun1 P W f xs (bl true)) (hsz : args.size = xs.length)
    (hrep : ∀ (k : Nat) (x : AV), xs[k]? = some x → Rep (Ctx.start W) x (args.getD k undef)) (hW : DataW.Whole enc P fn.params.toList s.vars false W args.toList ds gs before)
    (hv : s.vars = []) (hfn : s.fn H (ds ++ gs) = ⟨[.lit (.bool true)], ds, []⟩) (hres : fn.resultTypes = #[tb]) (hb : P.underlying tb = some .bool) (hl : laidOutB P = true) (hr : ∀ t ∈ fn.params.toList, P.readableRec t = true ∧ t < P.types.size) :
    Calls P f args W fun e W' => ∃ v, e = .returned v ∧ s.post enc P fn false true false false W args v W' := by
  refine (hf.runs (Ctx.start W) args (start_inv W) rfl rfl hsz hrep).mono ?_
  rintro e W' ⟨v, C', rfl, rfl, hE, _, hv'⟩
  obtain rfl := rep_toV (v := .bool true) rfl hv'
  exact ⟨_, rfl, law_post hW hv hfn hres hb hl hr (below_of_ext hE (start_own W))⟩

end
end Go.Av
end

section
/- From a row's argument to what a proof sees of it. -/
namespace Go.Av
open Go.ChangeShapes Go.WideShapes Go.ChangeAt Go.RowKit
variable {P : Program} {H : Type} {enc : TypeId × Value → H}

theorem arg_dec {W : World} {base : Nat} {t : TypeId} {v : Value} {d : DataW H} {ps : List MemPlace} {α : Type} {f : α → AV} {ok : α → Prop} (n : Nat) (hp : plainTy P n t = true) (hd : Dec P t f ok) (h : DataW.Trod enc P W 0 (fun _ => true) true t v d ps) (hform : Value.okWide P W .any base t v) : ∃ x, ok x ∧ Rep (Ctx.start W) (f x) v := by
  have h1 := arg_rep n hp h hform
  obtain ⟨fuel, hf⟩ := h
  obtain ⟨x, h2, h3⟩ := hd enc W _ _ fuel _ d ps hf
  exact ⟨x, h2, h3 ▸ h1⟩

theorem params_ok {fn : Func} (h : (fn.params.toList.all fun t => P.readableRec t && decide (t < P.types.size)) = true) : ∀ t ∈ fn.params.toList, P.readableRec t = true ∧ t < P.types.size := fun t ht => by
  have := List.all_eq_true.1 h t ht
  simpa using this

theorem reps3 {C : Ctx} {x0 x1 x2 : AV} {v0 v1 v2 : Value} (h0 : Rep C x0 v0) (h1 : Rep C x1 v1) (h2 : Rep C x2 v2) : ∀ (k : Nat) (x : AV), [x0, x1, x2][k]? = some x → Rep C x (#[v0, v1, v2].getD k undef) := fun k x h => by
  match k with
  | 0 => cases h; exact h0
  | 1 => cases h; exact h1
  | 2 => cases h; exact h2
  | k + 3 => cases h
end Go.Av
end
