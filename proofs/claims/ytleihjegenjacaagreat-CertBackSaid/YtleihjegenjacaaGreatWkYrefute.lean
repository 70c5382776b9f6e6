/- That the functions of a package do what their plain functions say. -/
import Derived.Test.YtleihjegenjacaaGreatSh
import Derived.Test.YtleihjegenjacaaGreatWkYFacts
open Go Go.Av Go.Proofs
set_option linter.unusedVariables false
set_option maxHeartbeats 8000000
set_option maxRecDepth 20000
namespace Wk
theorem refute_reader_next__1_ok {W0 : World} (hT : Tab W0) {c_0 : G.refute_reader} {r : G.refute_Node × G.refute_reader} (h : G.refute_reader_next__1 c_0 = some r) : Fun3 Tryz.prog (.pinned W0 1) 103 [.ref 0 0 0] ⟨1, [(0, (1, [G.refute_reader.av c_0]))], []⟩ (G.refute_Node.av r.1) ⟨1, [(0, (1, [G.refute_reader.av r.2]))], []⟩ := by
 refine fun3_of_awp rfl Tryz.func103 rfl (by kernel_rfl) Tryz.ntmps103 (by simp) ?_
 unfold G.refute_reader_next__1 at h
 show AWP _ _ _ _ ⟨[(0, .ref 0 0 0)], ⟨1, [(0, (1, [G.refute_reader.av c_0]))], []⟩⟩ _
 refine awp_seqK fun K1 hK1 => awp_reg rfl <| AR.op (r := .ref 1 0 0) rfl (aop_alloc 4 [.agg [i64 0, i64 0, i64 0, nilS]] rfl zr69 (by kernel_rfl) (.inl ⟨rfl, rfl⟩)) <| AR.nil <| hK1 _ ?_
 refine awp_seqK fun K2 hK2 => awp_seqK fun K3 hK3 => awp_reg rfl <| AR.op rfl (aop_move (.inl rfl) rfl) <| AR.op (r := .ref 0 0 0) rfl (aop_nilCheck_ref rfl rfl rfl) <| AR.op rfl (aop_field_ref rfl rfl rfl fd129_0 (by decide)) <| AR.keep [0, 2, 6] rfl <| AR.op (r := .sl (List.map G.refute_Node.av c_0.left)) rfl (aop_load_ref rfl rfl rfl rfl sz27 rfl) ?_
 refine AR.op rfl (t_len_sl G.refute_Node.av c_0.left rfl rfl el27) <| AR.op (r := bl (decide ((Sh.len c_0.left) = 0))) rfl (aop_eql rfl rfl rfl) <| AR.nil <| hK3 _ (AWP.weak (Weak.kt [0, 2, 9] rfl) ?_)
 refine awp_cond rfl (fun hb6 => ?_) (fun hb6 => ?_)
 ·replace h := Sh.if_t h hb6
  cases h
 ·replace h := Sh.if_f h hb6
  refine awp_skip <| hK2 _ (AWP.weak (Weak.kt [0, 2] rfl) ?_)
  refine awp_seqK fun K4 hK4 => awp_reg rfl <| AR.op rfl (aop_move (.inl rfl) rfl) <| AR.op (r := .ref 0 0 0) rfl (aop_nilCheck_ref rfl rfl rfl) <| AR.op rfl (aop_field_ref rfl rfl rfl fd129_0 (by decide)) <| AR.keep [0, 2, 14] rfl <| AR.op (r := .sl (List.map G.refute_Node.av c_0.left)) rfl (aop_load_ref rfl rfl rfl rfl sz27 rfl) ?_
  obtain ⟨x9, hx9, h⟩ := Sh.bind_some' h
  obtain ⟨k10, hi10, hl10⟩ := Sh.idx_some hx9
  refine AR.op rfl (t_index_sl G.refute_Node.av c_0.left hi10 hl10 rfl rfl rfl el27 rfl) <| AR.op (r := G.refute_Node.av x9) rfl (aop_load_pp rfl rfl sz69 rfl) <| AR.keep [0, 2, 17] rfl <| AR.op (r := .ref 2 0 0) rfl (aop_alloc 4 [.agg [i64 0, i64 0, i64 0, nilS]] rfl zr69 (by kernel_rfl) (.inl ⟨rfl, rfl⟩)) <| AR.op rfl (aop_store (e' := G.refute_Node.av x9) rfl rfl rfl rfl rfl rfl sz69 rfl dt rfl) <| AR.nil <| hK4 _ (AWP.weak (Weak.re (fr' := [(0, .ref 0 0 0), (2, .ref 1 0 0), (3, .pp [i64 x9.C.Key, i64 x9.C.A, i64 x9.C.B, .sl (List.map i64 x9.Cycle)] 0)]) (H' := ⟨2, [(0, (1, [G.refute_reader.av c_0])), (1, (4, [.agg [i64 0, i64 0, i64 0, nilS]]))], []⟩) [(0, 0), (1, 1)] [] rfl rfl rfl (.cons rfl rfl (.one (.sm) rfl) dt (.cons rfl rfl (.one (.sm) rfl) dt trivial)) ⟨⟨_, rfl, .ref rfl⟩, ⟨_, rfl, .ref rfl⟩, ⟨_, rfl, .frzA rfl rfl rfl rfl (by simp)⟩, trivial⟩) ?_)
  refine awp_seqK fun K5 hK5 => awp_reg rfl <| AR.op rfl (aop_move (.inl rfl) rfl) <| AR.op rfl (aop_move (.inl rfl) rfl) <| AR.op (r := .ref 0 0 0) rfl (aop_nilCheck_ref rfl rfl rfl) <| AR.keep [2, 3, 18, 20] rfl <| AR.op rfl (aop_field_ref rfl rfl rfl fd129_0 (by decide)) <| AR.op (r := .sl (List.map G.refute_Node.av c_0.left)) rfl (aop_load_ref rfl rfl rfl rfl sz27 rfl) ?_
  obtain ⟨part12, hpart12, h⟩ := Sh.bind_some' h
  refine AR.op (r := .sl (List.map G.refute_Node.av part12)) rfl (t_sub G.refute_Node.av c_0.left part12 hpart12 (fun _ => rfl) rfl rfl (.inl rfl) (.inr ⟨_, _, rfl, rfl⟩) (.inl ⟨rfl, rfl⟩) el27) <| AR.keep [2, 3, 18, 23] rfl <| AR.op (r := .ref 0 0 0) rfl (aop_nilCheck_ref rfl rfl rfl) <| AR.op rfl (aop_field_ref rfl rfl rfl fd129_0 (by decide)) <| AR.op rfl (aop_store (e' := .agg [.sl (List.map G.refute_Node.av part12)]) rfl rfl rfl rfl rfl rfl sz27 rfl dt rfl) <| AR.nil <| hK5 _ (AWP.weak (Weak.kt [2, 3] rfl) ?_)
  refine awp_seqK fun K6 hK6 => awp_reg rfl <| AR.op (r := G.refute_Node.av x9) rfl (aop_load_pp rfl rfl sz69 rfl) <| AR.op rfl (aop_store (e' := G.refute_Node.av x9) rfl rfl rfl rfl rfl rfl sz69 rfl dt rfl) <| AR.nil <| hK6 _ (AWP.weak (Weak.kt [2] rfl) ?_)
  refine awp_ret ?_
  obtain rfl := Option.some.inj h
  refine ⟨.inr rfl, G.refute_Node.av x9, rfl, ?_⟩
  exact Weak.re [(0, 0)] [] rfl rfl rfl (.cons rfl rfl (.one (.sm) rfl) dt trivial) ⟨⟨G.refute_Node.av x9, rfl, .sm⟩, trivial⟩


theorem refute_reader_shape__1_step_ok {W0 : World} (hT : Tab W0) {self : G.refute_reader → Option (G.refute_reader × Int × Int)} (ih : ∀ {c_0 : G.refute_reader} {r : G.refute_reader × Int × Int}, self c_0 = some r → Fun3 Tryz.prog (.pinned W0 1) 101 [.ref 0 0 0] ⟨1, [(0, (1, [G.refute_reader.av c_0]))], []⟩ (.tuple [i64 r.2.1, i64 r.2.2]) ⟨1, [(0, (1, [G.refute_reader.av r.1]))], []⟩) {c_0 : G.refute_reader} {r : G.refute_reader × Int × Int} (h : G.refute_reader_shape__1_step self c_0 = some r) : Fun3 Tryz.prog (.pinned W0 1) 101 [.ref 0 0 0] ⟨1, [(0, (1, [G.refute_reader.av c_0]))], []⟩ (.tuple [i64 r.2.1, i64 r.2.2]) ⟨1, [(0, (1, [G.refute_reader.av r.1]))], []⟩ := by
 refine fun3_of_awp rfl Tryz.func101 rfl (by kernel_rfl) Tryz.ntmps101 (by simp) ?_
 unfold G.refute_reader_shape__1_step at h
 show AWP _ _ _ _ ⟨[(0, .ref 0 0 0)], ⟨1, [(0, (1, [G.refute_reader.av c_0]))], []⟩⟩ _
 refine awp_seqK fun K1 hK1 => awp_reg rfl <| AR.op rfl (aop_move (.inr rfl) rfl) <| AR.op rfl (aop_move (.inr rfl) rfl) <| AR.nil <| hK1 _ (AWP.weak (Weak.kt [0] rfl) ?_)
 refine awp_seqK fun K2 hK2 => awp_seqK fun K3 hK3 => awp_reg rfl <| AR.op rfl (aop_move (.inl rfl) rfl) ?_
 obtain ⟨r17, hr17, h⟩ := Sh.bind_some' h
 refine AR.op (r := G.refute_Node.av r17.1) rfl (aop_call3E (ok := NoId) (ys := [.ref 0 0 0]) (xs := [.ref 0 0 0]) (r' := G.refute_Node.av r17.1) (Hs := ⟨1, [(0, (1, [G.refute_reader.av c_0]))], []⟩) (H' := ⟨2, [(0, (1, [G.refute_reader.av r17.2]))], []⟩) (g := [(0, 0)]) (m := [(0, 0)]) (nw := []) (p := 1) (.func rfl rfl (refute_reader_next__1_ok hT hr17).call) (refute_reader_next__1_ok hT hr17) { next := rfl, part := ⟨rfl, trivial⟩, inj := rfl, lt := rfl, nwf := rfl, gin := rfl, held := .cons rfl rfl (.one (.sm) rfl) dt trivial, seen := ⟨⟨_, rfl, .ref rfl⟩, trivial⟩, inlps := rfl, ple := rfl, map := rfl, next' := rfl, back := .new 0 rfl rfl (.one ⟨.sm, trivial⟩) trivial, lps := .inl ⟨rfl, rfl⟩, mode := .inr ⟨fun _ h => h, rfl⟩, ren := .sm } rfl) <| AR.op (r := .sl (List.map i64 r17.1.Cycle)) rfl (aop_field rfl rfl fd69_1 rfl) <| AR.keep [0, 10] rfl <| AR.op rfl (t_len_sl i64 r17.1.Cycle rfl rfl el25) <| AR.op rfl (aop_gtr rfl rfl rfl) <| AR.nil <| hK3 _ (AWP.weak (Weak.re (fr' := [(0, .ref 0 0 0), (12, bl (decide ((0 : Int) < (Sh.len r17.1.Cycle))))]) (H' := ⟨1, [(0, (1, [G.refute_reader.av r17.2]))], []⟩) [(0, 0)] [] rfl rfl rfl (.cons rfl rfl (.one (.sm) rfl) dt trivial) ⟨⟨_, rfl, .ref rfl⟩, .k, trivial⟩) ?_)
 refine awp_cond rfl (fun hb18 => ?_) (fun hb18 => ?_)
 ·replace h := Sh.if_t h hb18
  refine awp_seqK fun K4 hK4 => awp_reg rfl <| AR.op rfl (aop_move (.inr rfl) rfl) <| AR.op rfl (aop_move (.inr rfl) rfl) <| AR.nil <| hK4 _ (AWP.weak (Weak.kt [2, 3] rfl) ?_)
  refine awp_ret ?_
  obtain rfl := Option.some.inj h
  refine ⟨.inr rfl, .tuple [i64 1, i64 0], rfl, ?_⟩
  exact Weak.re [(0, 0)] [] rfl rfl rfl (.cons rfl rfl (.one (.sm) rfl) dt trivial) ⟨⟨.tuple [i64 1, i64 0], rfl, .tp ⟨.sm, .sm, trivial⟩⟩, trivial⟩
 ·replace h := Sh.if_f h hb18
  refine awp_skip <| hK2 _ (AWP.weak (Weak.kt [0] rfl) ?_)
  refine awp_seqK fun K5 hK5 => awp_reg rfl <| AR.op rfl (aop_move (.inl rfl) rfl) ?_
  obtain ⟨r20, hr20, h⟩ := Sh.bind_some' h
  refine AR.op (r := .tuple [i64 r20.2.1, i64 r20.2.2]) rfl (aop_call3E (ok := NoId) (ys := [.ref 0 0 0]) (xs := [.ref 0 0 0]) (r' := .tuple [i64 r20.2.1, i64 r20.2.2]) (Hs := ⟨1, [(0, (1, [G.refute_reader.av r17.2]))], []⟩) (H' := ⟨2, [(0, (1, [G.refute_reader.av r20.1]))], []⟩) (g := [(0, 0)]) (m := [(0, 0)]) (nw := []) (p := 1) (.func rfl rfl (ih hr20).call) (ih hr20) { next := rfl, part := ⟨rfl, trivial⟩, inj := rfl, lt := rfl, nwf := rfl, gin := rfl, held := .cons rfl rfl (.one (.sm) rfl) dt trivial, seen := ⟨⟨_, rfl, .ref rfl⟩, trivial⟩, inlps := rfl, ple := rfl, map := rfl, next' := rfl, back := .new 0 rfl rfl (.one ⟨.sm, trivial⟩) trivial, lps := .inl ⟨rfl, rfl⟩, mode := .inr ⟨fun _ h => h, rfl⟩, ren := .sm } rfl) <| AR.op rfl (aop_move (.inl rfl) rfl) <| AR.keep [0, 13] rfl <| AR.op (r := i64 r20.2.1) rfl (aop_extract rfl rfl rfl) <| AR.op (r := i64 r20.2.2) rfl (aop_extract rfl rfl rfl) <| AR.op rfl (aop_move (.inr rfl) rfl) <| AR.keep [0, 17, 4] rfl <| AR.op rfl (aop_move (.inr rfl) rfl) ?_
  refine AR.nil <| hK5 _ (AWP.weak (Weak.re (fr' := [(0, .ref 0 0 0), (4, i64 r20.2.1), (5, i64 r20.2.2)]) (H' := ⟨1, [(0, (1, [G.refute_reader.av r20.1]))], []⟩) [(0, 0)] [] rfl rfl rfl (.cons rfl rfl (.one (.sm) rfl) dt trivial) ⟨⟨_, rfl, .ref rfl⟩, .k, .k, trivial⟩) ?_)
  refine awp_seqK fun K6 hK6 => awp_reg rfl <| AR.op rfl (aop_move (.inl rfl) rfl) ?_
  obtain ⟨r22, hr22, h⟩ := Sh.bind_some' h
  refine AR.op (r := .tuple [i64 r22.2.1, i64 r22.2.2]) rfl (aop_call3E (ok := NoId) (ys := [.ref 0 0 0]) (xs := [.ref 0 0 0]) (r' := .tuple [i64 r22.2.1, i64 r22.2.2]) (Hs := ⟨1, [(0, (1, [G.refute_reader.av r20.1]))], []⟩) (H' := ⟨2, [(0, (1, [G.refute_reader.av r22.1]))], []⟩) (g := [(0, 0)]) (m := [(0, 0)]) (nw := []) (p := 1) (.func rfl rfl (ih hr22).call) (ih hr22) { next := rfl, part := ⟨rfl, trivial⟩, inj := rfl, lt := rfl, nwf := rfl, gin := rfl, held := .cons rfl rfl (.one (.sm) rfl) dt trivial, seen := ⟨⟨_, rfl, .ref rfl⟩, trivial⟩, inlps := rfl, ple := rfl, map := rfl, next' := rfl, back := .new 0 rfl rfl (.one ⟨.sm, trivial⟩) trivial, lps := .inl ⟨rfl, rfl⟩, mode := .inr ⟨fun _ h => h, rfl⟩, ren := .sm } rfl) <| AR.op rfl (aop_move (.inl rfl) rfl) <| AR.keep [4, 5, 18] rfl <| AR.op (r := i64 r22.2.1) rfl (aop_extract rfl rfl rfl) <| AR.op (r := i64 r22.2.2) rfl (aop_extract rfl rfl rfl) <| AR.op rfl (aop_move (.inr rfl) rfl) <| AR.keep [4, 5, 22, 6] rfl <| AR.op rfl (aop_move (.inr rfl) rfl) ?_
  refine AR.nil <| hK6 _ (AWP.weak (Weak.re (fr' := [(4, i64 r20.2.1), (5, i64 r20.2.2), (6, i64 r22.2.1), (7, i64 r22.2.2)]) (H' := ⟨1, [(0, (1, [G.refute_reader.av r22.1]))], []⟩) [(0, 0)] [] rfl rfl rfl (.cons rfl rfl (.one (.sm) rfl) dt trivial) ⟨.k, .k, .k, .k, trivial⟩) ?_)
  refine awp_seqK fun K7 hK7 => awp_reg rfl <| AR.op rfl (aop_move (.inl rfl) rfl) <| AR.op rfl (aop_move (.inl rfl) rfl) <| AR.op rfl (aop_add rfl rfl rfl rfl) <| AR.keep [5, 7, 25] rfl <| AR.op rfl (aop_move (.inl rfl) rfl) <| AR.op rfl (aop_move (.inl rfl) rfl) ?_
  refine AR.op (r := i64 (Sh.max r20.2.2 r22.2.2)) rfl (aop_max2 rfl rfl rfl) <| AR.keep [25, 28] rfl <| AR.op rfl (aop_add rfl rfl rfl rfl) <| AR.op rfl (aop_move (.inr rfl) rfl) <| AR.op rfl (aop_move (.inr rfl) rfl) <| AR.nil <| hK7 _ (AWP.weak (Weak.kt [2, 3] rfl) ?_)
  refine awp_ret ?_
  obtain rfl := Option.some.inj h
  refine ⟨.inr rfl, .tuple [i64 (w64 (r20.2.1 + r22.2.1)), i64 (w64 (1 + (Sh.max r20.2.2 r22.2.2)))], rfl, ?_⟩
  exact Weak.re [(0, 0)] [] rfl rfl rfl (.cons rfl rfl (.one (.sm) rfl) dt trivial) ⟨⟨.tuple [i64 (w64 (r20.2.1 + r22.2.1)), i64 (w64 (1 + (Sh.max r20.2.2 r22.2.2)))], rfl, .tp ⟨.sm, .sm, trivial⟩⟩, trivial⟩
theorem refute_reader_shape__1_fuel {W0 : World} (hT : Tab W0) : ∀ (n : Nat) {c_0 : G.refute_reader} {r : G.refute_reader × Int × Int}, G.refute_reader_shape__1_n n c_0 = some r → Fun3 Tryz.prog (.pinned W0 1) 101 [.ref 0 0 0] ⟨1, [(0, (1, [G.refute_reader.av c_0]))], []⟩ (.tuple [i64 r.2.1, i64 r.2.2]) ⟨1, [(0, (1, [G.refute_reader.av r.1]))], []⟩ := by
 intro n
 induction n with
 | zero => intro _ _ h; cases h
 | succ n ih => intro _ _ h; exact refute_reader_shape__1_step_ok hT ih h
theorem refute_reader_end__1_ok {W0 : World} (hT : Tab W0) {c_0 : G.refute_reader} {r : Unit} (h : G.refute_reader_end__1 c_0 = some r) : Fun3 Tryz.prog (.pinned W0 1) 102 [.ref 0 0 0] ⟨1, [(0, (1, [G.refute_reader.av c_0]))], []⟩ (.tuple []) ⟨1, [(0, (1, [G.refute_reader.av c_0]))], []⟩ := by
 refine fun3_of_awp rfl Tryz.func102 rfl (by kernel_rfl) Tryz.ntmps102 (by simp) ?_
 unfold G.refute_reader_end__1 at h
 show AWP _ _ _ _ ⟨[(0, .ref 0 0 0)], ⟨1, [(0, (1, [G.refute_reader.av c_0]))], []⟩⟩ _
 refine awp_seqK fun K1 hK1 => awp_reg rfl <| AR.op rfl (aop_move (.inl rfl) rfl) <| AR.op (r := .ref 0 0 0) rfl (aop_nilCheck_ref rfl rfl rfl) <| AR.op rfl (aop_field_ref rfl rfl rfl fd129_0 (by decide)) <| AR.keep [4] rfl <| AR.op (r := .sl (List.map G.refute_Node.av c_0.left)) rfl (aop_load_ref rfl rfl rfl rfl sz27 rfl) <| AR.op rfl (t_len_sl G.refute_Node.av c_0.left rfl rfl el27) ?_
 refine AR.op rfl (aop_gtr rfl rfl rfl) <| AR.nil <| hK1 _ (AWP.weak (Weak.kt [7] rfl) ?_)
 refine awp_cond rfl (fun hb1 => ?_) (fun hb1 => ?_)
 ·replace h := Sh.if_t h hb1
  cases h
 ·replace h := Sh.if_f h hb1
  refine awp_skip ?_
  obtain rfl := Option.some.inj h
  refine ⟨.inl rfl, .tuple [], rfl, ?_⟩
  exact Weak.re [(0, 0)] [] rfl rfl rfl (.cons rfl rfl (.one (.sm) rfl) dt trivial) ⟨⟨.tuple [], rfl, .tp trivial⟩, trivial⟩


theorem shp_next {c : G.refute_reader} {x : G.refute_Node} {l : List G.refute_Node} (h : c.left = x :: l) : G.refute_reader_next__1 c = some (x, ⟨l⟩) := by
 unfold G.refute_reader_next__1
 have h0 : ¬ (Sh.len c.left) = 0 := by simp [h, Sh.len]; omega
 have h1 : Sh.idx c.left 0 = some x := by simp [h, Sh.idx]
 have h2 : Sh.sub c.left 1 (Sh.len c.left) = some l := by
  rw [h]
  simp [Sh.sub, Sh.len]
  omega
 rw [if_neg (by simpa using h0), h1, Option.bind_some, h2, Option.bind_some]
theorem shp_fewer : ∀ (n : Nat) (c : G.refute_reader) (r : G.refute_reader × Int × Int), G.refute_reader_shape__1_n n c = some r → r.1.left.length < c.left.length := by
 intro n
 induction n with
 | zero => intro c r h; cases h
 | succ n ih =>
  intro c r h
  cases hc : c.left with
  | nil =>
   have : G.refute_reader_next__1 c = none := by simp [G.refute_reader_next__1, hc, Sh.len]
   simp [G.refute_reader_shape__1_n, G.refute_reader_shape__1_step, this] at h
  | cons x l =>
   simp only [G.refute_reader_shape__1_n, G.refute_reader_shape__1_step, shp_next hc, Option.bind_some] at h
   split at h
   ·cases h; simp
   ·obtain ⟨r1, h1, h⟩ := Sh.bind_some' h
    obtain ⟨r2, h2, h⟩ := Sh.bind_some' h
    cases h
    have := ih _ _ h1; have := ih _ _ h2
    simp only [List.length_cons] at *
    omega
theorem shp_nextP {W0 : World} (hT : Tab W0) {c_0 : G.refute_reader} (h : c_0.left = []) : Fun3P Tryz.prog (.pinned W0 1) 103 [.ref 0 0 0] ⟨1, [(0, (1, [G.refute_reader.av c_0]))], []⟩ ⟨1, [(0, (1, [G.refute_reader.av c_0]))], []⟩ := by
 refine fun3p_of_awp rfl Tryz.func103 rfl (by kernel_rfl) Tryz.ntmps103 (by simp) ?_
 show AWP _ _ _ _ ⟨[(0, .ref 0 0 0)], ⟨1, [(0, (1, [G.refute_reader.av c_0]))], []⟩⟩ _
 refine awp_seqK fun K1 hK1 => awp_reg rfl <| AR.op (r := .ref 1 0 0) rfl (aop_alloc 4 [.agg [i64 0, i64 0, i64 0, nilS]] rfl zr69 (by kernel_rfl) (.inl ⟨rfl, rfl⟩)) <| AR.nil <| hK1 _ ?_
 refine awp_seqK fun K2 hK2 => awp_seqK fun K3 hK3 => awp_reg rfl <| AR.op rfl (aop_move (.inl rfl) rfl) <| AR.op (r := .ref 0 0 0) rfl (aop_nilCheck_ref rfl rfl rfl) <| AR.op rfl (aop_field_ref rfl rfl rfl fd129_0 (by decide)) <| AR.keep [0, 2, 6] rfl <| AR.op (r := .sl (List.map G.refute_Node.av c_0.left)) rfl (aop_load_ref rfl rfl rfl rfl sz27 rfl) ?_
 refine AR.op rfl (t_len_sl G.refute_Node.av c_0.left rfl rfl el27) <| AR.op (r := bl (decide ((Sh.len c_0.left) = 0))) rfl (aop_eql rfl rfl rfl) <| AR.nil <| hK3 _ (AWP.weak (Weak.kt [0, 2, 9] rfl) ?_)
 refine awp_cond rfl (fun hb6 => ?_) (fun hb6 => ?_)
 ·refine awp_regP (Hp := ⟨2, [(0, (1, [G.refute_reader.av c_0])), (1, (4, [.agg [i64 0, i64 0, i64 0, nilS]]))], []⟩) 2 rfl rfl rfl ?_
  ·refine AR.op (r := .agg []) rfl (aop_build rfl bd181 rfl rfl rfl) <| AR.op rfl (aop_makeInterface rfl rfl Tryz.underlying181 (fun _ h => by cases h)) ?_
   exact AR.nil ⟨rfl, aopP_panic rfl rfl, fun ch hch => ⟨⟨ch, rfl, hch⟩, Weak.re [(0, 0)] [] rfl rfl rfl (.cons rfl rfl (.one (.sm) rfl) dt trivial) trivial⟩⟩
 ·simp [h, Sh.len] at hb6
theorem shp_endP {W0 : World} (hT : Tab W0) {c_0 : G.refute_reader} (h : (0 : Int) < Sh.len c_0.left) : Fun3P Tryz.prog (.pinned W0 1) 102 [.ref 0 0 0] ⟨1, [(0, (1, [G.refute_reader.av c_0]))], []⟩ ⟨1, [(0, (1, [G.refute_reader.av c_0]))], []⟩ := by
 refine fun3p_of_awp rfl Tryz.func102 rfl (by kernel_rfl) Tryz.ntmps102 (by simp) ?_
 show AWP _ _ _ _ ⟨[(0, .ref 0 0 0)], ⟨1, [(0, (1, [G.refute_reader.av c_0]))], []⟩⟩ _
 refine awp_seqK fun K1 hK1 => awp_reg rfl <| AR.op rfl (aop_move (.inl rfl) rfl) <| AR.op (r := .ref 0 0 0) rfl (aop_nilCheck_ref rfl rfl rfl) <| AR.op rfl (aop_field_ref rfl rfl rfl fd129_0 (by decide)) <| AR.keep [4] rfl <| AR.op (r := .sl (List.map G.refute_Node.av c_0.left)) rfl (aop_load_ref rfl rfl rfl rfl sz27 rfl) <| AR.op rfl (t_len_sl G.refute_Node.av c_0.left rfl rfl el27) ?_
 refine AR.op rfl (aop_gtr rfl rfl rfl) <| AR.nil <| hK1 _ (AWP.weak (Weak.kt [7] rfl) ?_)
 refine awp_cond rfl (fun hb1 => ?_) (fun hb1 => ?_)
 ·refine awp_regP (Hp := ⟨1, [(0, (1, [G.refute_reader.av c_0]))], []⟩) 2 rfl rfl rfl ?_
  ·refine AR.op (r := .agg []) rfl (aop_build rfl bd181 rfl rfl rfl) <| AR.op rfl (aop_makeInterface rfl rfl Tryz.underlying181 (fun _ h => by cases h)) ?_
   exact AR.nil ⟨rfl, aopP_panic rfl rfl, fun ch hch => ⟨⟨ch, rfl, hch⟩, Weak.re [(0, 0)] [] rfl rfl rfl (.cons rfl rfl (.one (.sm) rfl) dt trivial) trivial⟩⟩
 ·rw [decide_eq_true h] at hb1; cases hb1

theorem shp_shapeP {W0 : World} (hT : Tab W0) : ∀ (n : Nat) (c_0 : G.refute_reader), c_0.left.length < n → G.refute_reader_shape__1_n n c_0 = none → Fun3P Tryz.prog (.pinned W0 1) 101 [.ref 0 0 0] ⟨1, [(0, (1, [G.refute_reader.av c_0]))], []⟩ ⟨1, [(0, (1, [G.refute_reader.av ⟨[]⟩]))], []⟩ := by
 intro n
 induction n with
 | zero => intro c hc; omega
 | succ n ih =>
  intro c_0 hlen h
  refine fun3p_of_awp rfl Tryz.func101 rfl (by kernel_rfl) Tryz.ntmps101 (by simp) ?_
  show AWP _ _ _ _ ⟨[(0, .ref 0 0 0)], ⟨1, [(0, (1, [G.refute_reader.av c_0]))], []⟩⟩ _
  refine awp_seqK fun K1 hK1 => awp_reg rfl <| AR.op rfl (aop_move (.inr rfl) rfl) <| AR.op rfl (aop_move (.inr rfl) rfl) <| AR.nil <| hK1 _ (AWP.weak (Weak.kt [0] rfl) ?_)
  refine awp_seqK fun K2 hK2 => awp_seqK fun K3 hK3 => ?_
  cases hc : c_0.left with
  | nil =>
   have hc0 : c_0 = ⟨[]⟩ := by cases c_0; simp_all
   refine awp_regP (Hp := ⟨2, [(0, (1, [G.refute_reader.av ⟨[]⟩]))], []⟩) 1 rfl rfl rfl ?_
   ·refine AR.op (r := .ref 0 0 0) rfl (aop_move (.inl rfl) rfl) <| AR.nil ⟨rfl, ?_, fun ch hch => ?_⟩
    subst hc0
    ·exact aopP_call3 (ok := NoId) (ys := [.ref 0 0 0]) (xs := [.ref 0 0 0]) (r := .any) (r' := .any) (Hs := ⟨1, [(0, (1, [G.refute_reader.av ⟨[]⟩]))], []⟩) (H' := ⟨2, [(0, (1, [G.refute_reader.av ⟨[]⟩]))], []⟩) (g := [(0, 0)]) (m := [(0, 0)]) (nw := []) (p := 1) rfl rfl (shp_nextP hT rfl) { next := rfl, part := ⟨rfl, trivial⟩, inj := rfl, lt := rfl, nwf := rfl, gin := rfl, held := .cons rfl rfl (.one (.sm) rfl) dt trivial, seen := ⟨⟨_, rfl, .ref rfl⟩, trivial⟩, inlps := rfl, ple := rfl, map := rfl, next' := rfl, back := .new 0 rfl rfl (.one ⟨.sm, trivial⟩) trivial, lps := .inl ⟨rfl, rfl⟩, mode := .inr ⟨fun _ h => h, rfl⟩, ren := .any _ } rfl
    ·exact ⟨⟨ch, rfl, hch⟩, Weak.re [(0, 0)] [] rfl rfl rfl (.cons rfl rfl (.one (.sm) rfl) dt trivial) trivial⟩
  | cons x l =>
   have hn := shp_next hc
   simp only [G.refute_reader_shape__1_n, G.refute_reader_shape__1_step, hn, Option.bind_some] at h
   refine awp_reg rfl <| AR.op rfl (aop_move (.inl rfl) rfl) <| AR.op (r := G.refute_Node.av x) rfl (aop_call3E (ok := NoId) (ys := [.ref 0 0 0]) (xs := [.ref 0 0 0]) (r' := G.refute_Node.av x) (Hs := ⟨1, [(0, (1, [G.refute_reader.av c_0]))], []⟩) (H' := ⟨2, [(0, (1, [G.refute_reader.av ⟨l⟩]))], []⟩) (g := [(0, 0)]) (m := [(0, 0)]) (nw := []) (p := 1) (.func rfl rfl (refute_reader_next__1_ok hT hn).call) (refute_reader_next__1_ok hT hn) { next := rfl, part := ⟨rfl, trivial⟩, inj := rfl, lt := rfl, nwf := rfl, gin := rfl, held := .cons rfl rfl (.one (.sm) rfl) dt trivial, seen := ⟨⟨_, rfl, .ref rfl⟩, trivial⟩, inlps := rfl, ple := rfl, map := rfl, next' := rfl, back := .new 0 rfl rfl (.one ⟨.sm, trivial⟩) trivial, lps := .inl ⟨rfl, rfl⟩, mode := .inr ⟨fun _ h => h, rfl⟩, ren := .sm } rfl) <| AR.op (r := .sl (List.map i64 x.Cycle)) rfl (aop_field rfl rfl fd69_1 rfl) <| AR.keep [0, 10] rfl <| AR.op rfl (t_len_sl i64 x.Cycle rfl rfl el25) <| AR.op rfl (aop_gtr rfl rfl rfl) <| AR.nil ?_
   refine hK3 _ (AWP.weak (Weak.re (fr' := [(0, .ref 0 0 0), (12, bl (decide ((0 : Int) < (Sh.len x.Cycle))))]) (H' := ⟨1, [(0, (1, [G.refute_reader.av ⟨l⟩]))], []⟩) [(0, 0)] [] rfl rfl rfl (.cons rfl rfl (.one (.sm) rfl) dt trivial) ⟨⟨_, rfl, .ref rfl⟩, .k, trivial⟩) ?_)
   refine awp_cond rfl (fun hb18 => ?_) (fun hb18 => ?_)
   ·rw [if_pos hb18] at h; cases h
   ·rw [if_neg (by rw [hb18]; exact Bool.false_ne_true)] at h
    refine awp_skip <| hK2 _ (AWP.weak (Weak.kt [0] rfl) ?_)
    have hll : l.length < n := by rw [hc] at hlen; simp at hlen; omega
    refine awp_seqK fun K5 hK5 => ?_
    cases h1 : G.refute_reader_shape__1_n n ⟨l⟩ with
    | none =>
     refine awp_regP (Hp := ⟨2, [(0, (1, [G.refute_reader.av ⟨[]⟩]))], []⟩) 1 rfl rfl rfl ?_
     ·refine AR.op (r := .ref 0 0 0) rfl (aop_move (.inl rfl) rfl) <| AR.nil ⟨rfl, ?_, fun ch hch => ?_⟩
      ·exact aopP_call3 (ok := NoId) (ys := [.ref 0 0 0]) (xs := [.ref 0 0 0]) (r := .any) (r' := .any) (Hs := ⟨1, [(0, (1, [G.refute_reader.av ⟨l⟩]))], []⟩) (H' := ⟨2, [(0, (1, [G.refute_reader.av ⟨[]⟩]))], []⟩) (g := [(0, 0)]) (m := [(0, 0)]) (nw := []) (p := 1) rfl rfl (ih ⟨l⟩ hll h1) { next := rfl, part := ⟨rfl, trivial⟩, inj := rfl, lt := rfl, nwf := rfl, gin := rfl, held := .cons rfl rfl (.one (.sm) rfl) dt trivial, seen := ⟨⟨_, rfl, .ref rfl⟩, trivial⟩, inlps := rfl, ple := rfl, map := rfl, next' := rfl, back := .new 0 rfl rfl (.one ⟨.sm, trivial⟩) trivial, lps := .inl ⟨rfl, rfl⟩, mode := .inr ⟨fun _ h => h, rfl⟩, ren := .any _ } rfl
      ·exact ⟨⟨ch, rfl, hch⟩, Weak.re [(0, 0)] [] rfl rfl rfl (.cons rfl rfl (.one (.sm) rfl) dt trivial) trivial⟩
    | some r20 =>
     rw [h1, Option.bind_some] at h
     have hr20 := refute_reader_shape__1_fuel hT n h1
     refine awp_reg rfl <| AR.op rfl (aop_move (.inl rfl) rfl) <| AR.op (r := .tuple [i64 r20.2.1, i64 r20.2.2]) rfl (aop_call3E (ok := NoId) (ys := [.ref 0 0 0]) (xs := [.ref 0 0 0]) (r' := .tuple [i64 r20.2.1, i64 r20.2.2]) (Hs := ⟨1, [(0, (1, [G.refute_reader.av ⟨l⟩]))], []⟩) (H' := ⟨2, [(0, (1, [G.refute_reader.av r20.1]))], []⟩) (g := [(0, 0)]) (m := [(0, 0)]) (nw := []) (p := 1) (.func rfl rfl hr20.call) hr20 { next := rfl, part := ⟨rfl, trivial⟩, inj := rfl, lt := rfl, nwf := rfl, gin := rfl, held := .cons rfl rfl (.one (.sm) rfl) dt trivial, seen := ⟨⟨_, rfl, .ref rfl⟩, trivial⟩, inlps := rfl, ple := rfl, map := rfl, next' := rfl, back := .new 0 rfl rfl (.one ⟨.sm, trivial⟩) trivial, lps := .inl ⟨rfl, rfl⟩, mode := .inr ⟨fun _ h => h, rfl⟩, ren := .sm } rfl) <| AR.op rfl (aop_move (.inl rfl) rfl) <| AR.keep [0, 13] rfl <| AR.op (r := i64 r20.2.1) rfl (aop_extract rfl rfl rfl) <| AR.op (r := i64 r20.2.2) rfl (aop_extract rfl rfl rfl) <| AR.op rfl (aop_move (.inr rfl) rfl) ?_
     refine AR.op rfl (aop_move (.inr rfl) rfl) <| AR.nil <| hK5 _ (AWP.weak (Weak.re (fr' := [(0, .ref 0 0 0)]) (H' := ⟨1, [(0, (1, [G.refute_reader.av r20.1]))], []⟩) [(0, 0)] [] rfl rfl rfl (.cons rfl rfl (.one (.sm) rfl) dt trivial) ⟨⟨_, rfl, .ref rfl⟩, trivial⟩) ?_)
     refine awp_seqK fun K6 hK6 => ?_
     have h2 : G.refute_reader_shape__1_n n r20.1 = none := by
      cases h2 : G.refute_reader_shape__1_n n r20.1 with
      | none => rfl
      | some r => rw [h2] at h; cases h
     refine awp_regP (Hp := ⟨2, [(0, (1, [G.refute_reader.av ⟨[]⟩]))], []⟩) 1 rfl rfl rfl ?_
     ·refine AR.op (r := .ref 0 0 0) rfl (aop_move (.inl rfl) rfl) <| AR.nil ⟨rfl, ?_, fun ch hch => ?_⟩
      ·exact aopP_call3 (ok := NoId) (ys := [.ref 0 0 0]) (xs := [.ref 0 0 0]) (r := .any) (r' := .any) (Hs := ⟨1, [(0, (1, [G.refute_reader.av r20.1]))], []⟩) (H' := ⟨2, [(0, (1, [G.refute_reader.av ⟨[]⟩]))], []⟩) (g := [(0, 0)]) (m := [(0, 0)]) (nw := []) (p := 1) rfl rfl (ih r20.1 (Nat.lt_trans (shp_fewer _ _ _ h1) hll) h2) { next := rfl, part := ⟨rfl, trivial⟩, inj := rfl, lt := rfl, nwf := rfl, gin := rfl, held := .cons rfl rfl (.one (.sm) rfl) dt trivial, seen := ⟨⟨_, rfl, .ref rfl⟩, trivial⟩, inlps := rfl, ple := rfl, map := rfl, next' := rfl, back := .new 0 rfl rfl (.one ⟨.sm, trivial⟩) trivial, lps := .inl ⟨rfl, rfl⟩, mode := .inr ⟨fun _ h => h, rfl⟩, ren := .any _ } rfl
      ·exact ⟨⟨ch, rfl, hch⟩, Weak.re [(0, 0)] [] rfl rfl rfl (.cons rfl rfl (.one (.sm) rfl) dt trivial) trivial⟩

def Code.regionOps : Option Code → List Oper
 | some (.seq _ (.cond _ (.region _ l _) _)) => l.toList
 | _ => []
theorem shp_rescues {W0 : World} : Rescues Tryz.prog W0 100 (i64 0) (i64 0) (bl false) where
 call := callable_of Tryz.func100 (by kernel_rfl) rfl
 idle v0 v1 v2 w := by
  refine callsDIn_of_wpSIn Tryz.func100 rfl trivial fun c₀ cs hu => ?_
  apply wpSIn_seq
  apply wpSIn_region
  simp [wpOpsSIn, go_sem, recoverD, hu, Tryz.ntmps100, Exit.thenS]
  refine wpSIn_cond (t := false) (by simp [Act.eval, Array.replicate]) ?_
  simp only [Bool.false_eq_true, if_false]
  refine wpSIn_of_wpIn rfl (wpIn_skip ?_)
  cases c₀
  simp_all [bodyPostS, results, Tryz.results100]
 pan ch C v0 v1 v2 i j t hch hI hH hd r0 r1 r2 := by
  obtain ⟨u, v, rfl⟩ := hch
  refine callsDIn_of_wpSIn Tryz.func100 rfl trivial fun c₀ cs hu => ?_
  apply wpSIn_seq
  apply wpSIn_region
  simp [wpOpsSIn, go_sem, recoverD, hu, Tryz.ntmps100, Exit.thenS]
  refine wpSIn_cond (t := true) (by simp [Act.eval, Array.replicate]) ?_
  simp only [if_true]
  refine wpSIn_of_wpIn rfl (wpIn_region_lit ?_)
  have run : AR Tryz.prog (.off W0 3 []) (Code.regionOps (Tryz.f100.body)).toArray (Code.regionOps (Tryz.f100.body)) [(0, .ref 0 0 0), (1, .ref 1 0 0), (2, .ref 2 0 0)] (cells3 (i64 i) (i64 j) (bl t)) (fun _ K => K = cells3 (i64 0) (i64 0) (bl false)) := by
   refine AR.op rfl (aop_store (e' := i64 0) rfl rfl rfl rfl rfl rfl sz3 rfl dt rfl) <| AR.op rfl (aop_store (e' := i64 0) rfl rfl rfl rfl rfl rfl sz3 rfl dt rfl) <| AR.op rfl (aop_store (e' := bl false) rfl rfl rfl rfl rfl rfl sz4 rfl dt rfl) ?_
   exact AR.nil rfl
  obtain ⟨f0, K0, hrun, rfl⟩ := run
  refine wpListIn_of_runE (N := 5) hrun (fun o ho => List.all_eq_true.1 rfl o ho) C _ _ ⟨hH, hI, by simp, by simp [hd], fun q x hx => ?_⟩ fun C' a' hE hR => ?_
  ·simp only [lk] at hx
   split at hx
   ·rename_i hq; subst hq; cases hx; exact r0
   ·split at hx
    ·rename_i hq; subst hq; cases hx; exact r1
    ·split at hx
     ·rename_i hq; subst hq; cases hx; exact r2
     ·cases hx
  ·refine ⟨by rw [hR.defers, hE.dfs, hd]; rfl, _, rfl, .tuple #[], ?_, ⟨_, rfl⟩, rfl, C', rfl, hE, hR.inv, hR.heap⟩
   simp [results, Tryz.results100]

theorem refute_Shape_ok {W0 : World} (hT : Tab W0) {tree_0 : List G.refute_Node} {r : Int × Int × Bool} (h : G.refute_Shape tree_0 = some r) : Fun1 Tryz.prog W0 72 [.sl (List.map G.refute_Node.av tree_0)] (.tuple [i64 r.1, i64 r.2.1, bl r.2.2]) := by
 refine fun1_rescue (t6 := 6) (frx := [(0, .sl (List.map G.refute_Node.av tree_0)), (2, .ref 0 0 0), (3, .ref 1 0 0), (4, .ref 2 0 0)]) (z0 := i64 0) (z1 := i64 0) (z2 := bl false) Tryz.func72 rfl (by kernel_rfl) Tryz.ntmps72 (by simp) rfl rfl rfl (by decide) rfl rfl rfl rfl rfl ?_ rfl rfl rfl (fun ds => ?_) (shp_rescues (W0 := W0)) (by simp)
 ·refine AR.op (r := .ref 0 0 0) rfl (aop_alloc 1 [i64 0] rfl zr3 rfl (.inl ⟨rfl, rfl⟩)) <| AR.op (r := .ref 1 0 0) rfl (aop_alloc 1 [i64 0] rfl zr3 rfl (.inl ⟨rfl, rfl⟩)) <| AR.op (r := .ref 2 0 0) rfl (aop_alloc 1 [bl false] rfl zr4 rfl (.inl ⟨rfl, rfl⟩)) ?_
  exact AR.nil ⟨⟨rfl, rfl, rfl, rfl, trivial⟩, rfl⟩
 ·refine awp_seqK fun K3 hK3 => awp_reg rfl <| AR.op rfl (aop_move (.inl rfl) rfl) <| AR.op (r := .agg [.sl (List.map G.refute_Node.av tree_0)]) rfl (aop_build rfl bd129 rfl rfl rfl) <| AR.op (r := .ref 3 0 0) rfl (aop_box 1 [.agg [.sl (List.map G.refute_Node.av tree_0)]] rfl rfl rfl (.inl ⟨rfl, rfl⟩)) <| AR.keep [2, 3, 4, 9] rfl <| AR.op rfl (aop_move (.inr rfl) rfl) <| AR.nil ?_
  refine hK3 _ (AWP.weak (Weak.kt [2, 3, 4, 5] rfl) ?_)
  refine awp_seqK fun K4 hK4 => ?_
  simp only [G.refute_Shape] at h
  cases h4 : G.refute_reader_shape__1_n (tree_0.length + 1) (G.refute_reader.mk tree_0) with
  | none =>
   rw [h4] at h; cases h
   refine awp_regP (Hp := ⟨5, [(0, (1, [i64 0])), (1, (1, [i64 0])), (2, (1, [bl false])), (3, (1, [G.refute_reader.av ⟨[]⟩]))], []⟩) 1 rfl rfl rfl ?_
   ·refine AR.op (r := .ref 3 0 0) rfl (aop_move (.inl rfl) rfl) <| AR.nil ⟨rfl, ?_, fun ch hch => ?_⟩
    ·exact aopP_call3 (ok := NoId) (ys := [.ref 3 0 0]) (xs := [.ref 0 0 0]) (r := .any) (r' := .any) (Hs := ⟨4, [(3, (1, [G.refute_reader.av ⟨tree_0⟩]))], []⟩) (g := [(0, 3)]) (m := [(0, 3)]) (nw := []) (p := 1) rfl rfl (shp_shapeP hT _ _ (Nat.lt_succ_self _) h4) { next := rfl, part := ⟨rfl, trivial⟩, inj := rfl, lt := rfl, nwf := rfl, gin := rfl, held := .cons rfl rfl (.one (.sm) rfl) dt trivial, seen := ⟨⟨_, rfl, .ref rfl⟩, trivial⟩, inlps := rfl, ple := rfl, map := rfl, next' := rfl, back := .kept rfl rfl (.kept rfl rfl (.kept rfl rfl (.new 0 rfl rfl (.one ⟨.sm, trivial⟩) trivial))), lps := .inl ⟨rfl, rfl⟩, mode := .inr ⟨fun _ h => h, rfl⟩, ren := .any _ } rfl
    ·exact .inr ⟨⟨ch, rfl, hch⟩, ⟨0, 0, false, Weak.re [(0, 0), (1, 1), (2, 2)] [] rfl rfl rfl (.cons rfl rfl (.one (.sm) rfl) dt (.cons rfl rfl (.one (.sm) rfl) dt (.cons rfl rfl (.one (.sm) rfl) dt trivial))) ⟨⟨_, rfl, .ref rfl⟩, ⟨_, rfl, .ref rfl⟩, ⟨_, rfl, .ref rfl⟩, trivial⟩⟩, rfl⟩
  | some r4 =>
   have hr4 := refute_reader_shape__1_fuel hT _ h4
   rw [h4] at h
   replace h := Option.some.inj h
   dsimp only at h
   refine awp_reg rfl <| AR.op rfl (aop_move (.inl rfl) rfl) <| AR.op (r := .tuple [i64 r4.2.1, i64 r4.2.2]) rfl (aop_call3E (ok := NoId) (ys := [.ref 3 0 0]) (xs := [.ref 0 0 0]) (r' := .tuple [i64 r4.2.1, i64 r4.2.2]) (Hs := ⟨4, [(3, (1, [.agg [.sl (List.map G.refute_Node.av tree_0)]]))], []⟩) (H' := ⟨5, [(0, (1, [i64 0])), (1, (1, [i64 0])), (2, (1, [bl false])), (3, (1, [G.refute_reader.av r4.1]))], []⟩) (g := [(0, 3)]) (m := [(0, 3)]) (nw := []) (p := 1) (.func rfl rfl hr4.call) hr4 { next := rfl, part := ⟨rfl, trivial⟩, inj := rfl, lt := rfl, nwf := rfl, gin := rfl, held := .cons rfl rfl (.one (.sm) rfl) dt trivial, seen := ⟨⟨_, rfl, .ref rfl⟩, trivial⟩, inlps := rfl, ple := rfl, map := rfl, next' := rfl, back := .kept rfl rfl (.kept rfl rfl (.kept rfl rfl (.new 0 rfl rfl (.one ⟨.sm, trivial⟩) trivial))), lps := .inl ⟨rfl, rfl⟩, mode := .inr ⟨fun _ h => h, rfl⟩, ren := .sm } rfl) <| AR.op rfl (aop_move (.inl rfl) rfl) <| AR.keep [2, 3, 4, 5, 10] rfl <| AR.op (r := i64 r4.2.1) rfl (aop_extract rfl rfl rfl) <| AR.op (r := i64 r4.2.2) rfl (aop_extract rfl rfl rfl) <| AR.op rfl (aop_store (e' := i64 r4.2.1) rfl rfl rfl rfl rfl rfl sz3 rfl dt rfl) ?_
   refine AR.keep [2, 3, 4, 5, 14] rfl <| AR.op rfl (aop_store (e' := i64 r4.2.2) rfl rfl rfl rfl rfl rfl sz3 rfl dt rfl) <| AR.nil <| hK4 _ (AWP.weak (Weak.re (fr' := [(2, .ref 0 0 0), (3, .ref 1 0 0), (4, .ref 2 0 0), (5, .ref 3 0 0)]) (H' := ⟨4, [(0, (1, [i64 r4.2.1])), (1, (1, [i64 r4.2.2])), (2, (1, [bl false])), (3, (1, [G.refute_reader.av r4.1]))], []⟩) [(0, 0), (1, 1), (2, 2), (3, 3)] [] rfl rfl rfl (.cons rfl rfl (.one (.sm) rfl) dt (.cons rfl rfl (.one (.sm) rfl) dt (.cons rfl rfl (.one (.sm) rfl) dt (.cons rfl rfl (.one (.sm) rfl) dt trivial)))) ⟨⟨_, rfl, .ref rfl⟩, ⟨_, rfl, .ref rfl⟩, ⟨_, rfl, .ref rfl⟩, ⟨_, rfl, .ref rfl⟩, trivial⟩) ?_)
   refine awp_seqK fun K5 hK5 => ?_
   by_cases he : (0 : Int) < Sh.len r4.1.left
   ·rw [if_pos (decide_eq_true he)] at h; subst h
    refine awp_regP (Hp := ⟨5, [(0, (1, [i64 r4.2.1])), (1, (1, [i64 r4.2.2])), (2, (1, [bl false])), (3, (1, [G.refute_reader.av r4.1]))], []⟩) 1 rfl rfl rfl ?_
    ·refine AR.op (r := .ref 3 0 0) rfl (aop_move (.inl rfl) rfl) <| AR.nil ⟨rfl, ?_, fun ch hch => ?_⟩
     ·exact aopP_call3 (ok := NoId) (ys := [.ref 3 0 0]) (xs := [.ref 0 0 0]) (r := .any) (r' := .any) (Hs := ⟨4, [(3, (1, [G.refute_reader.av r4.1]))], []⟩) (g := [(0, 3)]) (m := [(0, 3)]) (nw := []) (p := 1) rfl rfl (shp_endP hT he) { next := rfl, part := ⟨rfl, trivial⟩, inj := rfl, lt := rfl, nwf := rfl, gin := rfl, held := .cons rfl rfl (.one (.sm) rfl) dt trivial, seen := ⟨⟨_, rfl, .ref rfl⟩, trivial⟩, inlps := rfl, ple := rfl, map := rfl, next' := rfl, back := .kept rfl rfl (.kept rfl rfl (.kept rfl rfl (.new 0 rfl rfl (.one ⟨.sm, trivial⟩) trivial))), lps := .inl ⟨rfl, rfl⟩, mode := .inr ⟨fun _ h => h, rfl⟩, ren := .any _ } rfl
     ·exact .inr ⟨⟨ch, rfl, hch⟩, ⟨r4.2.1, r4.2.2, false, Weak.re [(0, 0), (1, 1), (2, 2)] [] rfl rfl rfl (.cons rfl rfl (.one (.sm) rfl) dt (.cons rfl rfl (.one (.sm) rfl) dt (.cons rfl rfl (.one (.sm) rfl) dt trivial))) ⟨⟨_, rfl, .ref rfl⟩, ⟨_, rfl, .ref rfl⟩, ⟨_, rfl, .ref rfl⟩, trivial⟩⟩, rfl⟩
   ·rw [if_neg (by simpa using he)] at h; subst h
    have hr6 : G.refute_reader_end__1 r4.1 = some () := by unfold G.refute_reader_end__1; rw [if_neg (by simpa using he)]
    refine awp_reg rfl <| AR.op rfl (aop_move (.inl rfl) rfl) <| AR.op (r := .tuple []) rfl (aop_call3E (ok := NoId) (ys := [.ref 3 0 0]) (xs := [.ref 0 0 0]) (r' := .tuple []) (Hs := ⟨4, [(3, (1, [G.refute_reader.av r4.1]))], []⟩) (H' := ⟨5, [(0, (1, [i64 r4.2.1])), (1, (1, [i64 r4.2.2])), (2, (1, [bl false])), (3, (1, [G.refute_reader.av r4.1]))], []⟩) (g := [(0, 3)]) (m := [(0, 3)]) (nw := []) (p := 1) (.func rfl rfl (refute_reader_end__1_ok hT hr6).call) (refute_reader_end__1_ok hT hr6) { next := rfl, part := ⟨rfl, trivial⟩, inj := rfl, lt := rfl, nwf := rfl, gin := rfl, held := .cons rfl rfl (.one (.sm) rfl) dt trivial, seen := ⟨⟨_, rfl, .ref rfl⟩, trivial⟩, inlps := rfl, ple := rfl, map := rfl, next' := rfl, back := .kept rfl rfl (.kept rfl rfl (.kept rfl rfl (.new 0 rfl rfl (.one ⟨.sm, trivial⟩) trivial))), lps := .inl ⟨rfl, rfl⟩, mode := .inr ⟨fun _ h => h, rfl⟩, ren := .sm } rfl) <| AR.nil <| hK5 _ (AWP.weak (Weak.re (fr' := [(2, .ref 0 0 0), (3, .ref 1 0 0), (4, .ref 2 0 0)]) (H' := ⟨3, [(0, (1, [i64 r4.2.1])), (1, (1, [i64 r4.2.2])), (2, (1, [bl false]))], []⟩) [(0, 0), (1, 1), (2, 2)] [] rfl rfl rfl (.cons rfl rfl (.one (.sm) rfl) dt (.cons rfl rfl (.one (.sm) rfl) dt (.cons rfl rfl (.one (.sm) rfl) dt trivial))) ⟨⟨_, rfl, .ref rfl⟩, ⟨_, rfl, .ref rfl⟩, ⟨_, rfl, .ref rfl⟩, trivial⟩) ?_)
    refine awp_seqK fun K6 hK6 => awp_anyF [] (some 0) (by kernel_rfl) (by kernel_rfl) rfl ?_
    refine ARH.fork ?_
    refine AF.many 0 [1] (by kernel_rfl) ⟨?_, ?_, trivial⟩
    ·refine AF1.loud (r := i64 r4.2.1) _ rfl rfl rfl (aop_load_ref rfl rfl rfl rfl sz3 rfl) ?_
     refine AF.many 1 [2] (by kernel_rfl) ⟨?_, ?_, trivial⟩
     ·refine AF1.loud (r := i64 r4.2.2) _ rfl rfl rfl (aop_load_ref rfl rfl rfl rfl sz3 rfl) ?_
      refine AF.many 2 [] (by kernel_rfl) ⟨?_, trivial⟩
      ·refine AF1.loud _ rfl rfl rfl (aop_store (e' := i64 r4.2.1) rfl rfl rfl rfl rfl rfl sz3 rfl dt rfl) ?_
       refine AF.many 3 [] (by kernel_rfl) ⟨?_, trivial⟩
       ·refine AF1.loud _ rfl rfl rfl (aop_store (e' := i64 r4.2.2) rfl rfl rfl rfl rfl rfl sz3 rfl dt rfl) ?_
        refine AF.many 4 [] (by kernel_rfl) ⟨?_, trivial⟩
        ·refine AF1.loud _ rfl rfl rfl (aop_store (e' := bl true) rfl rfl rfl rfl rfl rfl sz4 rfl dt rfl) ?_
         refine AF.done (by kernel_rfl) ?_
         refine hK6 _ (AWP.weak (Weak.kt [2, 3, 4] rfl) ?_)
         refine awp_ret ?_
         exact .inl ⟨.inr rfl, i64 r4.2.1, i64 r4.2.2, bl true, Weak.kt [2, 3, 4] rfl, rfl⟩
     ·refine AF1.loud _ rfl rfl rfl (aop_store (e' := i64 r4.2.1) rfl rfl rfl rfl rfl rfl sz3 rfl dt rfl) ?_
      refine AF.many 1 [] (by kernel_rfl) ⟨?_, trivial⟩
      ·refine AF1.loud (r := i64 r4.2.2) _ rfl rfl rfl (aop_load_ref rfl rfl rfl rfl sz3 rfl) ?_
       refine AF.many 3 [] (by kernel_rfl) ⟨?_, trivial⟩
       ·refine AF1.loud _ rfl rfl rfl (aop_store (e' := i64 r4.2.2) rfl rfl rfl rfl rfl rfl sz3 rfl dt rfl) ?_
        refine AF.many 4 [] (by kernel_rfl) ⟨?_, trivial⟩
        ·refine AF1.loud _ rfl rfl rfl (aop_store (e' := bl true) rfl rfl rfl rfl rfl rfl sz4 rfl dt rfl) ?_
         refine AF.done (by kernel_rfl) ?_
         refine hK6 _ (AWP.weak (Weak.kt [2, 3, 4] rfl) ?_)
         refine awp_ret ?_
         exact .inl ⟨.inr rfl, i64 r4.2.1, i64 r4.2.2, bl true, Weak.kt [2, 3, 4] rfl, rfl⟩
    ·refine AF1.loud (r := i64 r4.2.2) _ rfl rfl rfl (aop_load_ref rfl rfl rfl rfl sz3 rfl) ?_
     refine AF.many 0 [] (by kernel_rfl) ⟨?_, trivial⟩
     ·refine AF1.loud (r := i64 r4.2.1) _ rfl rfl rfl (aop_load_ref rfl rfl rfl rfl sz3 rfl) ?_
      refine AF.many 2 [] (by kernel_rfl) ⟨?_, trivial⟩
      ·refine AF1.loud _ rfl rfl rfl (aop_store (e' := i64 r4.2.1) rfl rfl rfl rfl rfl rfl sz3 rfl dt rfl) ?_
       refine AF.many 3 [] (by kernel_rfl) ⟨?_, trivial⟩
       ·refine AF1.loud _ rfl rfl rfl (aop_store (e' := i64 r4.2.2) rfl rfl rfl rfl rfl rfl sz3 rfl dt rfl) ?_
        refine AF.many 4 [] (by kernel_rfl) ⟨?_, trivial⟩
        ·refine AF1.loud _ rfl rfl rfl (aop_store (e' := bl true) rfl rfl rfl rfl rfl rfl sz4 rfl dt rfl) ?_
         refine AF.done (by kernel_rfl) ?_
         refine hK6 _ (AWP.weak (Weak.kt [2, 3, 4] rfl) ?_)
         refine awp_ret ?_
         exact .inl ⟨.inr rfl, i64 r4.2.1, i64 r4.2.2, bl true, Weak.kt [2, 3, 4] rfl, rfl⟩


theorem refute_Check__c_2_ok0 {W0 : World} (hT : Tab W0) {h_0 : G.api_Hist} {r : Bool} (h : G.refute_Check__c_2 h_0 = some r) : Fun2 Tryz.prog W0 38 [G.api_Hist.av h_0, i64 0, .sl (List.map G.api_Choice.av []), .sl (List.map G.refute_Node.av [])] (bl r) .empty := by
 refine fun2_of_awp Tryz.func38 rfl (by kernel_rfl) Tryz.ntmps38 (by simp) ?_
 unfold G.refute_Check__c_2 at h
 show AWP _ _ _ _ ⟨[(0, G.api_Hist.av h_0), (1, i64 0), (2, .sl (List.map G.api_Choice.av [])), (3, .sl (List.map G.refute_Node.av []))], .empty⟩ _
 refine awp_seqK fun K1 hK1 => awp_reg rfl <| AR.op (r := .ref 0 0 0) rfl (aop_box 1 [G.api_Hist.av h_0] rfl rfl rfl (.inl ⟨rfl, rfl⟩)) <| AR.op rfl (aop_move (.inr rfl) rfl) <| AR.nil <| hK1 _ (AWP.weak (Weak.e (fr' := [(1, i64 0), (2, .sl (List.map G.api_Choice.av [])), (3, .sl (List.map G.refute_Node.av [])), (4, .pp [.sl (List.map G.api_Txn.av h_0.Txns)] 0)]) (H' := .empty) ⟨.k, ⟨.sl (List.map G.api_Choice.av []), rfl, .sm⟩, ⟨.sl (List.map G.refute_Node.av []), rfl, .sm⟩, ⟨_, rfl, .frzA rfl rfl rfl rfl (by simp)⟩, trivial⟩) ?_)
 refine awp_seqK fun K2 hK2 => awp_seqK fun K3 hK3 => awp_reg rfl <| AR.op rfl (aop_move (.inl rfl) rfl) ?_
 obtain ⟨r4, hr4, h⟩ := Sh.bind_some' h
 obtain rfl : r4 = (0, 0, false) := Option.some.inj (hr4.symm.trans (show G.refute_Shape [] = some (0, 0, false) by kernel_rfl))
 refine AR.op (r := .tuple [i64 0, i64 0, bl false]) rfl (aop_call1 rfl rfl (by simp) (refute_Shape_ok hT hr4)) <| AR.op rfl (aop_move (.inl rfl) rfl) <| AR.keep [1, 2, 3, 4, 12] rfl <| AR.op (r := i64 0) rfl (aop_extract rfl rfl rfl) <| AR.op (r := i64 0) rfl (aop_extract rfl rfl rfl) <| AR.op (r := bl false) rfl (aop_extract rfl rfl rfl) <| AR.keep [1, 2, 3, 4, 15, 16, 17] rfl <| AR.op rfl (aop_move (.inr rfl) rfl) ?_
 refine AR.op rfl (aop_move (.inr rfl) rfl) <| AR.op rfl (aop_move (.inr rfl) rfl) <| AR.nil <| hK3 _ (AWP.weak (Weak.kt [1, 2, 3, 4, 11] rfl) ?_)
 refine awp_seqK fun K4 hK4 => awp_reg rfl <| AR.op rfl (aop_move (.inl rfl) rfl) <| AR.op (r := bl true) rfl (aop_not (b := false) rfl rfl) <| AR.op rfl (aop_move (.inl rfl) rfl) <| AR.keep [1, 2, 3, 4, 20] rfl <| AR.skip rfl <| AR.skip rfl ?_
 refine AR.skip rfl <| AR.keep [1, 2, 3, 4, 20, 23] rfl <| AR.op rfl (aop_pick rfl rfl rfl) <| AR.op rfl (aop_move (.inl rfl) rfl) <| AR.skip rfl <| AR.keep [1, 2, 3, 4, 25, 26] rfl <| AR.skip rfl <| AR.skip rfl ?_
 refine AR.skip rfl <| AR.keep [1, 2, 3, 4, 25, 28, 29] rfl <| AR.skip rfl <| AR.skip rfl <| AR.op rfl (aop_pick rfl rfl rfl) <| AR.nil <| hK4 _ (AWP.weak (Weak.kt [1, 2, 3, 4, 32] rfl) ?_)
 refine awp_cond_t rfl ?_
 refine awp_seqK fun K5 hK5 => awp_reg rfl <| AR.op rfl (aop_move (.inr rfl) rfl) <| AR.nil <| hK5 _ (AWP.weak (Weak.kt [8] rfl) ?_)
 refine awp_ret ?_
 obtain rfl := Option.some.inj h
 refine ⟨.inr rfl, bl false, rfl, ?_⟩
 exact Weak.e ⟨.k, trivial⟩
theorem refute_Check__c_2_ok {W0 : World} (hT : Tab W0) {h_0 : G.api_Hist} {r : Bool} (h : G.refute_Check__c_2 h_0 = some r) : Fun1 Tryz.prog W0 38 [G.api_Hist.av h_0, i64 0, .sl (List.map G.api_Choice.av []), .sl (List.map G.refute_Node.av [])] (bl r) := Fun1.two (refute_Check__c_2_ok0 hT h) (by simp)

end Wk
