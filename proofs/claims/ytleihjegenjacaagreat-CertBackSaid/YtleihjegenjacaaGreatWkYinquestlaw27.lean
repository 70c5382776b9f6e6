/- That the functions of a package do what their plain functions say. -/
import Derived.Test.YtleihjegenjacaaGreatSh
import Derived.Test.YtleihjegenjacaaGreatWkYFacts
import Derived.Test.YtleihjegenjacaaGreatWkYcert
import Derived.Test.YtleihjegenjacaaGreatWkYinquestref27
open Go Go.Av Go.Proofs
set_option linter.unusedVariables false
set_option maxHeartbeats 8000000
set_option maxRecDepth 20000
namespace Wk
theorem inquestlaw27_Plain_own {W0 : World} (hT : Tab W0) {c_0 : G.cert_Cert} {r : G.inquestref27_C} (h : G.inquestlaw27_Plain c_0 = some r) : Fun2 Tryz.prog W0 10 [G.cert_Cert.av c_0] (.agg [i64 r.Level, bl r.Yes, .sl (List.map i64 r.Order), .view 0 0 (List.map G.inquestref21_R.av r.Rows).length, .view 1 0 (List.map G.inquestref24_N.av r.Tree).length]) ⟨2, [(0, (2, List.map G.inquestref21_R.av r.Rows)), (1, (4, List.map G.inquestref24_N.av r.Tree))], []⟩ := by
 refine fun2_of_awp Tryz.func10 rfl (by kernel_rfl) Tryz.ntmps10 (by simp) ?_
 unfold G.inquestlaw27_Plain at h
 show AWP _ _ _ _ ⟨[(0, G.cert_Cert.av c_0)], .empty⟩ _
 refine awp_seqK fun K1 hK1 => awp_reg rfl <| AR.op (r := .ref 0 0 0) rfl (aop_box 5 [G.cert_Cert.av c_0] rfl rfl rfl (.inl ⟨rfl, rfl⟩)) <| AR.op (r := .ref 1 0 0) rfl (aop_alloc 5 [.agg [i64 0, bl false, nilS, nilS, nilS]] rfl zr36 (by kernel_rfl) (.inl ⟨rfl, rfl⟩)) <| AR.nil <| hK1 _ (AWP.weak (Weak.re (fr' := [(1, .pp [i64 c_0.Level, bl c_0.Yes, .sl (List.map i64 c_0.Order), .sl (List.map G.si_Row.av c_0.Rows), .sl (List.map G.refute_Node.av c_0.Tree)] 0), (2, .ref 0 0 0)]) (H' := ⟨1, [(0, (5, [.agg [i64 0, bl false, nilS, nilS, nilS]]))], []⟩) [(0, 1)] [] rfl rfl rfl (.cons rfl rfl (.one (.sm) rfl) dt trivial) ⟨⟨_, rfl, .frzA rfl rfl rfl rfl (by simp)⟩, ⟨_, rfl, .ref rfl⟩, trivial⟩) ?_)
 refine awp_seqK fun K2 hK2 => awp_reg rfl <| AR.op rfl (aop_field_pp rfl rfl fd29_0 (by decide)) <| AR.op (r := i64 c_0.Level) rfl (aop_load_pp rfl rfl sz3 rfl) <| AR.op rfl (aop_field_pp rfl rfl fd29_1 (by decide)) <| AR.keep [1, 2, 7, 8] rfl <| AR.op (r := bl c_0.Yes) rfl (aop_load_pp rfl rfl sz4 rfl) <| AR.op rfl (aop_field_pp rfl rfl fd29_2 (by decide)) ?_
 refine AR.op (r := .sl (List.map i64 c_0.Order)) rfl (aop_load_pp rfl rfl sz25 rfl) <| AR.keep [1, 2, 7, 9, 11] rfl <| AR.op (r := .agg [i64 c_0.Level, bl c_0.Yes, .sl (List.map i64 c_0.Order), nilS, nilS]) rfl (aop_build rfl bd36 rfl rfl rfl) <| AR.op (r := .ref 1 0 0) rfl (aop_alloc 5 [.agg [i64 0, bl false, nilS, nilS, nilS]] rfl zr36 (by kernel_rfl) (.inl ⟨rfl, rfl⟩)) <| AR.op rfl (aop_store (e' := .agg [i64 c_0.Level, bl c_0.Yes, .sl (List.map i64 c_0.Order), nilS, nilS]) rfl rfl rfl rfl rfl rfl sz36 rfl dt rfl) <| AR.nil <| hK2 _ (AWP.weak (Weak.kt [1, 2, 3] rfl) ?_)
 refine awp_seqJ (fun (p : (List G.inquestref21_R)) => (⟨[(1, .pp [i64 c_0.Level, bl c_0.Yes, .sl (List.map i64 c_0.Order), .sl (List.map G.si_Row.av c_0.Rows), .sl (List.map G.refute_Node.av c_0.Tree)] 0), (2, .ref 0 0 0), (3, .ref 1 0 0)], ⟨3, [(0, (5, [.agg [i64 0, bl false, nilS, nilS, nilS]])), (1, (5, [.agg [i64 c_0.Level, bl c_0.Yes, .sl (List.map i64 c_0.Order), .view 2 0 (List.map G.inquestref21_R.av p).length, nilS]])), (2, (2, List.map G.inquestref21_R.av p))], []⟩⟩ : St)) (fun (p : (List G.inquestref21_R)) => G.inquestlaw27_Plain_j1 c_0 p = some r) ?_ ?_
 ·rintro v58 h
  replace h : G.inquestlaw27_Plain_j1 c_0 v58 = some r := h
  unfold G.inquestlaw27_Plain_j1 at h
  refine awp_seqJ (fun (p : (List G.inquestref24_N)) => (⟨[(2, .ref 0 0 0), (3, .ref 1 0 0)], ⟨4, [(0, (5, [.agg [i64 0, bl false, nilS, nilS, nilS]])), (1, (5, [.agg [i64 c_0.Level, bl c_0.Yes, .sl (List.map i64 c_0.Order), .view 2 0 (List.map G.inquestref21_R.av v58).length, .view 3 0 (List.map G.inquestref24_N.av p).length]])), (2, (2, List.map G.inquestref21_R.av v58)), (3, (4, List.map G.inquestref24_N.av p))], []⟩⟩ : St)) (fun (p : (List G.inquestref24_N)) => G.inquestlaw27_Plain_j2 c_0 v58 p = some r) ?_ ?_
  ·rintro v78 h
   replace h : G.inquestlaw27_Plain_j2 c_0 v58 v78 = some r := h
   unfold G.inquestlaw27_Plain_j2 at h
   refine awp_seqK fun K3 hK3 => awp_reg rfl <| AR.op (r := .agg [i64 c_0.Level, bl c_0.Yes, .sl (List.map i64 c_0.Order), .view 2 0 (List.map G.inquestref21_R.av v58).length, .view 3 0 (List.map G.inquestref24_N.av v78).length]) rfl (aop_load_ref rfl rfl rfl rfl sz36 rfl) <| AR.op rfl (aop_store (e' := .agg [i64 c_0.Level, bl c_0.Yes, .sl (List.map i64 c_0.Order), .view 2 0 (List.map G.inquestref21_R.av v58).length, .view 3 0 (List.map G.inquestref24_N.av v78).length]) rfl rfl rfl rfl rfl rfl sz36 rfl dt rfl) <| AR.nil <| hK3 _ (AWP.weak (Weak.re (fr' := [(2, .ref 0 0 0)]) (H' := ⟨3, [(0, (5, [.agg [i64 c_0.Level, bl c_0.Yes, .sl (List.map i64 c_0.Order), .view 1 0 (List.map G.inquestref21_R.av v58).length, .view 2 0 (List.map G.inquestref24_N.av v78).length]])), (1, (2, List.map G.inquestref21_R.av v58)), (2, (4, List.map G.inquestref24_N.av v78))], []⟩) [(0, 0), (1, 2), (2, 3)] [] rfl rfl rfl (.cons rfl rfl (.one (.ag ⟨.sm, .sm, .sm, .view rfl, .view rfl, trivial⟩) rfl) dt (.cons rfl rfl (.same (by simp)) dt (.cons rfl rfl (.same (by simp)) dt trivial))) ⟨⟨_, rfl, .ref rfl⟩, trivial⟩) ?_)
   refine awp_ret ?_
   obtain rfl := Option.some.inj h
   refine ⟨.inr rfl, .agg [i64 c_0.Level, bl c_0.Yes, .sl (List.map i64 c_0.Order), .view 1 0 (List.map G.inquestref21_R.av v58).length, .view 2 0 (List.map G.inquestref24_N.av v78).length], rfl, ?_⟩
   exact Weak.re [(0, 1), (1, 2)] [] rfl rfl rfl (.cons rfl rfl (.same (by simp)) dt (.cons rfl rfl (.same (by simp)) dt trivial)) ⟨⟨.agg [i64 c_0.Level, bl c_0.Yes, .sl (List.map i64 c_0.Order), .view 1 0 (List.map G.inquestref21_R.av v58).length, .view 2 0 (List.map G.inquestref24_N.av v78).length], rfl, .ag ⟨.sm, .sm, .sm, .view rfl, .view rfl, trivial⟩⟩, trivial⟩
  ·intro K4 hK4
   refine awp_seqK fun K5 hK5 => awp_reg rfl <| AR.op rfl (aop_move (.inr rfl) rfl) <| AR.nil <| hK5 _ ?_
   refine awp_block <| awp_iter (fun (p : (List G.inquestref24_N) × Int) => G.inquestlaw27_Plain_b1 c_0 v58 p.1 p.2) (fun (p : (List G.inquestref24_N) × Int) => (⟨[(1, .pp [i64 c_0.Level, bl c_0.Yes, .sl (List.map i64 c_0.Order), .sl (List.map G.si_Row.av c_0.Rows), .sl (List.map G.refute_Node.av c_0.Tree)] 0), (2, .ref 0 0 0), (3, .ref 1 0 0), (5, i64 p.2)], ⟨4, [(0, (5, [.agg [i64 0, bl false, nilS, nilS, nilS]])), (1, (5, [.agg [i64 c_0.Level, bl c_0.Yes, .sl (List.map i64 c_0.Order), .view 2 0 (List.map G.inquestref21_R.av v58).length, .view 3 0 (List.map G.inquestref24_N.av p.1).length]])), (2, (2, List.map G.inquestref21_R.av v58)), (3, (4, List.map G.inquestref24_N.av p.1))], []⟩⟩ : St)) h (Weak.re [(0, 0), (1, 1), (2, 2)] [3] rfl rfl rfl (.cons rfl rfl (.one (.sm) rfl) dt (.cons rfl rfl (.one (.ag ⟨.sm, .sm, .sm, .view rfl, .nil (by simp), trivial⟩) rfl) dt (.cons rfl rfl (.same (by simp)) dt (.fresh (by simp) dt trivial)))) ⟨.k, ⟨_, rfl, .ref rfl⟩, ⟨_, rfl, .ref rfl⟩, .k, trivial⟩) ?_
   ·skip
    rintro ⟨outTree91, i92⟩ o1 h hx1
    replace h : G.inquestlaw27_Plain_b1 c_0 v58 outTree91 i92 = some o1 := h
    unfold G.inquestlaw27_Plain_b1 at h
    refine awp_seqK fun K6 hK6 => awp_seqK fun K7 hK7 => awp_reg rfl <| AR.op rfl (aop_move (.inl rfl) rfl) <| AR.op rfl (aop_field_pp rfl rfl fd29_4 (by decide)) <| AR.op (r := .sl (List.map G.refute_Node.av c_0.Tree)) rfl (aop_load_pp rfl rfl sz27 rfl) <| AR.keep [1, 2, 3, 5, 38, 40] rfl <| AR.op rfl (t_len_sl G.refute_Node.av c_0.Tree rfl rfl el27) ?_
    refine AR.op rfl (aop_lss rfl rfl rfl) <| AR.nil <| hK7 _ (AWP.weak (Weak.kt [1, 2, 3, 5, 42] rfl) ?_)
    refine awp_cond rfl (fun hb93 => ?_) (fun hb93 => ?_)
    ·replace h := Sh.if_t h hb93
     refine awp_skip <| hK6 _ (AWP.weak (Weak.kt [1, 2, 3, 5] rfl) ?_)
     refine awp_seqK fun K8 hK8 => awp_block <| awp_any [(false, false), (false, false), (true, false), (true, false), (true, false), (true, false), (true, false), (true, false), (true, false), (true, false), (true, false), (true, false), (true, false), (true, false), (true, false), (true, false), (false, true), (false, false), (false, true)] (by kernel_rfl) (by kernel_rfl) rfl ?_
     refine ARH.op rfl rfl (aop_field_ref rfl rfl rfl fd36_4 (by decide)) <| ARH.op (r := .view 3 0 (List.map G.inquestref24_N.av outTree91).length) rfl rfl (aop_load_ref rfl rfl rfl rfl sz34 rfl) <| ARH.dry rfl (fun _ => aop_field_pp rfl rfl fd29_4 (by decide)) <| ARH.keep [1, 2, 3, 5, 46, 47] rfl <| ARH.dry (r := .sl (List.map G.refute_Node.av c_0.Tree)) rfl (fun _ => aop_load_pp rfl rfl sz27 rfl) <| ARH.dry rfl (fun _ => aop_move (.inl rfl) rfl) ?_
     obtain ⟨x99, hx99, h⟩ := Sh.bind_some' h
     obtain ⟨k100, hi100, hl100⟩ := Sh.idx_some hx99
     refine ARH.dry rfl (fun _ => t_index_sl G.refute_Node.av c_0.Tree hi100 hl100 rfl rfl rfl el27 rfl) <| ARH.keep [1, 2, 3, 5, 46, 50] rfl <| ARH.dry rfl (fun _ => aop_field_pp rfl rfl fd69_0 (by decide)) <| ARH.dry (r := G.api_Choice.av x99.C) rfl (fun _ => aop_load_pp rfl rfl sz67 rfl) <| ARH.dry rfl (fun _ => aop_field_pp rfl rfl fd29_4 (by decide)) <| ARH.keep [1, 2, 3, 5, 46, 52, 53] rfl <| ARH.dry (r := .sl (List.map G.refute_Node.av c_0.Tree)) rfl (fun _ => aop_load_pp rfl rfl sz27 rfl) <| ARH.dry rfl (fun _ => aop_move (.inl rfl) rfl) ?_
     obtain ⟨x101, hx101, h⟩ := Sh.bind_some' h
     obtain ⟨k102, hi102, hl102⟩ := Sh.idx_some hx101
     refine ARH.dry rfl (fun _ => t_index_sl G.refute_Node.av c_0.Tree hi102 hl102 rfl rfl rfl el27 rfl) <| ARH.keep [1, 2, 3, 5, 46, 52, 56] rfl <| ARH.dry rfl (fun _ => aop_field_pp rfl rfl fd69_1 (by decide)) <| ARH.dry (r := .sl (List.map i64 x101.Cycle)) rfl (fun _ => aop_load_pp rfl rfl sz25 rfl) <| ARH.dry (r := .agg [i64 x99.C.Key, i64 x99.C.A, i64 x99.C.B, .sl (List.map i64 x101.Cycle)]) rfl (fun _ => aop_build rfl bd71 rfl rfl rfl) <| ARH.keep [1, 2, 3, 5, 46, 59] rfl <| ARH.dry (r := .clip (List.map G.inquestref24_N.av ([(G.inquestref24_N.mk (G.api_Choice.mk x99.C.Key x99.C.A x99.C.B) x101.Cycle)] : List G.inquestref24_N))) rfl (fun _ => aop_buildSlice rfl (xo := [.tmp 59]) rfl rfl rfl (by simp) (by simp) el34 ze34 (by decide)) ?_
     obtain ⟨l103, hl103, h⟩ := Sh.bind_some' h
     refine ARH.loud (r := .view 4 0 (List.map G.inquestref24_N.av l103).length) rfl rfl (t_app_view G.inquestref24_N.av outTree91 ([(G.inquestref24_N.mk (G.api_Choice.mk x99.C.Key x99.C.A x99.C.B) x101.Cycle)] : List G.inquestref24_N) l103 hl103 rfl et34 (fun _ => rfl) rfl rfl rfl rfl rfl rfl rfl) <| ARH.op rfl rfl (aop_field_ref rfl rfl rfl fd36_4 (by decide)) <| ARH.keep [1, 2, 3, 5, 61, 62] rfl <| ARH.loud rfl rfl (aop_store (e' := .agg [i64 c_0.Level, bl c_0.Yes, .sl (List.map i64 c_0.Order), .view 2 0 (List.map G.inquestref21_R.av v58).length, .view 4 0 (List.map G.inquestref24_N.av l103).length]) rfl rfl rfl rfl rfl rfl sz34 rfl dt rfl) <| ARH.nil <| hK8 _ (AWP.weak (Weak.re (fr' := [(1, .pp [i64 c_0.Level, bl c_0.Yes, .sl (List.map i64 c_0.Order), .sl (List.map G.si_Row.av c_0.Rows), .sl (List.map G.refute_Node.av c_0.Tree)] 0), (2, .ref 0 0 0), (3, .ref 1 0 0), (5, i64 i92)]) (H' := ⟨4, [(0, (5, [.agg [i64 0, bl false, nilS, nilS, nilS]])), (1, (5, [.agg [i64 c_0.Level, bl c_0.Yes, .sl (List.map i64 c_0.Order), .view 2 0 (List.map G.inquestref21_R.av v58).length, .view 3 0 (List.map G.inquestref24_N.av l103).length]])), (2, (2, List.map G.inquestref21_R.av v58)), (3, (4, List.map G.inquestref24_N.av l103))], []⟩) [(0, 0), (1, 1), (2, 2), (3, 4)] [] rfl rfl rfl (.cons rfl rfl (.one (.sm) rfl) dt (.cons rfl rfl (.one (.ag ⟨.sm, .sm, .sm, .view rfl, .view rfl, trivial⟩) rfl) dt (.cons rfl rfl (.same (by simp)) dt (.cons rfl rfl (.same (by simp)) dt trivial)))) ⟨.k, ⟨_, rfl, .ref rfl⟩, ⟨_, rfl, .ref rfl⟩, .k, trivial⟩) ?_)
     refine awp_reg rfl <| AR.op rfl (aop_move (.inl rfl) rfl) <| AR.op rfl (aop_add rfl rfl rfl rfl) <| AR.op rfl (aop_move (.inr rfl) rfl) <| AR.nil ?_
     replace h := Sh.next_eq h
     exact ⟨_, h, Weak.kt [1, 2, 3, 5] rfl⟩
    ·replace h := Sh.if_f h hb93
     refine awp_exit ?_
     replace h := Sh.exit_eq h hx1
     exact hK4 outTree91 _ h (Weak.kt [2, 3] rfl)
 ·intro K9 hK9
  refine awp_seqK fun K10 hK10 => awp_reg rfl <| AR.op rfl (aop_move (.inr rfl) rfl) <| AR.nil <| hK10 _ ?_
  refine awp_block <| awp_iter (fun (p : (List G.inquestref21_R) × Int) => G.inquestlaw27_Plain_b2 c_0 p.1 p.2) (fun (p : (List G.inquestref21_R) × Int) => (⟨[(1, .pp [i64 c_0.Level, bl c_0.Yes, .sl (List.map i64 c_0.Order), .sl (List.map G.si_Row.av c_0.Rows), .sl (List.map G.refute_Node.av c_0.Tree)] 0), (2, .ref 0 0 0), (3, .ref 1 0 0), (4, i64 p.2)], ⟨3, [(0, (5, [.agg [i64 0, bl false, nilS, nilS, nilS]])), (1, (5, [.agg [i64 c_0.Level, bl c_0.Yes, .sl (List.map i64 c_0.Order), .view 2 0 (List.map G.inquestref21_R.av p.1).length, nilS]])), (2, (2, List.map G.inquestref21_R.av p.1))], []⟩⟩ : St)) h (Weak.re [(0, 0), (1, 1)] [2] rfl rfl rfl (.cons rfl rfl (.one (.sm) rfl) dt (.cons rfl rfl (.one (.ag ⟨.sm, .sm, .sm, .nil (by simp), .sm, trivial⟩) rfl) dt (.fresh (by simp) dt trivial))) ⟨.k, ⟨_, rfl, .ref rfl⟩, ⟨_, rfl, .ref rfl⟩, .k, trivial⟩) ?_
  ·skip
   rintro ⟨outRows116, i117⟩ o2 h hx2
   replace h : G.inquestlaw27_Plain_b2 c_0 outRows116 i117 = some o2 := h
   unfold G.inquestlaw27_Plain_b2 at h
   refine awp_seqK fun K11 hK11 => awp_seqK fun K12 hK12 => awp_reg rfl <| AR.op rfl (aop_move (.inl rfl) rfl) <| AR.op rfl (aop_field_pp rfl rfl fd29_3 (by decide)) <| AR.op (r := .sl (List.map G.si_Row.av c_0.Rows)) rfl (aop_load_pp rfl rfl sz26 rfl) <| AR.keep [1, 2, 3, 4, 13, 15] rfl <| AR.op rfl (t_len_sl G.si_Row.av c_0.Rows rfl rfl el26) ?_
   refine AR.op rfl (aop_lss rfl rfl rfl) <| AR.nil <| hK12 _ (AWP.weak (Weak.kt [1, 2, 3, 4, 17] rfl) ?_)
   refine awp_cond rfl (fun hb118 => ?_) (fun hb118 => ?_)
   ·replace h := Sh.if_t h hb118
    refine awp_skip <| hK11 _ (AWP.weak (Weak.kt [1, 2, 3, 4] rfl) ?_)
    refine awp_seqK fun K13 hK13 => awp_block <| awp_any [(false, false), (false, false), (true, false), (true, false), (true, false), (true, false), (true, false), (true, false), (true, false), (true, false), (true, false), (true, false), (true, false), (true, false), (true, false), (true, false), (false, true), (false, false), (false, true)] (by kernel_rfl) (by kernel_rfl) rfl ?_
    refine ARH.op rfl rfl (aop_field_ref rfl rfl rfl fd36_3 (by decide)) <| ARH.op (r := .view 2 0 (List.map G.inquestref21_R.av outRows116).length) rfl rfl (aop_load_ref rfl rfl rfl rfl sz33 rfl) <| ARH.dry rfl (fun _ => aop_field_pp rfl rfl fd29_3 (by decide)) <| ARH.keep [1, 2, 3, 4, 21, 22] rfl <| ARH.dry (r := .sl (List.map G.si_Row.av c_0.Rows)) rfl (fun _ => aop_load_pp rfl rfl sz26 rfl) <| ARH.dry rfl (fun _ => aop_move (.inl rfl) rfl) ?_
    obtain ⟨x124, hx124, h⟩ := Sh.bind_some' h
    obtain ⟨k125, hi125, hl125⟩ := Sh.idx_some hx124
    refine ARH.dry rfl (fun _ => t_index_sl G.si_Row.av c_0.Rows hi125 hl125 rfl rfl rfl el26 rfl) <| ARH.keep [1, 2, 3, 4, 21, 25] rfl <| ARH.dry rfl (fun _ => aop_field_pp rfl rfl fd65_0 (by decide)) <| ARH.dry (r := i64 x124.Key) rfl (fun _ => aop_load_pp rfl rfl sz3 rfl) <| ARH.dry rfl (fun _ => aop_field_pp rfl rfl fd29_3 (by decide)) <| ARH.keep [1, 2, 3, 4, 21, 27, 28] rfl <| ARH.dry (r := .sl (List.map G.si_Row.av c_0.Rows)) rfl (fun _ => aop_load_pp rfl rfl sz26 rfl) <| ARH.dry rfl (fun _ => aop_move (.inl rfl) rfl) ?_
    obtain ⟨x126, hx126, h⟩ := Sh.bind_some' h
    obtain ⟨k127, hi127, hl127⟩ := Sh.idx_some hx126
    refine ARH.dry rfl (fun _ => t_index_sl G.si_Row.av c_0.Rows hi127 hl127 rfl rfl rfl el26 rfl) <| ARH.keep [1, 2, 3, 4, 21, 27, 31] rfl <| ARH.dry rfl (fun _ => aop_field_pp rfl rfl fd65_1 (by decide)) <| ARH.dry (r := .sl (List.map i64 x126.L)) rfl (fun _ => aop_load_pp rfl rfl sz25 rfl) <| ARH.dry (r := .agg [i64 x124.Key, .sl (List.map i64 x126.L)]) rfl (fun _ => aop_build rfl bd70 rfl rfl rfl) <| ARH.keep [1, 2, 3, 4, 21, 34] rfl <| ARH.dry (r := .clip (List.map G.inquestref21_R.av ([(G.inquestref21_R.mk x124.Key x126.L)] : List G.inquestref21_R))) rfl (fun _ => aop_buildSlice rfl (xo := [.tmp 34]) rfl rfl rfl (by simp) (by simp) el33 ze33 (by decide)) ?_
    obtain ⟨l128, hl128, h⟩ := Sh.bind_some' h
    refine ARH.loud (r := .view 3 0 (List.map G.inquestref21_R.av l128).length) rfl rfl (t_app_view G.inquestref21_R.av outRows116 ([(G.inquestref21_R.mk x124.Key x126.L)] : List G.inquestref21_R) l128 hl128 rfl et33 (fun _ => rfl) rfl rfl rfl rfl rfl rfl rfl) <| ARH.op rfl rfl (aop_field_ref rfl rfl rfl fd36_3 (by decide)) <| ARH.keep [1, 2, 3, 4, 36, 37] rfl <| ARH.loud rfl rfl (aop_store (e' := .agg [i64 c_0.Level, bl c_0.Yes, .sl (List.map i64 c_0.Order), .view 3 0 (List.map G.inquestref21_R.av l128).length, nilS]) rfl rfl rfl rfl rfl rfl sz33 rfl dt rfl) <| ARH.nil <| hK13 _ (AWP.weak (Weak.re (fr' := [(1, .pp [i64 c_0.Level, bl c_0.Yes, .sl (List.map i64 c_0.Order), .sl (List.map G.si_Row.av c_0.Rows), .sl (List.map G.refute_Node.av c_0.Tree)] 0), (2, .ref 0 0 0), (3, .ref 1 0 0), (4, i64 i117)]) (H' := ⟨3, [(0, (5, [.agg [i64 0, bl false, nilS, nilS, nilS]])), (1, (5, [.agg [i64 c_0.Level, bl c_0.Yes, .sl (List.map i64 c_0.Order), .view 2 0 (List.map G.inquestref21_R.av l128).length, nilS]])), (2, (2, List.map G.inquestref21_R.av l128))], []⟩) [(0, 0), (1, 1), (2, 3)] [] rfl rfl rfl (.cons rfl rfl (.one (.sm) rfl) dt (.cons rfl rfl (.one (.ag ⟨.sm, .sm, .sm, .view rfl, .sm, trivial⟩) rfl) dt (.cons rfl rfl (.same (by simp)) dt trivial))) ⟨.k, ⟨_, rfl, .ref rfl⟩, ⟨_, rfl, .ref rfl⟩, .k, trivial⟩) ?_)
    refine awp_reg rfl <| AR.op rfl (aop_move (.inl rfl) rfl) <| AR.op rfl (aop_add rfl rfl rfl rfl) <| AR.op rfl (aop_move (.inr rfl) rfl) <| AR.nil ?_
    replace h := Sh.next_eq h
    exact ⟨_, h, Weak.kt [1, 2, 3, 4] rfl⟩
   ·replace h := Sh.if_f h hb118
    refine awp_exit ?_
    replace h := Sh.exit_eq h hx2
    exact hK9 outRows116 _ h (Weak.kt [1, 2, 3] rfl)
theorem inquestlaw27_Plain_ok {W0 : World} (hT : Tab W0) {c_0 : G.cert_Cert} {r : G.inquestref27_C} (h : G.inquestlaw27_Plain c_0 = some r) : Fun1 Tryz.prog W0 10 [G.cert_Cert.av c_0] (G.inquestref27_C.av r) :=
 (inquestlaw27_Plain_own hT h).give (Weak.e ⟨⟨_, rfl, .ag ⟨.sm, .sm, .sm, .lendAll rfl rfl (by simp), .lendAll rfl rfl (by simp), trivial⟩⟩, trivial⟩) (by simp)


theorem inquestlaw27_awake_ok0 {W0 : World} (hT : Tab W0) {r : Bool} (h : G.inquestlaw27_awake = some r) : Fun2 Tryz.prog W0 7 [] (bl r) .empty := by
 refine fun2_of_awp Tryz.func7 rfl (by kernel_rfl) Tryz.ntmps7 (by simp) ?_
 unfold G.inquestlaw27_awake at h
 show AWP _ _ _ _ ⟨[], .empty⟩ _
 refine awp_seqK fun K1 hK1 => awp_reg rfl <| AR.op rfl (aop_move (.inr rfl) rfl) <| AR.nil <| hK1 _ (AWP.weak (Weak.kt [] rfl) ?_)
 refine awp_seqK fun K2 hK2 => awp_reg rfl <| AR.op (r := .agg [i64 0, i64 1]) rfl (aop_build rfl bd60 rfl rfl rfl) <| AR.op (r := .clip (List.map G.api_Take.av ([(G.api_Take.mk 0 1)] : List G.api_Take))) rfl (aop_buildSlice rfl (xo := [.tmp 8]) rfl rfl rfl (by simp) (by simp) el61 ze61 (by decide)) <| AR.op (r := .agg [i64 1, nilS, .clip (List.map G.api_Take.av ([(G.api_Take.mk 0 1)] : List G.api_Take))]) rfl (aop_build rfl bd63 rfl rfl rfl) <| AR.keep [10] rfl <| AR.op (r := .clip (List.map i64 [0])) rfl (aop_buildSlice rfl (xo := [.const (.int .i64 0)]) rfl rfl rfl (by simp [AV.solid]) (by simp [AV.flat]) el25 ze25 (by decide)) <| AR.op (r := .agg [i64 0, .clip (List.map i64 [0]), nilS]) rfl (aop_build rfl bd63 rfl rfl rfl) ?_
 refine AR.op (r := .clip (List.map G.api_Txn.av ([(G.api_Txn.mk 1 [] ([(G.api_Take.mk 0 1)] : List G.api_Take)), (G.api_Txn.mk 0 [0] [])] : List G.api_Txn))) rfl ((aop_buildSlice (xs := [.agg [i64 1, nilS, .clip (List.map G.api_Take.av ([(G.api_Take.mk 0 1)] : List G.api_Take))], .agg [i64 0, .clip (List.map i64 [0]), nilS]]) rfl (xo := [.tmp 10, .tmp 12]) rfl rfl rfl (by simp [AV.solid]) (by simp [AV.flat]) el22 ze22 (by decide)).clipw ⟨⟨.same _, .nil, .clip _, trivial⟩, ⟨.same _, .clip _, .nil, trivial⟩, trivial⟩) <| AR.keep [13] rfl <| AR.op (r := .agg [.clip (List.map G.api_Txn.av ([(G.api_Txn.mk 1 [] ([(G.api_Take.mk 0 1)] : List G.api_Take)), (G.api_Txn.mk 0 [0] [])] : List G.api_Txn))]) rfl (aop_build rfl bd24 rfl rfl rfl) <| AR.op (r := .ref 0 0 0) rfl (aop_alloc 1 [.agg [nilS]] rfl zr24 (by kernel_rfl) (.inl ⟨rfl, rfl⟩)) <| AR.op rfl (aop_store (e' := .agg [.clip (List.map G.api_Txn.av ([(G.api_Txn.mk 1 [] ([(G.api_Take.mk 0 1)] : List G.api_Take)), (G.api_Txn.mk 0 [0] [])] : List G.api_Txn))]) rfl rfl rfl rfl rfl rfl sz24 rfl dt rfl) <| AR.nil <| hK2 _ (AWP.weak (Weak.e (fr' := [(1, .pp [.clip (List.map G.api_Txn.av ([(G.api_Txn.mk 1 [] ([(G.api_Take.mk 0 1)] : List G.api_Take)), (G.api_Txn.mk 0 [0] [])] : List G.api_Txn))] 0)]) (H' := .empty) ⟨⟨_, rfl, .frzA rfl rfl rfl rfl (by simp)⟩, trivial⟩) ?_)
 refine awp_seqK fun K3 hK3 => awp_reg rfl <| AR.op (r := .agg [.clip (List.map G.api_Txn.av ([(G.api_Txn.mk 1 [] ([(G.api_Take.mk 0 1)] : List G.api_Take)), (G.api_Txn.mk 0 [0] [])] : List G.api_Txn))]) rfl (aop_load_pp rfl rfl sz24 rfl) <| AR.op (r := .clip (List.map i64 [1, 0])) rfl (aop_buildSlice rfl (xo := [.const (.int .i64 1), .const (.int .i64 0)]) rfl rfl rfl (by simp [AV.solid]) (by simp [AV.flat]) el25 ze25 (by decide)) ?_
 obtain ⟨r11, hr11, h⟩ := Sh.bind_some' h
 obtain rfl : r11 = (G.cert_Cert.mk 0 true [1, 0] [] []) := Option.some.inj (hr11.symm.trans (show G.cert_Yes__c (G.api_Hist.mk ([(G.api_Txn.mk 1 [] ([(G.api_Take.mk 0 1)] : List G.api_Take)), (G.api_Txn.mk 0 [0] [])] : List G.api_Txn)) [1, 0] = some (G.cert_Cert.mk 0 true [1, 0] [] []) by kernel_rfl))
 refine AR.op (r := .agg [i64 0, bl true, .sl (List.map i64 [1, 0]), .sl (List.map G.si_Row.av []), .sl (List.map G.refute_Node.av [])]) rfl (aop_callN rfl (ys := [.agg [.clip (List.map G.api_Txn.av ([(G.api_Txn.mk 1 [] ([(G.api_Take.mk 0 1)] : List G.api_Take)), (G.api_Txn.mk 0 [0] [])] : List G.api_Txn))], i64 0, .clip (List.map i64 [1, 0])]) (xs := [G.api_Hist.av (G.api_Hist.mk ([(G.api_Txn.mk 1 [] ([(G.api_Take.mk 0 1)] : List G.api_Take)), (G.api_Txn.mk 0 [0] [])] : List G.api_Txn)), i64 0, .sl (List.map i64 [1, 0])]) rfl (Weak.e (fr' := argsFr 0 [G.api_Hist.av (G.api_Hist.mk ([(G.api_Txn.mk 1 [] ([(G.api_Take.mk 0 1)] : List G.api_Take)), (G.api_Txn.mk 0 [0] [])] : List G.api_Txn)), i64 0, .sl (List.map i64 [1, 0])]) (H' := .empty) ⟨⟨.agg [.clip (List.map G.api_Txn.av ([(G.api_Txn.mk 1 [] ([(G.api_Take.mk 0 1)] : List G.api_Take)), (G.api_Txn.mk 0 [0] [])] : List G.api_Txn))], rfl, .ag ⟨.wide _ (by simp), trivial⟩⟩, .k, ⟨.clip (List.map i64 [1, 0]), rfl, .wide _ (by simp)⟩, trivial⟩) rfl (by simp) (cert_Yes__c_ok hT hr11)) <| AR.keep [1, 17] rfl <| AR.op (r := .ref 0 0 0) rfl (aop_alloc 5 [.agg [i64 0, bl false, nilS, nilS, nilS]] rfl zr29 (by kernel_rfl) (.inl ⟨rfl, rfl⟩)) <| AR.op rfl (aop_store (e' := .agg [i64 0, bl true, .sl (List.map i64 [1, 0]), .sl (List.map G.si_Row.av []), .sl (List.map G.refute_Node.av [])]) rfl rfl rfl rfl rfl rfl sz29 rfl dt rfl) <| AR.nil <| hK3 _ (AWP.weak (Weak.e (fr' := [(1, .pp [.clip (List.map G.api_Txn.av ([(G.api_Txn.mk 1 [] ([(G.api_Take.mk 0 1)] : List G.api_Take)), (G.api_Txn.mk 0 [0] [])] : List G.api_Txn))] 0), (2, .pp [i64 0, bl true, .sl (List.map i64 [1, 0]), .sl (List.map G.si_Row.av []), .sl (List.map G.refute_Node.av [])] 0)]) (H' := .empty) ⟨.k, ⟨_, rfl, .frzA rfl rfl rfl rfl (by simp)⟩, trivial⟩) ?_)
 refine awp_seqK fun K4 hK4 => awp_reg rfl <| AR.op (r := .agg [i64 0, bl true, .sl (List.map i64 [1, 0]), .sl (List.map G.si_Row.av []), .sl (List.map G.refute_Node.av [])]) rfl (aop_load_pp rfl rfl sz29 rfl) ?_
 obtain ⟨r13, hr13, h⟩ := Sh.bind_some' h
 obtain rfl : r13 = (([7, 1, 2, 3, 2, 1, 1, 1] : List UInt8), 0) := Option.some.inj (hr13.symm.trans (show G.cert_Put (G.cert_Cert.mk 0 true [1, 0] [] []) = some (([7, 1, 2, 3, 2, 1, 1, 1] : List UInt8), 0) by kernel_rfl))
 refine AR.op (r := .tuple [strL ([7, 1, 2, 3, 2, 1, 1, 1] : List UInt8), i64 0]) rfl (aop_callN rfl (ys := [.agg [i64 0, bl true, .sl (List.map i64 [1, 0]), .sl (List.map G.si_Row.av []), .sl (List.map G.refute_Node.av [])]]) (xs := [G.cert_Cert.av (G.cert_Cert.mk 0 true [1, 0] [] [])]) rfl (Weak.e (fr' := argsFr 0 [G.cert_Cert.av (G.cert_Cert.mk 0 true [1, 0] [] [])]) (H' := .empty) ⟨⟨.agg [i64 0, bl true, .sl (List.map i64 [1, 0]), .sl (List.map G.si_Row.av []), .sl (List.map G.refute_Node.av [])], rfl, .sm⟩, trivial⟩) rfl (by simp) (cert_Put_ok hT hr13)) <| AR.op rfl (aop_move (.inl rfl) rfl) <| AR.keep [1, 2, 18] rfl <| AR.op (r := strL ([7, 1, 2, 3, 2, 1, 1, 1] : List UInt8)) rfl (aop_extract rfl rfl rfl) <| AR.op (r := i64 0) rfl (aop_extract rfl rfl rfl) <| AR.op rfl (aop_move (.inr rfl) rfl) <| AR.keep [1, 2, 22, 3] rfl <| AR.op rfl (aop_move (.inr rfl) rfl) ?_
 refine AR.nil <| hK4 _ (AWP.weak (Weak.kt [1, 2, 3, 4] rfl) ?_)
 refine awp_seqK fun K5 hK5 => awp_reg rfl <| AR.op rfl (aop_move (.inl rfl) rfl) ?_
 obtain ⟨r15, hr15, h⟩ := Sh.bind_some' h
 obtain rfl : r15 = ((G.cert_Cert.mk 0 true [1, 0] [] []), 0) := Option.some.inj (hr15.symm.trans (show G.cert_Get ([7, 1, 2, 3, 2, 1, 1, 1] : List UInt8) = some ((G.cert_Cert.mk 0 true [1, 0] [] []), 0) by kernel_rfl))
 refine AR.op (r := .tuple [.agg [i64 0, bl true, .sl (List.map i64 [1, 0]), .sl (List.map G.si_Row.av []), .sl (List.map G.refute_Node.av [])], i64 0]) rfl (aop_call1 rfl rfl (by simp) (cert_Get_ok hT hr15)) <| AR.op rfl (aop_move (.inl rfl) rfl) <| AR.keep [1, 2, 3, 4, 23] rfl <| AR.op (r := .agg [i64 0, bl true, .sl (List.map i64 [1, 0]), .sl (List.map G.si_Row.av []), .sl (List.map G.refute_Node.av [])]) rfl (aop_extract rfl rfl rfl) <| AR.op (r := i64 0) rfl (aop_extract rfl rfl rfl) <| AR.op (r := .ref 0 0 0) rfl (aop_alloc 5 [.agg [i64 0, bl false, nilS, nilS, nilS]] rfl zr29 (by kernel_rfl) (.inl ⟨rfl, rfl⟩)) <| AR.keep [1, 2, 3, 4, 26, 27, 5] rfl <| AR.op rfl (aop_store (e' := .agg [i64 0, bl true, .sl (List.map i64 [1, 0]), .sl (List.map G.si_Row.av []), .sl (List.map G.refute_Node.av [])]) rfl rfl rfl rfl rfl rfl sz29 rfl dt rfl) ?_
 refine AR.op rfl (aop_move (.inr rfl) rfl) <| AR.nil <| hK5 _ (AWP.weak (Weak.e (fr' := [(1, .pp [.clip (List.map G.api_Txn.av ([(G.api_Txn.mk 1 [] ([(G.api_Take.mk 0 1)] : List G.api_Take)), (G.api_Txn.mk 0 [0] [])] : List G.api_Txn))] 0), (2, .pp [i64 0, bl true, .sl (List.map i64 [1, 0]), .sl (List.map G.si_Row.av []), .sl (List.map G.refute_Node.av [])] 0), (3, strL ([7, 1, 2, 3, 2, 1, 1, 1] : List UInt8)), (4, i64 0), (5, .pp [i64 0, bl true, .sl (List.map i64 [1, 0]), .sl (List.map G.si_Row.av []), .sl (List.map G.refute_Node.av [])] 0), (6, i64 0)]) (H' := .empty) ⟨.k, .k, .k, .k, ⟨_, rfl, .frzA rfl rfl rfl rfl (by simp)⟩, .k, trivial⟩) ?_)
 refine awp_seqK fun K6 hK6 => awp_reg rfl ?_
 obtain ⟨r17, hr17, h⟩ := Sh.bind_some' h
 obtain rfl : r17 = (G.cert_Cert.mk 0 false [] [] []) := Option.some.inj (hr17.symm.trans (show G.cert_No 0 [] = some (G.cert_Cert.mk 0 false [] [] []) by kernel_rfl))
 refine AR.op (r := .agg [i64 0, bl false, .sl (List.map i64 []), .sl (List.map G.si_Row.av []), .sl (List.map G.refute_Node.av [])]) rfl (aop_callN rfl (ys := [i64 0, nilS]) (xs := [i64 0, .sl (List.map G.refute_Node.av [])]) rfl (Weak.e (fr' := argsFr 0 [i64 0, .sl (List.map G.refute_Node.av [])]) (H' := .empty) ⟨.k, ⟨_, rfl, .nilsl⟩, trivial⟩) rfl (by simp) (cert_No_ok hT hr17)) <| AR.op (r := .ref 0 0 0) rfl (aop_alloc 5 [.agg [i64 0, bl false, nilS, nilS, nilS]] rfl zr29 (by kernel_rfl) (.inl ⟨rfl, rfl⟩)) <| AR.op rfl (aop_store (e' := .agg [i64 0, bl false, .sl (List.map i64 []), .sl (List.map G.si_Row.av []), .sl (List.map G.refute_Node.av [])]) rfl rfl rfl rfl rfl rfl sz29 rfl dt rfl) <| AR.nil <| hK6 _ (AWP.weak (Weak.e (fr' := [(1, .pp [.clip (List.map G.api_Txn.av ([(G.api_Txn.mk 1 [] ([(G.api_Take.mk 0 1)] : List G.api_Take)), (G.api_Txn.mk 0 [0] [])] : List G.api_Txn))] 0), (2, .pp [i64 0, bl true, .sl (List.map i64 [1, 0]), .sl (List.map G.si_Row.av []), .sl (List.map G.refute_Node.av [])] 0), (3, strL ([7, 1, 2, 3, 2, 1, 1, 1] : List UInt8)), (4, i64 0), (5, .pp [i64 0, bl true, .sl (List.map i64 [1, 0]), .sl (List.map G.si_Row.av []), .sl (List.map G.refute_Node.av [])] 0), (6, i64 0), (7, .pp [i64 0, bl false, .sl (List.map i64 []), .sl (List.map G.si_Row.av []), .sl (List.map G.refute_Node.av [])] 0)]) (H' := .empty) ⟨.k, .k, .k, .k, .k, .k, ⟨_, rfl, .frzA rfl rfl rfl rfl (by simp)⟩, trivial⟩) ?_)
 refine awp_seqK fun K7 hK7 => awp_any [(true, false), (true, false), (true, false), (true, false), (true, false), (true, false), (true, false), (true, false), (true, false), (true, false), (true, false), (true, false), (true, false), (true, false), (true, false), (true, false), (true, false), (true, false), (true, false), (true, false), (true, false), (true, false), (true, false), (true, false), (true, false), (true, false), (true, false), (true, false), (true, false), (true, false), (true, false), (true, false), (true, false), (true, false)] (by kernel_rfl) (by kernel_rfl) rfl ?_
 refine ARH.dry rfl (fun _ => aop_move (.inl rfl) rfl) <| ARH.dry (r := bl true) rfl (fun _ => (aop_eql rfl rfl rfl).tt (by decide)) <| ARH.dry rfl (fun _ => aop_move (.inl rfl) rfl) <| ARH.keep [1, 2, 3, 5, 6, 7, 31] rfl <| ARH.dry rfl (fun _ => aop_move (.inl rfl) rfl) <| ARH.dry (r := bl true) rfl (fun _ => (t_eq_str (a := ([7, 1, 2, 3, 2, 1, 1, 1] : List UInt8)) (b := ([7, 1, 2, 3, 2, 1, 1, 1] : List UInt8)) rfl rfl rfl).tt rfl) <| ARH.dry rfl (fun _ => aop_pick rfl rfl rfl) <| ARH.keep [1, 2, 5, 6, 7, 34] rfl ?_
 refine ARH.dry rfl (fun _ => aop_move (.inl rfl) rfl) <| ARH.dry rfl (fun _ => aop_move (.inl rfl) rfl) <| ARH.dry (r := bl true) rfl (fun _ => (aop_eql rfl rfl rfl).tt (by decide)) <| ARH.keep [1, 2, 5, 7, 35, 37] rfl <| ARH.dry rfl (fun _ => aop_pick rfl rfl rfl) <| ARH.dry rfl (fun _ => aop_move (.inl rfl) rfl) <| ARH.dry (r := .agg [i64 0, bl true, .sl (List.map i64 [1, 0]), .sl (List.map G.si_Row.av []), .sl (List.map G.refute_Node.av [])]) rfl (fun _ => aop_load_pp rfl rfl sz29 rfl) <| ARH.keep [1, 2, 5, 7, 39, 40] rfl ?_
 obtain ⟨r23, hr23, h⟩ := Sh.bind_some' h
 obtain rfl : r23 = (G.inquestref27_C.mk 0 true [1, 0] [] []) := Option.some.inj (hr23.symm.trans (show G.inquestlaw27_Plain (G.cert_Cert.mk 0 true [1, 0] [] []) = some (G.inquestref27_C.mk 0 true [1, 0] [] []) by kernel_rfl))
 refine ARH.dry (r := .agg [i64 0, bl true, .sl (List.map i64 [1, 0]), .sl (List.map G.inquestref21_R.av []), .sl (List.map G.inquestref24_N.av [])]) rfl (fun _ => aop_callN rfl (ys := [.agg [i64 0, bl true, .sl (List.map i64 [1, 0]), .sl (List.map G.si_Row.av []), .sl (List.map G.refute_Node.av [])]]) (xs := [G.cert_Cert.av (G.cert_Cert.mk 0 true [1, 0] [] [])]) rfl (Weak.e (fr' := argsFr 0 [G.cert_Cert.av (G.cert_Cert.mk 0 true [1, 0] [] [])]) (H' := .empty) ⟨⟨.agg [i64 0, bl true, .sl (List.map i64 [1, 0]), .sl (List.map G.si_Row.av []), .sl (List.map G.refute_Node.av [])], rfl, .sm⟩, trivial⟩) rfl (by simp) (inquestlaw27_Plain_ok hT hr23)) <| ARH.dry (r := .agg [i64 0, bl true, .sl (List.map i64 [1, 0]), .sl (List.map G.si_Row.av []), .sl (List.map G.refute_Node.av [])]) rfl (fun _ => aop_load_pp rfl rfl sz29 rfl) ?_
 obtain ⟨r24, hr24, h⟩ := Sh.bind_some' h
 obtain rfl : r24 = (G.inquestref27_C.mk 0 true [1, 0] [] []) := Option.some.inj (hr24.symm.trans (show G.inquestlaw27_Plain (G.cert_Cert.mk 0 true [1, 0] [] []) = some (G.inquestref27_C.mk 0 true [1, 0] [] []) by kernel_rfl))
 refine ARH.dry (r := .agg [i64 0, bl true, .sl (List.map i64 [1, 0]), .sl (List.map G.inquestref21_R.av []), .sl (List.map G.inquestref24_N.av [])]) rfl (fun _ => aop_callN rfl (ys := [.agg [i64 0, bl true, .sl (List.map i64 [1, 0]), .sl (List.map G.si_Row.av []), .sl (List.map G.refute_Node.av [])]]) (xs := [G.cert_Cert.av (G.cert_Cert.mk 0 true [1, 0] [] [])]) rfl (Weak.e (fr' := argsFr 0 [G.cert_Cert.av (G.cert_Cert.mk 0 true [1, 0] [] [])]) (H' := .empty) ⟨⟨.agg [i64 0, bl true, .sl (List.map i64 [1, 0]), .sl (List.map G.si_Row.av []), .sl (List.map G.refute_Node.av [])], rfl, .sm⟩, trivial⟩) rfl (by simp) (inquestlaw27_Plain_ok hT hr24)) <| ARH.keep [1, 2, 7, 39, 41, 43] rfl ?_
 obtain ⟨r25, hr25, h⟩ := Sh.bind_some' h
 obtain rfl : r25 = true := Option.some.inj (hr25.symm.trans (show G.inquestref27_Same (G.inquestref27_C.mk 0 true [1, 0] [] []) (G.inquestref27_C.mk 0 true [1, 0] [] []) = some true by kernel_rfl))
 refine ARH.dry (r := bl true) rfl (fun _ => aop_callN rfl (ys := [.agg [i64 0, bl true, .sl (List.map i64 [1, 0]), .sl (List.map G.inquestref21_R.av []), .sl (List.map G.inquestref24_N.av [])], .agg [i64 0, bl true, .sl (List.map i64 [1, 0]), .sl (List.map G.inquestref21_R.av []), .sl (List.map G.inquestref24_N.av [])]]) (xs := [G.inquestref27_C.av (G.inquestref27_C.mk 0 true [1, 0] [] []), G.inquestref27_C.av (G.inquestref27_C.mk 0 true [1, 0] [] [])]) rfl (Weak.e (fr' := argsFr 0 [G.inquestref27_C.av (G.inquestref27_C.mk 0 true [1, 0] [] []), G.inquestref27_C.av (G.inquestref27_C.mk 0 true [1, 0] [] [])]) (H' := .empty) ⟨⟨.agg [i64 0, bl true, .sl (List.map i64 [1, 0]), .sl (List.map G.inquestref21_R.av []), .sl (List.map G.inquestref24_N.av [])], rfl, .sm⟩, ⟨.agg [i64 0, bl true, .sl (List.map i64 [1, 0]), .sl (List.map G.inquestref21_R.av []), .sl (List.map G.inquestref24_N.av [])], rfl, .sm⟩, trivial⟩) rfl (by simp) (inquestref27_Same_ok hT hr25)) <| ARH.dry rfl (fun _ => aop_pick rfl rfl rfl) <| ARH.dry rfl (fun _ => aop_move (.inl rfl) rfl) <| ARH.keep [1, 2, 7, 46] rfl <| ARH.dry (r := .agg [.clip (List.map G.api_Txn.av ([(G.api_Txn.mk 1 [] ([(G.api_Take.mk 0 1)] : List G.api_Take)), (G.api_Txn.mk 0 [0] [])] : List G.api_Txn))]) rfl (fun _ => aop_load_pp rfl rfl sz24 rfl) <| ARH.dry (r := .agg [i64 0, bl true, .sl (List.map i64 [1, 0]), .sl (List.map G.si_Row.av []), .sl (List.map G.refute_Node.av [])]) rfl (fun _ => aop_load_pp rfl rfl sz29 rfl) ?_
 obtain ⟨r26, hr26, h⟩ := Sh.bind_some' h
 obtain rfl : r26 = true := Option.some.inj (hr26.symm.trans (show G.cert_Check__c (G.api_Hist.mk ([(G.api_Txn.mk 1 [] ([(G.api_Take.mk 0 1)] : List G.api_Take)), (G.api_Txn.mk 0 [0] [])] : List G.api_Txn)) [1, 0] = some true by kernel_rfl))
 refine ARH.dry (r := bl true) rfl (fun _ => aop_callN rfl (ys := [.agg [.clip (List.map G.api_Txn.av ([(G.api_Txn.mk 1 [] ([(G.api_Take.mk 0 1)] : List G.api_Take)), (G.api_Txn.mk 0 [0] [])] : List G.api_Txn))], .agg [i64 0, bl true, .sl (List.map i64 [1, 0]), .sl (List.map G.si_Row.av []), .sl (List.map G.refute_Node.av [])]]) (xs := [G.api_Hist.av (G.api_Hist.mk ([(G.api_Txn.mk 1 [] ([(G.api_Take.mk 0 1)] : List G.api_Take)), (G.api_Txn.mk 0 [0] [])] : List G.api_Txn)), .agg [i64 0, bl true, .sl (List.map i64 [1, 0]), .sl (List.map G.si_Row.av []), .sl (List.map G.refute_Node.av [])]]) rfl (Weak.e (fr' := argsFr 0 [G.api_Hist.av (G.api_Hist.mk ([(G.api_Txn.mk 1 [] ([(G.api_Take.mk 0 1)] : List G.api_Take)), (G.api_Txn.mk 0 [0] [])] : List G.api_Txn)), .agg [i64 0, bl true, .sl (List.map i64 [1, 0]), .sl (List.map G.si_Row.av []), .sl (List.map G.refute_Node.av [])]]) (H' := .empty) ⟨⟨.agg [.clip (List.map G.api_Txn.av ([(G.api_Txn.mk 1 [] ([(G.api_Take.mk 0 1)] : List G.api_Take)), (G.api_Txn.mk 0 [0] [])] : List G.api_Txn))], rfl, .ag ⟨.wide _ (by simp), trivial⟩⟩, ⟨.agg [i64 0, bl true, .sl (List.map i64 [1, 0]), .sl (List.map G.si_Row.av []), .sl (List.map G.refute_Node.av [])], rfl, .sm⟩, trivial⟩) rfl (by simp) (cert_Check__c_ok hT hr26)) <| ARH.keep [1, 7, 46, 49] rfl <| ARH.dry rfl (fun _ => aop_pick rfl rfl rfl) <| ARH.dry rfl (fun _ => aop_move (.inl rfl) rfl) <| ARH.dry (r := .agg [.clip (List.map G.api_Txn.av ([(G.api_Txn.mk 1 [] ([(G.api_Take.mk 0 1)] : List G.api_Take)), (G.api_Txn.mk 0 [0] [])] : List G.api_Txn))]) rfl (fun _ => aop_load_pp rfl rfl sz24 rfl) <| ARH.keep [7, 51, 52] rfl <| ARH.dry (r := .agg [i64 0, bl false, .sl (List.map i64 []), .sl (List.map G.si_Row.av []), .sl (List.map G.refute_Node.av [])]) rfl (fun _ => aop_load_pp rfl rfl sz29 rfl) ?_
 obtain ⟨r27, hr27, h⟩ := Sh.bind_some' h
 obtain rfl : r27 = false := Option.some.inj (hr27.symm.trans (show G.cert_Check__c_2 (G.api_Hist.mk ([(G.api_Txn.mk 1 [] ([(G.api_Take.mk 0 1)] : List G.api_Take)), (G.api_Txn.mk 0 [0] [])] : List G.api_Txn)) = some false by kernel_rfl))
 refine ARH.dry (r := bl false) rfl (fun _ => aop_callN rfl (ys := [.agg [.clip (List.map G.api_Txn.av ([(G.api_Txn.mk 1 [] ([(G.api_Take.mk 0 1)] : List G.api_Take)), (G.api_Txn.mk 0 [0] [])] : List G.api_Txn))], .agg [i64 0, bl false, .sl (List.map i64 []), .sl (List.map G.si_Row.av []), .sl (List.map G.refute_Node.av [])]]) (xs := [G.api_Hist.av (G.api_Hist.mk ([(G.api_Txn.mk 1 [] ([(G.api_Take.mk 0 1)] : List G.api_Take)), (G.api_Txn.mk 0 [0] [])] : List G.api_Txn)), .agg [i64 0, bl false, .sl (List.map i64 []), .sl (List.map G.si_Row.av []), .sl (List.map G.refute_Node.av [])]]) rfl (Weak.e (fr' := argsFr 0 [G.api_Hist.av (G.api_Hist.mk ([(G.api_Txn.mk 1 [] ([(G.api_Take.mk 0 1)] : List G.api_Take)), (G.api_Txn.mk 0 [0] [])] : List G.api_Txn)), .agg [i64 0, bl false, .sl (List.map i64 []), .sl (List.map G.si_Row.av []), .sl (List.map G.refute_Node.av [])]]) (H' := .empty) ⟨⟨.agg [.clip (List.map G.api_Txn.av ([(G.api_Txn.mk 1 [] ([(G.api_Take.mk 0 1)] : List G.api_Take)), (G.api_Txn.mk 0 [0] [])] : List G.api_Txn))], rfl, .ag ⟨.wide _ (by simp), trivial⟩⟩, ⟨.agg [i64 0, bl false, .sl (List.map i64 []), .sl (List.map G.si_Row.av []), .sl (List.map G.refute_Node.av [])], rfl, .sm⟩, trivial⟩) rfl (by simp) (cert_Check__c_2_ok hT hr27)) <| ARH.dry (r := bl true) rfl (fun _ => aop_not (b := false) rfl rfl) <| ARH.keep [7, 51, 55] rfl <| ARH.dry rfl (fun _ => aop_pick rfl rfl rfl) <| ARH.dry rfl (fun _ => aop_move (.inl rfl) rfl) <| ARH.dry rfl (fun _ => aop_field_pp rfl rfl fd29_1 (by decide)) <| ARH.keep [57, 58] rfl <| ARH.dry (r := bl false) rfl (fun _ => aop_load_pp rfl rfl sz4 rfl) ?_
 refine ARH.dry (r := bl true) rfl (fun _ => aop_not (b := false) rfl rfl) <| ARH.dry rfl (fun _ => aop_pick rfl rfl rfl) <| ARH.keep [61] rfl <| ARH.dry rfl (fun _ => aop_move (.inr rfl) rfl) <| ARH.nil <| hK7 _ (AWP.weak (Weak.kt [0] rfl) ?_)
 refine awp_ret ?_
 obtain rfl := Option.some.inj h
 refine ⟨.inr rfl, bl true, rfl, ?_⟩
 exact Weak.e ⟨.k, trivial⟩
theorem inquestlaw27_awake_ok {W0 : World} (hT : Tab W0) {r : Bool} (h : G.inquestlaw27_awake = some r) : Fun1 Tryz.prog W0 7 [] (bl r) := Fun1.two (inquestlaw27_awake_ok0 hT h) (by simp)


theorem inquestlaw27_few_ok0 {W0 : World} (hT : Tab W0) {c_0 : G.cert_Cert} {r : Bool} (h : G.inquestlaw27_few c_0 = some r) : Fun2 Tryz.prog W0 9 [G.cert_Cert.av c_0] (bl r) .empty := by
 refine fun2_of_awp Tryz.func9 rfl (by kernel_rfl) Tryz.ntmps9 (by simp) ?_
 unfold G.inquestlaw27_few at h
 show AWP _ _ _ _ ⟨[(0, G.cert_Cert.av c_0)], .empty⟩ _
 refine awp_seqK fun K1 hK1 => awp_reg rfl <| AR.op (r := .ref 0 0 0) rfl (aop_box 5 [G.cert_Cert.av c_0] rfl rfl rfl (.inl ⟨rfl, rfl⟩)) <| AR.op rfl (aop_move (.inr rfl) rfl) <| AR.nil <| hK1 _ (AWP.weak (Weak.e (fr' := [(1, .pp [i64 c_0.Level, bl c_0.Yes, .sl (List.map i64 c_0.Order), .sl (List.map G.si_Row.av c_0.Rows), .sl (List.map G.refute_Node.av c_0.Tree)] 0)]) (H' := .empty) ⟨⟨_, rfl, .frzA rfl rfl rfl rfl (by simp)⟩, trivial⟩) ?_)
 refine awp_seqK fun K2 hK2 => awp_seqJ (fun (p : Bool) => (⟨[(1, .pp [i64 c_0.Level, bl c_0.Yes, .sl (List.map i64 c_0.Order), .sl (List.map G.si_Row.av c_0.Rows), .sl (List.map G.refute_Node.av c_0.Tree)] 0), (20, bl p)], .empty⟩ : St)) (fun (p : Bool) => G.inquestlaw27_few_j1 c_0 p = some r) ?_ ?_
 ·rintro v25 h
  replace h : G.inquestlaw27_few_j1 c_0 v25 = some r := h
  unfold G.inquestlaw27_few_j1 at h
  refine awp_cond rfl (fun hb26 => ?_) (fun hb26 => ?_)
  ·replace h := Sh.if_t h hb26
   refine awp_seqK fun K3 hK3 => awp_reg rfl <| AR.op rfl (aop_move (.inr rfl) rfl) <| AR.nil <| hK3 _ (AWP.weak (Weak.kt [2] rfl) ?_)
   refine awp_ret ?_
   obtain rfl := Option.some.inj h
   refine ⟨.inr rfl, bl false, rfl, ?_⟩
   exact Weak.e ⟨.k, trivial⟩
  ·replace h := Sh.if_f h hb26
   refine awp_skip <| hK2 _ (AWP.weak (Weak.kt [1] rfl) ?_)
   refine awp_seqJ (fun (p : Unit) => (⟨[(1, .pp [i64 c_0.Level, bl c_0.Yes, .sl (List.map i64 c_0.Order), .sl (List.map G.si_Row.av c_0.Rows), .sl (List.map G.refute_Node.av c_0.Tree)] 0)], .empty⟩ : St)) (fun (p : Unit) => G.inquestlaw27_few_j2 c_0 = some r) ?_ ?_
   ·rintro ⟨⟩ h
    replace h : G.inquestlaw27_few_j2 c_0 = some r := h
    unfold G.inquestlaw27_few_j2 at h
    refine awp_seqJ (fun (p : Unit) => (⟨[], .empty⟩ : St)) (fun (p : Unit) => G.inquestlaw27_few_j3 = some r) ?_ ?_
    ·rintro ⟨⟩ h
     replace h : G.inquestlaw27_few_j3 = some r := h
     unfold G.inquestlaw27_few_j3 at h
     refine awp_seqK fun K4 hK4 => awp_reg rfl <| AR.op rfl (aop_move (.inr rfl) rfl) <| AR.nil <| hK4 _ ?_
     refine awp_ret ?_
     obtain rfl := Option.some.inj h
     refine ⟨.inr rfl, bl true, rfl, ?_⟩
     exact Weak.e ⟨.k, trivial⟩
    ·intro K5 hK5
     refine awp_seqK fun K6 hK6 => awp_reg rfl <| AR.op rfl (aop_move (.inr rfl) rfl) <| AR.nil <| hK6 _ ?_
     refine awp_block <| awp_iter (fun (p : Int) => G.inquestlaw27_few_b1 c_0 p) (fun (p : Int) => (⟨[(1, .pp [i64 c_0.Level, bl c_0.Yes, .sl (List.map i64 c_0.Order), .sl (List.map G.si_Row.av c_0.Rows), .sl (List.map G.refute_Node.av c_0.Tree)] 0), (4, i64 p)], .empty⟩ : St)) h (Weak.kt [1, 4] rfl) ?_
     ·skip
      rintro i49 o1 h hx1
      replace h : G.inquestlaw27_few_b1 c_0 i49 = some o1 := h
      unfold G.inquestlaw27_few_b1 at h
      refine awp_seqK fun K7 hK7 => awp_seqK fun K8 hK8 => awp_reg rfl <| AR.op rfl (aop_move (.inl rfl) rfl) <| AR.op rfl (aop_field_pp rfl rfl fd29_4 (by decide)) <| AR.op (r := .sl (List.map G.refute_Node.av c_0.Tree)) rfl (aop_load_pp rfl rfl sz27 rfl) <| AR.keep [1, 4, 36, 38] rfl <| AR.op rfl (t_len_sl G.refute_Node.av c_0.Tree rfl rfl el27) ?_
      refine AR.op rfl (aop_lss rfl rfl rfl) <| AR.nil <| hK8 _ (AWP.weak (Weak.kt [1, 4, 40] rfl) ?_)
      refine awp_cond rfl (fun hb50 => ?_) (fun hb50 => ?_)
      ·replace h := Sh.if_t h hb50
       refine awp_skip <| hK7 _ (AWP.weak (Weak.kt [1, 4] rfl) ?_)
       refine awp_seqK fun K9 hK9 => awp_block <| awp_seqK fun K10 hK10 => awp_reg rfl <| AR.op rfl (aop_field_pp rfl rfl fd29_4 (by decide)) <| AR.op (r := .sl (List.map G.refute_Node.av c_0.Tree)) rfl (aop_load_pp rfl rfl sz27 rfl) <| AR.op rfl (aop_move (.inl rfl) rfl) <| AR.keep [1, 4, 44, 45] rfl ?_
       obtain ⟨x55, hx55, h⟩ := Sh.bind_some' h
       obtain ⟨k56, hi56, hl56⟩ := Sh.idx_some hx55
       refine AR.op rfl (t_index_sl G.refute_Node.av c_0.Tree hi56 hl56 rfl rfl rfl el27 rfl) <| AR.op rfl (aop_field_pp rfl rfl fd69_1 (by decide)) <| AR.op (r := .sl (List.map i64 x55.Cycle)) rfl (aop_load_pp rfl rfl sz25 rfl) <| AR.keep [1, 4, 48] rfl <| AR.op rfl (t_len_sl i64 x55.Cycle rfl rfl el25) <| AR.op rfl (aop_gtr rfl rfl rfl) <| AR.nil <| hK10 _ (AWP.weak (Weak.kt [1, 4, 50] rfl) ?_)
       refine awp_cond rfl (fun hb57 => ?_) (fun hb57 => ?_)
       ·replace h := Sh.if_t h hb57
        refine awp_seqK fun K11 hK11 => awp_reg rfl <| AR.op rfl (aop_move (.inr rfl) rfl) <| AR.nil <| hK11 _ (AWP.weak (Weak.kt [2] rfl) ?_)
        refine awp_ret ?_
        replace h := Sh.exit_eq h hx1
        obtain rfl := Option.some.inj h
        refine ⟨.inr rfl, bl false, rfl, ?_⟩
        exact Weak.e ⟨.k, trivial⟩
       ·replace h := Sh.if_f h hb57
        refine awp_skip <| hK9 _ (AWP.weak (Weak.kt [1, 4] rfl) ?_)
        refine awp_reg rfl <| AR.op rfl (aop_move (.inl rfl) rfl) <| AR.op rfl (aop_add rfl rfl rfl rfl) <| AR.op rfl (aop_move (.inr rfl) rfl) <| AR.nil ?_
        replace h := Sh.next_eq h
        exact ⟨_, h, Weak.kt [1, 4] rfl⟩
      ·replace h := Sh.if_f h hb50
       refine awp_exit ?_
       replace h := Sh.exit_eq h hx1
       exact hK5 () _ h (Weak.kt [] rfl)
   ·intro K12 hK12
    refine awp_seqK fun K13 hK13 => awp_reg rfl <| AR.op rfl (aop_move (.inr rfl) rfl) <| AR.nil <| hK13 _ ?_
    refine awp_block <| awp_iter (fun (p : Int) => G.inquestlaw27_few_b2 c_0 p) (fun (p : Int) => (⟨[(1, .pp [i64 c_0.Level, bl c_0.Yes, .sl (List.map i64 c_0.Order), .sl (List.map G.si_Row.av c_0.Rows), .sl (List.map G.refute_Node.av c_0.Tree)] 0), (3, i64 p)], .empty⟩ : St)) h (Weak.kt [1, 3] rfl) ?_
    ·skip
     rintro i63 o2 h hx2
     replace h : G.inquestlaw27_few_b2 c_0 i63 = some o2 := h
     unfold G.inquestlaw27_few_b2 at h
     refine awp_seqK fun K14 hK14 => awp_seqK fun K15 hK15 => awp_reg rfl <| AR.op rfl (aop_move (.inl rfl) rfl) <| AR.op rfl (aop_field_pp rfl rfl fd29_3 (by decide)) <| AR.op (r := .sl (List.map G.si_Row.av c_0.Rows)) rfl (aop_load_pp rfl rfl sz26 rfl) <| AR.keep [1, 3, 21, 23] rfl <| AR.op rfl (t_len_sl G.si_Row.av c_0.Rows rfl rfl el26) ?_
     refine AR.op rfl (aop_lss rfl rfl rfl) <| AR.nil <| hK15 _ (AWP.weak (Weak.kt [1, 3, 25] rfl) ?_)
     refine awp_cond rfl (fun hb64 => ?_) (fun hb64 => ?_)
     ·replace h := Sh.if_t h hb64
      refine awp_skip <| hK14 _ (AWP.weak (Weak.kt [1, 3] rfl) ?_)
      refine awp_seqK fun K16 hK16 => awp_block <| awp_seqK fun K17 hK17 => awp_reg rfl <| AR.op rfl (aop_field_pp rfl rfl fd29_3 (by decide)) <| AR.op (r := .sl (List.map G.si_Row.av c_0.Rows)) rfl (aop_load_pp rfl rfl sz26 rfl) <| AR.op rfl (aop_move (.inl rfl) rfl) <| AR.keep [1, 3, 29, 30] rfl ?_
      obtain ⟨x69, hx69, h⟩ := Sh.bind_some' h
      obtain ⟨k70, hi70, hl70⟩ := Sh.idx_some hx69
      refine AR.op rfl (t_index_sl G.si_Row.av c_0.Rows hi70 hl70 rfl rfl rfl el26 rfl) <| AR.op rfl (aop_field_pp rfl rfl fd65_1 (by decide)) <| AR.op (r := .sl (List.map i64 x69.L)) rfl (aop_load_pp rfl rfl sz25 rfl) <| AR.keep [1, 3, 33] rfl <| AR.op rfl (t_len_sl i64 x69.L rfl rfl el25) <| AR.op rfl (aop_gtr rfl rfl rfl) <| AR.nil <| hK17 _ (AWP.weak (Weak.kt [1, 3, 35] rfl) ?_)
      refine awp_cond rfl (fun hb71 => ?_) (fun hb71 => ?_)
      ·replace h := Sh.if_t h hb71
       refine awp_seqK fun K18 hK18 => awp_reg rfl <| AR.op rfl (aop_move (.inr rfl) rfl) <| AR.nil <| hK18 _ (AWP.weak (Weak.kt [2] rfl) ?_)
       refine awp_ret ?_
       replace h := Sh.exit_eq h hx2
       obtain rfl := Option.some.inj h
       refine ⟨.inr rfl, bl false, rfl, ?_⟩
       exact Weak.e ⟨.k, trivial⟩
      ·replace h := Sh.if_f h hb71
       refine awp_skip <| hK16 _ (AWP.weak (Weak.kt [1, 3] rfl) ?_)
       refine awp_reg rfl <| AR.op rfl (aop_move (.inl rfl) rfl) <| AR.op rfl (aop_add rfl rfl rfl rfl) <| AR.op rfl (aop_move (.inr rfl) rfl) <| AR.nil ?_
       replace h := Sh.next_eq h
       exact ⟨_, h, Weak.kt [1, 3] rfl⟩
     ·replace h := Sh.if_f h hb64
      refine awp_exit ?_
      replace h := Sh.exit_eq h hx2
      exact hK12 () _ h (Weak.kt [1] rfl)
 ·intro K19 hK19
  refine awp_reg rfl <| AR.op rfl (aop_field_pp rfl rfl fd29_2 (by decide)) <| AR.op (r := .sl (List.map i64 c_0.Order)) rfl (aop_load_pp rfl rfl sz25 rfl) <| AR.op rfl (t_len_sl i64 c_0.Order rfl rfl el25) <| AR.keep [1, 7] rfl <| AR.op rfl (aop_gtr rfl rfl rfl) <| AR.op rfl (aop_move (.inl rfl) rfl) ?_
  rcases Bool.eq_false_or_eq_true (decide ((40 : Int) < (Sh.len c_0.Order))) with hb72 | hb72
  ·rw [hb72]
   replace h := Sh.if_t h hb72
   refine AR.skip rfl <| AR.keep [1, 9, 10] rfl <| AR.skip rfl <| AR.skip rfl <| AR.skip rfl <| AR.keep [1, 9, 13] rfl <| AR.op rfl (aop_pick rfl rfl rfl) <| AR.op rfl (aop_move (.inl rfl) rfl) ?_
   refine AR.skip rfl <| AR.keep [1, 15, 16] rfl <| AR.skip rfl <| AR.skip rfl <| AR.skip rfl <| AR.keep [1, 15, 19] rfl <| AR.op rfl (aop_pick rfl rfl rfl) <| AR.nil ?_
   exact hK19 true _ h (Weak.kt [1, 20] rfl)
  ·rw [hb72]
   replace h := Sh.if_f h hb72
   refine AR.op rfl (aop_field_pp rfl rfl fd29_3 (by decide)) <| AR.keep [1, 9, 10] rfl <| AR.op (r := .sl (List.map G.si_Row.av c_0.Rows)) rfl (aop_load_pp rfl rfl sz26 rfl) <| AR.op rfl (t_len_sl G.si_Row.av c_0.Rows rfl rfl el26) <| AR.op rfl (aop_gtr rfl rfl rfl) <| AR.keep [1, 9, 13] rfl <| AR.op rfl (aop_pick rfl rfl rfl) <| AR.op rfl (aop_move (.inl rfl) rfl) ?_
   rcases Bool.eq_false_or_eq_true (decide ((20 : Int) < (Sh.len c_0.Rows))) with hb73 | hb73
   ·rw [hb73]
    replace h := Sh.if_t h hb73
    refine AR.skip rfl <| AR.keep [1, 15, 16] rfl <| AR.skip rfl <| AR.skip rfl <| AR.skip rfl <| AR.keep [1, 15, 19] rfl <| AR.op rfl (aop_pick rfl rfl rfl) <| AR.nil ?_
    exact hK19 true _ h (Weak.kt [1, 20] rfl)
   ·rw [hb73]
    replace h := Sh.if_f h hb73
    refine AR.op rfl (aop_field_pp rfl rfl fd29_4 (by decide)) <| AR.keep [1, 15, 16] rfl <| AR.op (r := .sl (List.map G.refute_Node.av c_0.Tree)) rfl (aop_load_pp rfl rfl sz27 rfl) <| AR.op rfl (t_len_sl G.refute_Node.av c_0.Tree rfl rfl el27) <| AR.op rfl (aop_gtr rfl rfl rfl) <| AR.keep [1, 15, 19] rfl <| AR.op rfl (aop_pick rfl rfl rfl) <| AR.nil ?_
    exact hK19 (decide ((80 : Int) < (Sh.len c_0.Tree))) _ h (Weak.kt [1, 20] rfl)
theorem inquestlaw27_few_ok {W0 : World} (hT : Tab W0) {c_0 : G.cert_Cert} {r : Bool} (h : G.inquestlaw27_few c_0 = some r) : Fun1 Tryz.prog W0 9 [G.cert_Cert.av c_0] (bl r) := Fun1.two (inquestlaw27_few_ok0 hT h) (by simp)

end Wk
