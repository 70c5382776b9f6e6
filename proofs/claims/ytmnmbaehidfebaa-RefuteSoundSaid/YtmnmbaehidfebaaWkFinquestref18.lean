/- That the functions of a package do what their plain functions say. -/
import Derived.Test.YtmnmbaehidfebaaSh
import Derived.Test.YtmnmbaehidfebaaWkFFacts
import Derived.Test.YtmnmbaehidfebaaWkFinquestref08
import Derived.Test.YtmnmbaehidfebaaWkFinquestref09
import Derived.Test.YtmnmbaehidfebaaWkFinquestref10
import Derived.Test.YtmnmbaehidfebaaWkFinquestref12
import Derived.Test.YtmnmbaehidfebaaWkFinquestref13
import Derived.Test.YtmnmbaehidfebaaWkFinquestref17
open Go Go.Av Go.Proofs
set_option linter.unusedVariables false
set_option maxHeartbeats 8000000
set_option maxRecDepth 20000
namespace Wk
theorem inquestref18_Back_ok0 {W0 : World} (hT : Tab W0) {c_0 : G.api_Choice} {r : G.api_Choice} (h : G.inquestref18_Back c_0 = some r) : Fun2 Try.prog W0 20 [G.api_Choice.av c_0] (G.api_Choice.av r) .empty := by
 refine fun2_of_awp Try.func20 rfl (by kernel_rfl) Try.ntmps20 (by simp) ?_
 unfold G.inquestref18_Back at h
 show AWP _ _ _ _ ⟨[(0, G.api_Choice.av c_0)], .empty⟩ _
 refine awp_seqK fun K1 hK1 => awp_reg rfl <| AR.op (r := .ref 0 0 0) rfl (aop_box 3 [G.api_Choice.av c_0] rfl rfl rfl (.inl ⟨rfl, rfl⟩)) <| AR.op (r := .ref 1 0 0) rfl (aop_alloc 3 [.agg [i64 0, i64 0, i64 0]] rfl zr42 (by kernel_rfl) (.inl ⟨rfl, rfl⟩)) <| AR.nil <| hK1 _ (AWP.weak (Weak.re (fr' := [(1, .pp [i64 c_0.Key, i64 c_0.A, i64 c_0.B] 0), (2, .ref 0 0 0)]) (H' := ⟨1, [(0, (3, [.agg [i64 0, i64 0, i64 0]]))], []⟩) [(0, 1)] [] rfl rfl rfl (.cons rfl rfl (.one (.sm) rfl) dt trivial) ⟨⟨_, rfl, .frzA rfl rfl rfl rfl (by simp)⟩, ⟨_, rfl, .ref rfl⟩, trivial⟩) ?_)
 refine awp_seqK fun K2 hK2 => awp_reg rfl <| AR.op rfl (aop_field_pp rfl rfl fd42_0 (by decide)) <| AR.op (r := i64 c_0.Key) rfl (aop_load_pp rfl rfl sz3 rfl) <| AR.op rfl (aop_field_pp rfl rfl fd42_2 (by decide)) <| AR.keep [1, 2, 4, 5] rfl <| AR.op (r := i64 c_0.B) rfl (aop_load_pp rfl rfl sz3 rfl) <| AR.op rfl (aop_field_pp rfl rfl fd42_1 (by decide)) ?_
 refine AR.op (r := i64 c_0.A) rfl (aop_load_pp rfl rfl sz3 rfl) <| AR.keep [2, 4, 6, 8] rfl <| AR.op (r := .agg [i64 c_0.Key, i64 c_0.B, i64 c_0.A]) rfl (aop_build rfl bd42 rfl rfl rfl) <| AR.op rfl (aop_store (e' := .agg [i64 c_0.Key, i64 c_0.B, i64 c_0.A]) rfl rfl rfl rfl rfl rfl sz42 rfl dt rfl) <| AR.nil <| hK2 _ (AWP.weak (Weak.kt [2] rfl) ?_)
 refine awp_ret ?_
 obtain rfl := Option.some.inj h
 refine ⟨.inr rfl, .agg [i64 c_0.Key, i64 c_0.B, i64 c_0.A], rfl, ?_⟩
 exact Weak.e ⟨⟨.agg [i64 c_0.Key, i64 c_0.B, i64 c_0.A], rfl, .sm⟩, trivial⟩
theorem inquestref18_Back_ok {W0 : World} (hT : Tab W0) {c_0 : G.api_Choice} {r : G.api_Choice} (h : G.inquestref18_Back c_0 = some r) : Fun1 Try.prog W0 20 [G.api_Choice.av c_0] (G.api_Choice.av r) := Fun1.two (inquestref18_Back_ok0 hT h) (by simp)


theorem inquestref18_Ww_own {W0 : World} (hT : Tab W0) {h_0 : G.api_Hist} {l_1 : List G.api_Choice} {r : G.inquestref12_G} (h : G.inquestref18_Ww h_0 l_1 = some r) : Fun2 Try.prog W0 91 [G.api_Hist.av h_0, .sl (List.map G.api_Choice.av l_1)] (.agg [i64 r.N, .view 0 0 (List.map u64 r.Rows).length]) ⟨1, [(0, (1, List.map u64 r.Rows))], []⟩ := by
 refine fun2_of_awp Try.func91 rfl (by kernel_rfl) Try.ntmps91 (by simp) ?_
 unfold G.inquestref18_Ww at h
 show AWP _ _ _ _ ⟨[(0, G.api_Hist.av h_0), (1, .sl (List.map G.api_Choice.av l_1))], .empty⟩ _
 refine awp_seqK fun K1 hK1 => awp_reg rfl <| AR.op (r := .ref 0 0 0) rfl (aop_box 1 [G.api_Hist.av h_0] rfl rfl rfl (.inl ⟨rfl, rfl⟩)) <| AR.op (r := .ref 1 0 0) rfl (aop_alloc 2 [.agg [i64 0, nilS]] rfl zr119 (by kernel_rfl) (.inl ⟨rfl, rfl⟩)) <| AR.nil <| hK1 _ (AWP.weak (Weak.re (fr' := [(1, .sl (List.map G.api_Choice.av l_1)), (2, .pp [.sl (List.map G.api_Txn.av h_0.Txns)] 0), (4, .ref 0 0 0)]) (H' := ⟨1, [(0, (2, [.agg [i64 0, nilS]]))], []⟩) [(0, 1)] [] rfl rfl rfl (.cons rfl rfl (.one (.sm) rfl) dt trivial) ⟨⟨.sl (List.map G.api_Choice.av l_1), rfl, .sm⟩, ⟨_, rfl, .frzA rfl rfl rfl rfl (by simp)⟩, ⟨_, rfl, .ref rfl⟩, trivial⟩) ?_)
 refine awp_seqK fun K2 hK2 => awp_reg rfl <| AR.op rfl (aop_field_pp rfl rfl fd24_0 (by decide)) <| AR.op (r := .sl (List.map G.api_Txn.av h_0.Txns)) rfl (aop_load_pp rfl rfl sz22 rfl) <| AR.op rfl (t_len_sl G.api_Txn.av h_0.Txns rfl rfl el22) <| AR.keep [1, 4, 9] rfl ?_
 obtain ⟨r40, hr40, h⟩ := Sh.bind_some' h
 refine AR.op (r := .agg [i64 r40.N, .view 1 0 (List.map u64 r40.Rows).length]) rfl (aop_call2N (.agg [i64 r40.N, .view 1 0 (List.map u64 r40.Rows).length]) [(1, (1, List.map u64 r40.Rows))] rfl (ys := [i64 (Sh.len h_0.Txns)]) (xs := [i64 (Sh.len h_0.Txns)]) rfl (Weak.refl _) rfl (by simp) (inquestref12_New_own hT hr40) (.ag ⟨.sm, .view _ _ _, trivial⟩) ⟨rfl, rfl, .same (by simp [AV.flat]), trivial⟩) <| AR.op (r := .ref 2 0 0) rfl (aop_alloc 2 [.agg [i64 0, nilS]] rfl zr119 (by kernel_rfl) (.inl ⟨rfl, rfl⟩)) <| AR.op rfl (aop_store (e' := .agg [i64 r40.N, .view 1 0 (List.map u64 r40.Rows).length]) rfl rfl rfl rfl rfl rfl sz119 rfl dt rfl) <| AR.nil <| hK2 _ (AWP.weak (Weak.re (fr' := [(1, .sl (List.map G.api_Choice.av l_1)), (4, .ref 0 0 0), (5, .ref 1 0 0)]) (H' := ⟨3, [(0, (2, [.agg [i64 0, nilS]])), (1, (2, [.agg [i64 r40.N, .view 2 0 (List.map u64 r40.Rows).length]])), (2, (1, List.map u64 r40.Rows))], []⟩) [(0, 0), (1, 2), (2, 1)] [] rfl rfl rfl (.cons rfl rfl (.one (.sm) rfl) dt (.cons rfl rfl (.one (.ag ⟨.sm, .view rfl, trivial⟩) rfl) dt (.cons rfl rfl (.same (by simp)) dt trivial))) ⟨⟨.sl (List.map G.api_Choice.av l_1), rfl, .sm⟩, ⟨_, rfl, .ref rfl⟩, ⟨_, rfl, .ref rfl⟩, trivial⟩) ?_)
 refine awp_seqJ (fun (p : (List (BitVec 64))) => (⟨[(4, .ref 0 0 0), (5, .ref 1 0 0)], ⟨3, [(0, (2, [.agg [i64 0, nilS]])), (1, (2, [.agg [i64 r40.N, .view 2 0 (List.map u64 p).length]])), (2, (1, List.map u64 p))], []⟩⟩ : St)) (fun (p : (List (BitVec 64))) => G.inquestref18_Ww_j1 r40 p = some r) ?_ ?_
 ·rintro v78 h
  replace h : G.inquestref18_Ww_j1 r40 v78 = some r := h
  unfold G.inquestref18_Ww_j1 at h
  refine awp_seqK fun K3 hK3 => awp_reg rfl <| AR.op (r := .agg [i64 r40.N, .view 2 0 (List.map u64 v78).length]) rfl (aop_load_ref rfl rfl rfl rfl sz119 rfl) <| AR.op rfl (aop_store (e' := .agg [i64 r40.N, .view 2 0 (List.map u64 v78).length]) rfl rfl rfl rfl rfl rfl sz119 rfl dt rfl) <| AR.nil <| hK3 _ (AWP.weak (Weak.re (fr' := [(4, .ref 0 0 0)]) (H' := ⟨2, [(0, (2, [.agg [i64 r40.N, .view 1 0 (List.map u64 v78).length]])), (1, (1, List.map u64 v78))], []⟩) [(0, 0), (1, 2)] [] rfl rfl rfl (.cons rfl rfl (.one (.ag ⟨.sm, .view rfl, trivial⟩) rfl) dt (.cons rfl rfl (.same (by simp)) dt trivial)) ⟨⟨_, rfl, .ref rfl⟩, trivial⟩) ?_)
  refine awp_ret ?_
  obtain rfl := Option.some.inj h
  refine ⟨.inr rfl, .agg [i64 r40.N, .view 1 0 (List.map u64 v78).length], rfl, ?_⟩
  exact Weak.re [(0, 1)] [] rfl rfl rfl (.cons rfl rfl (.same (by simp)) dt trivial) ⟨⟨.agg [i64 r40.N, .view 1 0 (List.map u64 v78).length], rfl, .ag ⟨.sm, .view rfl, trivial⟩⟩, trivial⟩
 ·intro K4 hK4
  refine awp_seqK fun K5 hK5 => awp_reg rfl <| AR.op rfl (aop_move (.inr rfl) rfl) <| AR.nil <| hK5 _ ?_
  refine awp_block <| awp_iter (fun (p : (List (BitVec 64)) × Int) => G.inquestref18_Ww_b1 l_1 r40 p.1 p.2) (fun (p : (List (BitVec 64)) × Int) => (⟨[(1, .sl (List.map G.api_Choice.av l_1)), (4, .ref 0 0 0), (5, .ref 1 0 0), (6, i64 p.2)], ⟨3, [(0, (2, [.agg [i64 0, nilS]])), (1, (2, [.agg [i64 r40.N, .view 2 0 (List.map u64 p.1).length]])), (2, (1, List.map u64 p.1))], []⟩⟩ : St)) h (Weak.kt [1, 4, 5, 6] rfl) ?_
  ·skip
   rintro ⟨gRows103, i104⟩ o1 h hx1
   replace h : G.inquestref18_Ww_b1 l_1 r40 gRows103 i104 = some o1 := h
   unfold G.inquestref18_Ww_b1 at h
   refine awp_seqK fun K6 hK6 => awp_seqK fun K7 hK7 => awp_reg rfl <| AR.op rfl (aop_move (.inl rfl) rfl) <| AR.op rfl (aop_move (.inl rfl) rfl) <| AR.op rfl (t_len_sl G.api_Choice.av l_1 rfl rfl el25) <| AR.keep [1, 4, 5, 6, 11, 13] rfl <| AR.op rfl (aop_lss rfl rfl rfl) ?_
   refine AR.nil <| hK7 _ (AWP.weak (Weak.kt [1, 4, 5, 6, 14] rfl) ?_)
   refine awp_cond rfl (fun hb105 => ?_) (fun hb105 => ?_)
   ·replace h := Sh.if_t h hb105
    refine awp_skip <| hK6 _ (AWP.weak (Weak.kt [1, 4, 5, 6] rfl) ?_)
    refine awp_seqK fun K8 hK8 => awp_block <| awp_any [(false, false), (false, false), (true, false), (true, false), (true, false), (true, false), (true, false), (false, false), (false, false), (true, false), (true, false), (true, false), (true, false), (true, false), (false, false), (false, false), (true, false), (true, false), (true, false), (true, false), (true, false), (true, false), (false, false), (false, true)] (by kernel_rfl) (by kernel_rfl) rfl ?_
    refine ARH.op rfl rfl (aop_field_ref rfl rfl rfl fd119_1 (by decide)) <| ARH.op (r := .view 2 0 (List.map u64 gRows103).length) rfl rfl (aop_load_ref rfl rfl rfl rfl sz117 rfl) <| ARH.dry rfl (fun _ => aop_move (.inl rfl) rfl) <| ARH.keep [1, 4, 5, 6, 18, 19] rfl <| ARH.dry rfl (fun _ => aop_move (.inl rfl) rfl) ?_
    obtain ⟨x117, hx117, h⟩ := Sh.bind_some' h
    obtain ⟨k118, hi118, hl118⟩ := Sh.idx_some hx117
    refine ARH.dry rfl (fun _ => t_index_sl G.api_Choice.av l_1 hi118 hl118 rfl rfl rfl el25 rfl) <| ARH.dry rfl (fun _ => aop_field_pp rfl rfl fd42_1 (by decide)) <| ARH.keep [1, 4, 5, 6, 18, 22] rfl <| ARH.dry (r := i64 x117.A) rfl (fun _ => aop_load_pp rfl rfl sz3 rfl) <| ARH.op rfl rfl (aop_field_ref rfl rfl rfl fd119_1 (by decide)) <| ARH.op (r := .view 2 0 (List.map u64 gRows103).length) rfl rfl (aop_load_ref rfl rfl rfl rfl sz117 rfl) <| ARH.keep [1, 4, 5, 6, 18, 23, 25] rfl <| ARH.dry rfl (fun _ => aop_move (.inl rfl) rfl) ?_
    refine ARH.dry rfl (fun _ => aop_move (.inl rfl) rfl) ?_
    obtain ⟨x119, hx119, h⟩ := Sh.bind_some' h
    obtain ⟨k120, hi120, hl120⟩ := Sh.idx_some hx119
    refine ARH.dry rfl (fun _ => t_index_sl G.api_Choice.av l_1 hi120 hl120 rfl rfl rfl el25 rfl) <| ARH.keep [1, 4, 5, 6, 18, 23, 25, 28] rfl <| ARH.dry rfl (fun _ => aop_field_pp rfl rfl fd42_1 (by decide)) <| ARH.dry (r := i64 x119.A) rfl (fun _ => aop_load_pp rfl rfl sz3 rfl) ?_
    obtain ⟨x121, hx121, h⟩ := Sh.bind_some' h
    obtain ⟨k122, hi122, hl122⟩ := Sh.idx_some hx121
    refine ARH.op (r := .ref 2 k122 0) rfl rfl (t_index_view u64 gRows103 hi122 hl122 rfl rfl rfl rfl rfl el117 rfl) <| ARH.keep [1, 4, 5, 6, 18, 23, 31] rfl <| ARH.op (r := u64 x121) rfl rfl (t_load_el u64 gRows103 hl122 rfl rfl rfl sz135 rfl) <| ARH.dry rfl (fun _ => aop_move (.inl rfl) rfl) <| ARH.dry rfl (fun _ => aop_move (.inl rfl) rfl) <| ARH.keep [1, 4, 5, 6, 18, 23, 32, 33, 34] rfl ?_
    obtain ⟨x123, hx123, h⟩ := Sh.bind_some' h
    obtain ⟨k124, hi124, hl124⟩ := Sh.idx_some hx123
    refine ARH.dry rfl (fun _ => t_index_sl G.api_Choice.av l_1 hi124 hl124 rfl rfl rfl el25 rfl) <| ARH.dry rfl (fun _ => aop_field_pp rfl rfl fd42_2 (by decide)) <| ARH.dry (r := i64 x123.B) rfl (fun _ => aop_load_pp rfl rfl sz3 rfl) <| ARH.keep [1, 4, 5, 6, 18, 23, 32, 37] rfl ?_
    obtain ⟨r125, hr125, h⟩ := Sh.bind_some' h
    refine ARH.dry (r := u64 r125) rfl (fun _ => aop_call1 rfl rfl (by simp) (inquestref10_With_ok hT hr125)) ?_
    obtain ⟨x126, hx126, h⟩ := Sh.bind_some' h
    obtain ⟨k127, hi127, hl127⟩ := Sh.idx_some hx126
    refine ARH.op (r := .ref 2 k127 0) rfl rfl (t_index_view u64 gRows103 hi127 hl127 rfl rfl rfl rfl rfl el117 rfl) <| ARH.loud rfl rfl (t_store_el u64 gRows103 r125 hi127 hl127 rfl rfl rfl rfl rfl sz135 rfl dt rfl) <| ARH.nil <| hK8 _ (AWP.weak (Weak.re (fr' := [(1, .sl (List.map G.api_Choice.av l_1)), (4, .ref 0 0 0), (5, .ref 1 0 0), (6, i64 i104)]) (H' := ⟨3, [(0, (2, [.agg [i64 0, nilS]])), (1, (2, [.agg [i64 r40.N, .view 2 0 (List.map u64 (Sh.set gRows103 x117.A r125)).length]])), (2, (1, List.map u64 (Sh.set gRows103 x117.A r125)))], []⟩) [(0, 0), (1, 1), (2, 2)] [] rfl rfl rfl (.cons rfl rfl (.one (.sm) rfl) dt (.cons rfl rfl (.one (.ag ⟨.sm, .viewL rfl (by simp []), trivial⟩) rfl) dt (.cons rfl rfl (.same (by simp)) dt trivial))) ⟨⟨.sl (List.map G.api_Choice.av l_1), rfl, .sm⟩, ⟨_, rfl, .ref rfl⟩, ⟨_, rfl, .ref rfl⟩, .k, trivial⟩) ?_)
    refine awp_reg rfl <| AR.op rfl (aop_move (.inl rfl) rfl) <| AR.op rfl (aop_add rfl rfl rfl rfl) <| AR.op rfl (aop_move (.inr rfl) rfl) <| AR.nil ?_
    replace h := Sh.next_eq h
    exact ⟨_, h, Weak.kt [1, 4, 5, 6] rfl⟩
   ·replace h := Sh.if_f h hb105
    refine awp_exit ?_
    replace h := Sh.exit_eq h hx1
    exact hK4 gRows103 _ h (Weak.kt [4, 5] rfl)
theorem inquestref18_Ww_ok {W0 : World} (hT : Tab W0) {h_0 : G.api_Hist} {l_1 : List G.api_Choice} {r : G.inquestref12_G} (h : G.inquestref18_Ww h_0 l_1 = some r) : Fun1 Try.prog W0 91 [G.api_Hist.av h_0, .sl (List.map G.api_Choice.av l_1)] (G.inquestref12_G.av r) :=
 (inquestref18_Ww_own hT h).give (Weak.e ⟨⟨_, rfl, .ag ⟨.sm, .lendAll rfl rfl (by simp), trivial⟩⟩, trivial⟩) (by simp)


theorem inquestref18_Rw_own {W0 : World} (hT : Tab W0) {h_0 : G.api_Hist} {l_1 : List G.api_Choice} {r : G.inquestref12_G} (h : G.inquestref18_Rw h_0 l_1 = some r) : Fun2 Try.prog W0 92 [G.api_Hist.av h_0, .sl (List.map G.api_Choice.av l_1)] (.agg [i64 r.N, .view 0 0 (List.map u64 r.Rows).length]) ⟨1, [(0, (1, List.map u64 r.Rows))], []⟩ := by
 refine fun2_of_awp Try.func92 rfl (by kernel_rfl) Try.ntmps92 (by simp) ?_
 unfold G.inquestref18_Rw at h
 show AWP _ _ _ _ ⟨[(0, G.api_Hist.av h_0), (1, .sl (List.map G.api_Choice.av l_1))], .empty⟩ _
 refine awp_seqK fun K1 hK1 => awp_reg rfl <| AR.op (r := .ref 0 0 0) rfl (aop_box 1 [G.api_Hist.av h_0] rfl rfl rfl (.inl ⟨rfl, rfl⟩)) <| AR.op (r := .ref 1 0 0) rfl (aop_alloc 2 [.agg [i64 0, nilS]] rfl zr119 (by kernel_rfl) (.inl ⟨rfl, rfl⟩)) <| AR.nil <| hK1 _ (AWP.weak (Weak.re (fr' := [(1, .sl (List.map G.api_Choice.av l_1)), (2, .pp [.sl (List.map G.api_Txn.av h_0.Txns)] 0), (4, .ref 0 0 0)]) (H' := ⟨1, [(0, (2, [.agg [i64 0, nilS]]))], []⟩) [(0, 1)] [] rfl rfl rfl (.cons rfl rfl (.one (.sm) rfl) dt trivial) ⟨⟨.sl (List.map G.api_Choice.av l_1), rfl, .sm⟩, ⟨_, rfl, .frzA rfl rfl rfl rfl (by simp)⟩, ⟨_, rfl, .ref rfl⟩, trivial⟩) ?_)
 refine awp_seqK fun K2 hK2 => awp_reg rfl <| AR.op (r := G.api_Hist.av h_0) rfl (aop_load_pp rfl rfl sz24 rfl) ?_
 obtain ⟨r178, hr178, h⟩ := Sh.bind_some' h
 refine AR.op (r := .agg [i64 r178.N, .view 1 0 (List.map u64 r178.Rows).length]) rfl (aop_call2N (.agg [i64 r178.N, .view 1 0 (List.map u64 r178.Rows).length]) [(1, (1, List.map u64 r178.Rows))] rfl (ys := [G.api_Hist.av h_0]) (xs := [G.api_Hist.av h_0]) rfl (Weak.refl _) rfl (by simp) (inquestref17_Init_own hT hr178) (.ag ⟨.sm, .view _ _ _, trivial⟩) ⟨rfl, rfl, .same (by simp [AV.flat]), trivial⟩) <| AR.op (r := .ref 2 0 0) rfl (aop_alloc 2 [.agg [i64 0, nilS]] rfl zr119 (by kernel_rfl) (.inl ⟨rfl, rfl⟩)) <| AR.keep [1, 2, 4, 10, 5] rfl <| AR.op rfl (aop_store (e' := .agg [i64 r178.N, .view 1 0 (List.map u64 r178.Rows).length]) rfl rfl rfl rfl rfl rfl sz119 rfl dt rfl) <| AR.nil <| hK2 _ (AWP.weak (Weak.re (fr' := [(1, .sl (List.map G.api_Choice.av l_1)), (2, .pp [.sl (List.map G.api_Txn.av h_0.Txns)] 0), (4, .ref 0 0 0), (5, .ref 1 0 0)]) (H' := ⟨3, [(0, (2, [.agg [i64 0, nilS]])), (1, (2, [.agg [i64 r178.N, .view 2 0 (List.map u64 r178.Rows).length]])), (2, (1, List.map u64 r178.Rows))], []⟩) [(0, 0), (1, 2), (2, 1)] [] rfl rfl rfl (.cons rfl rfl (.one (.sm) rfl) dt (.cons rfl rfl (.one (.ag ⟨.sm, .view rfl, trivial⟩) rfl) dt (.cons rfl rfl (.same (by simp)) dt trivial))) ⟨⟨.sl (List.map G.api_Choice.av l_1), rfl, .sm⟩, .k, ⟨_, rfl, .ref rfl⟩, ⟨_, rfl, .ref rfl⟩, trivial⟩) ?_)
 refine awp_seqJ (fun (p : (List (BitVec 64))) => (⟨[(4, .ref 0 0 0), (5, .ref 1 0 0)], ⟨3, [(0, (2, [.agg [i64 0, nilS]])), (1, (2, [.agg [i64 r178.N, .view 2 0 (List.map u64 p).length]])), (2, (1, List.map u64 p))], []⟩⟩ : St)) (fun (p : (List (BitVec 64))) => G.inquestref18_Rw_j1 r178 p = some r) ?_ ?_
 ·rintro v354 h
  replace h : G.inquestref18_Rw_j1 r178 v354 = some r := h
  unfold G.inquestref18_Rw_j1 at h
  refine awp_seqK fun K3 hK3 => awp_reg rfl <| AR.op (r := .agg [i64 r178.N, .view 2 0 (List.map u64 v354).length]) rfl (aop_load_ref rfl rfl rfl rfl sz119 rfl) <| AR.op rfl (aop_store (e' := .agg [i64 r178.N, .view 2 0 (List.map u64 v354).length]) rfl rfl rfl rfl rfl rfl sz119 rfl dt rfl) <| AR.nil <| hK3 _ (AWP.weak (Weak.re (fr' := [(4, .ref 0 0 0)]) (H' := ⟨2, [(0, (2, [.agg [i64 r178.N, .view 1 0 (List.map u64 v354).length]])), (1, (1, List.map u64 v354))], []⟩) [(0, 0), (1, 2)] [] rfl rfl rfl (.cons rfl rfl (.one (.ag ⟨.sm, .view rfl, trivial⟩) rfl) dt (.cons rfl rfl (.same (by simp)) dt trivial)) ⟨⟨_, rfl, .ref rfl⟩, trivial⟩) ?_)
  refine awp_ret ?_
  obtain rfl := Option.some.inj h
  refine ⟨.inr rfl, .agg [i64 r178.N, .view 1 0 (List.map u64 v354).length], rfl, ?_⟩
  exact Weak.re [(0, 1)] [] rfl rfl rfl (.cons rfl rfl (.same (by simp)) dt trivial) ⟨⟨.agg [i64 r178.N, .view 1 0 (List.map u64 v354).length], rfl, .ag ⟨.sm, .view rfl, trivial⟩⟩, trivial⟩
 ·intro K4 hK4
  refine awp_seqK fun K5 hK5 => awp_reg rfl <| AR.op rfl (aop_move (.inr rfl) rfl) <| AR.nil <| hK5 _ ?_
  refine awp_block <| awp_iter (fun (p : (List (BitVec 64)) × Int) => G.inquestref18_Rw_b1 h_0 l_1 r178 p.1 p.2) (fun (p : (List (BitVec 64)) × Int) => (⟨[(1, .sl (List.map G.api_Choice.av l_1)), (2, .pp [.sl (List.map G.api_Txn.av h_0.Txns)] 0), (4, .ref 0 0 0), (5, .ref 1 0 0), (6, i64 p.2)], ⟨3, [(0, (2, [.agg [i64 0, nilS]])), (1, (2, [.agg [i64 r178.N, .view 2 0 (List.map u64 p.1).length]])), (2, (1, List.map u64 p.1))], []⟩⟩ : St)) h (Weak.kt [1, 2, 4, 5, 6] rfl) ?_
  ·skip
   rintro ⟨gRows471, i472⟩ o1 h hx1
   replace h : G.inquestref18_Rw_b1 h_0 l_1 r178 gRows471 i472 = some o1 := h
   unfold G.inquestref18_Rw_b1 at h
   refine awp_seqK fun K6 hK6 => awp_seqK fun K7 hK7 => awp_reg rfl <| AR.op rfl (aop_move (.inl rfl) rfl) <| AR.op rfl (aop_move (.inl rfl) rfl) <| AR.op rfl (t_len_sl G.api_Choice.av l_1 rfl rfl el25) <| AR.keep [1, 2, 4, 5, 6, 11, 13] rfl <| AR.op rfl (aop_lss rfl rfl rfl) ?_
   refine AR.nil <| hK7 _ (AWP.weak (Weak.kt [1, 2, 4, 5, 6, 14] rfl) ?_)
   refine awp_cond rfl (fun hb473 => ?_) (fun hb473 => ?_)
   ·replace h := Sh.if_t h hb473
    refine awp_skip <| hK6 _ (AWP.weak (Weak.kt [1, 2, 4, 5, 6] rfl) ?_)
    refine awp_seqJ (fun (p : (List (BitVec 64))) => (⟨[(1, .sl (List.map G.api_Choice.av l_1)), (2, .pp [.sl (List.map G.api_Txn.av h_0.Txns)] 0), (4, .ref 0 0 0), (5, .ref 1 0 0), (6, i64 i472)], ⟨3, [(0, (2, [.agg [i64 0, nilS]])), (1, (2, [.agg [i64 r178.N, .view 2 0 (List.map u64 p).length]])), (2, (1, List.map u64 p))], []⟩⟩ : St)) (fun (p : (List (BitVec 64))) => G.inquestref18_Rw_j2 i472 p = some o1) ?_ ?_
    ·rintro v531 h
     replace h : G.inquestref18_Rw_j2 i472 v531 = some o1 := h
     unfold G.inquestref18_Rw_j2 at h
     refine awp_reg rfl <| AR.op rfl (aop_move (.inl rfl) rfl) <| AR.op rfl (aop_add rfl rfl rfl rfl) <| AR.op rfl (aop_move (.inr rfl) rfl) <| AR.nil ?_
     replace h := Sh.next_eq h
     exact ⟨_, h, Weak.kt [1, 2, 4, 5, 6] rfl⟩
    ·intro K8 hK8
     refine awp_block <| awp_seqK fun K9 hK9 => awp_any [(true, false), (true, false), (true, false), (true, false), (true, false), (true, false), (true, false), (true, false), (true, false), (true, false), (true, false), (true, false), (true, false)] (by kernel_rfl) (by kernel_rfl) rfl ?_
     refine ARH.dry (r := G.api_Hist.av h_0) rfl (fun _ => aop_load_pp rfl rfl sz24 rfl) <| ARH.dry rfl (fun _ => aop_move (.inl rfl) rfl) <| ARH.dry rfl (fun _ => aop_move (.inl rfl) rfl) <| ARH.keep [1, 2, 4, 5, 6, 17, 18, 19] rfl ?_
     obtain ⟨x537, hx537, h⟩ := Sh.bind_some' h
     obtain ⟨k538, hi538, hl538⟩ := Sh.idx_some hx537
     refine ARH.dry rfl (fun _ => t_index_sl G.api_Choice.av l_1 hi538 hl538 rfl rfl rfl el25 rfl) <| ARH.dry rfl (fun _ => aop_field_pp rfl rfl fd42_0 (by decide)) <| ARH.dry (r := i64 x537.Key) rfl (fun _ => aop_load_pp rfl rfl sz3 rfl) <| ARH.keep [1, 2, 4, 5, 6, 17, 22] rfl <| ARH.dry rfl (fun _ => aop_move (.inl rfl) rfl) <| ARH.dry rfl (fun _ => aop_move (.inl rfl) rfl) ?_
     obtain ⟨x539, hx539, h⟩ := Sh.bind_some' h
     obtain ⟨k540, hi540, hl540⟩ := Sh.idx_some hx539
     refine ARH.dry rfl (fun _ => t_index_sl G.api_Choice.av l_1 hi540 hl540 rfl rfl rfl el25 rfl) <| ARH.keep [1, 2, 4, 5, 6, 17, 22, 25] rfl <| ARH.dry rfl (fun _ => aop_field_pp rfl rfl fd42_1 (by decide)) <| ARH.dry (r := i64 x539.A) rfl (fun _ => aop_load_pp rfl rfl sz3 rfl) ?_
     obtain ⟨r541, hr541, h⟩ := Sh.bind_some' h
     refine ARH.dry (r := .sl (List.map i64 r541)) rfl (fun _ => aop_call1 rfl rfl (by simp) (inquestref09_Readers_ok hT hr541)) <| ARH.keep [1, 2, 4, 5, 6, 28] rfl <| ARH.dry rfl (fun _ => aop_move (.inr rfl) rfl) <| ARH.nil <| hK9 _ (AWP.weak (Weak.kt [1, 2, 4, 5, 6, 7] rfl) ?_)
     refine awp_seqK fun K10 hK10 => awp_reg rfl <| AR.op rfl (aop_move (.inr rfl) rfl) <| AR.nil <| hK10 _ ?_
     refine awp_block <| awp_iter (fun (p : (List (BitVec 64)) × Int) => G.inquestref18_Rw_b2 l_1 i472 r541 p.1 p.2) (fun (p : (List (BitVec 64)) × Int) => (⟨[(1, .sl (List.map G.api_Choice.av l_1)), (2, .pp [.sl (List.map G.api_Txn.av h_0.Txns)] 0), (4, .ref 0 0 0), (5, .ref 1 0 0), (6, i64 i472), (7, .sl (List.map i64 r541)), (8, i64 p.2)], ⟨3, [(0, (2, [.agg [i64 0, nilS]])), (1, (2, [.agg [i64 r178.N, .view 2 0 (List.map u64 p.1).length]])), (2, (1, List.map u64 p.1))], []⟩⟩ : St)) h (Weak.kt [1, 2, 4, 5, 6, 7, 8] rfl) ?_
     ·skip
      rintro ⟨gRows576, k577⟩ o2 h hx2
      replace h : G.inquestref18_Rw_b2 l_1 i472 r541 gRows576 k577 = some o2 := h
      unfold G.inquestref18_Rw_b2 at h
      refine awp_seqK fun K11 hK11 => awp_seqK fun K12 hK12 => awp_reg rfl <| AR.op rfl (aop_move (.inl rfl) rfl) <| AR.op rfl (aop_move (.inl rfl) rfl) <| AR.op rfl (t_len_sl i64 r541 rfl rfl el44) <| AR.keep [1, 2, 4, 5, 6, 7, 8, 29, 31] rfl <| AR.op rfl (aop_lss rfl rfl rfl) ?_
      refine AR.nil <| hK12 _ (AWP.weak (Weak.kt [1, 2, 4, 5, 6, 7, 8, 32] rfl) ?_)
      refine awp_cond rfl (fun hb578 => ?_) (fun hb578 => ?_)
      ·replace h := Sh.if_t h hb578
       refine awp_skip <| hK11 _ (AWP.weak (Weak.kt [1, 2, 4, 5, 6, 7, 8] rfl) ?_)
       refine awp_seqJ (fun (p : (List (BitVec 64))) => (⟨[(1, .sl (List.map G.api_Choice.av l_1)), (2, .pp [.sl (List.map G.api_Txn.av h_0.Txns)] 0), (4, .ref 0 0 0), (5, .ref 1 0 0), (6, i64 i472), (7, .sl (List.map i64 r541)), (8, i64 k577)], ⟨3, [(0, (2, [.agg [i64 0, nilS]])), (1, (2, [.agg [i64 r178.N, .view 2 0 (List.map u64 p).length]])), (2, (1, List.map u64 p))], []⟩⟩ : St)) (fun (p : (List (BitVec 64))) => G.inquestref18_Rw_j3 k577 p = some o2) ?_ ?_
       ·rintro gRows594 h
        replace h : G.inquestref18_Rw_j3 k577 gRows594 = some o2 := h
        unfold G.inquestref18_Rw_j3 at h
        refine awp_reg rfl <| AR.op rfl (aop_move (.inl rfl) rfl) <| AR.op rfl (aop_add rfl rfl rfl rfl) <| AR.op rfl (aop_move (.inr rfl) rfl) <| AR.nil ?_
        replace h := Sh.next_eq h
        exact ⟨_, h, Weak.kt [1, 2, 4, 5, 6, 7, 8] rfl⟩
       ·intro K13 hK13
        refine awp_block <| awp_seqK fun K14 hK14 => awp_any [(true, false), (true, false), (true, false), (true, false), (true, false), (true, false), (true, false), (true, false), (true, false), (true, false)] (by kernel_rfl) (by kernel_rfl) rfl ?_
        refine ARH.dry rfl (fun _ => aop_move (.inl rfl) rfl) <| ARH.dry rfl (fun _ => aop_move (.inl rfl) rfl) ?_
        obtain ⟨x599, hx599, h⟩ := Sh.bind_some' h
        obtain ⟨k600, hi600, hl600⟩ := Sh.idx_some hx599
        refine ARH.dry rfl (fun _ => t_index_sl i64 r541 hi600 hl600 rfl rfl rfl el44 rfl) <| ARH.keep [1, 2, 4, 5, 6, 7, 8, 37] rfl <| ARH.dry (r := i64 x599) rfl (fun _ => aop_load_pp rfl rfl sz3 rfl) <| ARH.dry rfl (fun _ => aop_move (.inl rfl) rfl) <| ARH.dry rfl (fun _ => aop_move (.inl rfl) rfl) <| ARH.keep [1, 2, 4, 5, 6, 7, 8, 38, 39, 40] rfl ?_
        obtain ⟨x601, hx601, h⟩ := Sh.bind_some' h
        obtain ⟨k602, hi602, hl602⟩ := Sh.idx_some hx601
        refine ARH.dry rfl (fun _ => t_index_sl G.api_Choice.av l_1 hi602 hl602 rfl rfl rfl el25 rfl) <| ARH.dry rfl (fun _ => aop_field_pp rfl rfl fd42_2 (by decide)) <| ARH.dry (r := i64 x601.B) rfl (fun _ => aop_load_pp rfl rfl sz3 rfl) <| ARH.keep [1, 2, 4, 5, 6, 7, 8, 38, 43] rfl <| ARH.dry (r := bl (decide (x599 ≠ x601.B))) rfl (fun _ => aop_neq rfl rfl rfl) <| ARH.nil <| hK14 _ (AWP.weak (Weak.kt [1, 2, 4, 5, 6, 7, 8, 44] rfl) ?_)
        refine awp_cond rfl (fun hb603 => ?_) (fun hb603 => ?_)
        ·replace h := Sh.if_t h hb603
         refine awp_any [(false, false), (false, false), (true, false), (true, false), (true, false), (true, false), (false, false), (false, false), (true, false), (true, false), (true, false), (true, false), (false, false), (false, false), (true, false), (true, false), (true, false), (true, false), (true, false), (true, false), (false, false), (false, true)] (by kernel_rfl) (by kernel_rfl) rfl ?_
         refine ARH.op rfl rfl (aop_field_ref rfl rfl rfl fd119_1 (by decide)) <| ARH.op (r := .view 2 0 (List.map u64 gRows576).length) rfl rfl (aop_load_ref rfl rfl rfl rfl sz117 rfl) <| ARH.dry rfl (fun _ => aop_move (.inl rfl) rfl) <| ARH.keep [1, 2, 4, 5, 6, 7, 8, 46, 47] rfl <| ARH.dry rfl (fun _ => aop_move (.inl rfl) rfl) ?_
         obtain ⟨x604, hx604, h⟩ := Sh.bind_some' h
         obtain ⟨k605, hi605, hl605⟩ := Sh.idx_some hx604
         refine ARH.dry rfl (fun _ => t_index_sl i64 r541 hi605 hl605 rfl rfl rfl el44 rfl) <| ARH.dry (r := i64 x604) rfl (fun _ => aop_load_pp rfl rfl sz3 rfl) <| ARH.keep [1, 2, 4, 5, 6, 7, 8, 46, 50] rfl <| ARH.op rfl rfl (aop_field_ref rfl rfl rfl fd119_1 (by decide)) <| ARH.op (r := .view 2 0 (List.map u64 gRows576).length) rfl rfl (aop_load_ref rfl rfl rfl rfl sz117 rfl) <| ARH.dry rfl (fun _ => aop_move (.inl rfl) rfl) <| ARH.keep [1, 2, 4, 5, 6, 7, 8, 46, 50, 52, 53] rfl <| ARH.dry rfl (fun _ => aop_move (.inl rfl) rfl) ?_
         obtain ⟨x606, hx606, h⟩ := Sh.bind_some' h
         obtain ⟨k607, hi607, hl607⟩ := Sh.idx_some hx606
         refine ARH.dry rfl (fun _ => t_index_sl i64 r541 hi607 hl607 rfl rfl rfl el44 rfl) <| ARH.dry (r := i64 x606) rfl (fun _ => aop_load_pp rfl rfl sz3 rfl) <| ARH.keep [1, 2, 4, 5, 6, 7, 8, 46, 50, 52, 56] rfl ?_
         obtain ⟨x608, hx608, h⟩ := Sh.bind_some' h
         obtain ⟨k609, hi609, hl609⟩ := Sh.idx_some hx608
         refine ARH.op (r := .ref 2 k609 0) rfl rfl (t_index_view u64 gRows576 hi609 hl609 rfl rfl rfl rfl rfl el117 rfl) <| ARH.op (r := u64 x608) rfl rfl (t_load_el u64 gRows576 hl609 rfl rfl rfl sz135 rfl) <| ARH.dry rfl (fun _ => aop_move (.inl rfl) rfl) <| ARH.keep [1, 2, 4, 5, 6, 7, 8, 46, 50, 58, 59] rfl <| ARH.dry rfl (fun _ => aop_move (.inl rfl) rfl) ?_
         obtain ⟨x610, hx610, h⟩ := Sh.bind_some' h
         obtain ⟨k611, hi611, hl611⟩ := Sh.idx_some hx610
         refine ARH.dry rfl (fun _ => t_index_sl G.api_Choice.av l_1 hi611 hl611 rfl rfl rfl el25 rfl) <| ARH.dry rfl (fun _ => aop_field_pp rfl rfl fd42_2 (by decide)) <| ARH.keep [1, 2, 4, 5, 6, 7, 8, 46, 50, 58, 62] rfl <| ARH.dry (r := i64 x610.B) rfl (fun _ => aop_load_pp rfl rfl sz3 rfl) ?_
         obtain ⟨r612, hr612, h⟩ := Sh.bind_some' h
         refine ARH.dry (r := u64 r612) rfl (fun _ => aop_call1 rfl rfl (by simp) (inquestref10_With_ok hT hr612)) ?_
         obtain ⟨x613, hx613, h⟩ := Sh.bind_some' h
         obtain ⟨k614, hi614, hl614⟩ := Sh.idx_some hx613
         refine ARH.op (r := .ref 2 k614 0) rfl rfl (t_index_view u64 gRows576 hi614 hl614 rfl rfl rfl rfl rfl el117 rfl) <| ARH.keep [1, 2, 4, 5, 6, 7, 8, 64, 65] rfl <| ARH.loud rfl rfl (t_store_el u64 gRows576 r612 hi614 hl614 rfl rfl rfl rfl rfl sz135 rfl dt rfl) <| ARH.nil ?_
         exact hK13 (Sh.set gRows576 x604 r612) _ h (Weak.re [(0, 0), (1, 1), (2, 2)] [] rfl rfl rfl (.cons rfl rfl (.one (.sm) rfl) dt (.cons rfl rfl (.one (.ag ⟨.sm, .viewL rfl (by simp []), trivial⟩) rfl) dt (.cons rfl rfl (.same (by simp)) dt trivial))) ⟨⟨.sl (List.map G.api_Choice.av l_1), rfl, .sm⟩, .k, ⟨_, rfl, .ref rfl⟩, ⟨_, rfl, .ref rfl⟩, .k, ⟨.sl (List.map i64 r541), rfl, .sm⟩, .k, trivial⟩)
        ·replace h := Sh.if_f h hb603
         refine awp_skip ?_
         exact hK13 gRows576 _ h (Weak.kt [1, 2, 4, 5, 6, 7, 8] rfl)
      ·replace h := Sh.if_f h hb578
       refine awp_exit ?_
       replace h := Sh.exit_eq h hx2
       exact hK8 gRows576 _ h (Weak.kt [1, 2, 4, 5, 6] rfl)
   ·replace h := Sh.if_f h hb473
    refine awp_exit ?_
    replace h := Sh.exit_eq h hx1
    exact hK4 gRows471 _ h (Weak.kt [4, 5] rfl)
theorem inquestref18_Rw_ok {W0 : World} (hT : Tab W0) {h_0 : G.api_Hist} {l_1 : List G.api_Choice} {r : G.inquestref12_G} (h : G.inquestref18_Rw h_0 l_1 = some r) : Fun1 Try.prog W0 92 [G.api_Hist.av h_0, .sl (List.map G.api_Choice.av l_1)] (G.inquestref12_G.av r) :=
 (inquestref18_Rw_own hT h).give (Weak.e ⟨⟨_, rfl, .ag ⟨.sm, .lendAll rfl rfl (by simp), trivial⟩⟩, trivial⟩) (by simp)


theorem inquestref18_Full_own {W0 : World} (hT : Tab W0) {h_0 : G.api_Hist} {level_1 : Int} {l_2 : List G.api_Choice} {r : G.inquestref12_G} (h : G.inquestref18_Full h_0 level_1 l_2 = some r) : Fun2 Try.prog W0 79 [G.api_Hist.av h_0, i64 level_1, .sl (List.map G.api_Choice.av l_2)] (.agg [i64 r.N, .view 0 0 (List.map u64 r.Rows).length]) ⟨1, [(0, (1, List.map u64 r.Rows))], []⟩ := by
 refine fun2_of_awp Try.func79 rfl (by kernel_rfl) Try.ntmps79 (by simp) ?_
 unfold G.inquestref18_Full at h
 show AWP _ _ _ _ ⟨[(0, G.api_Hist.av h_0), (1, i64 level_1), (2, .sl (List.map G.api_Choice.av l_2))], .empty⟩ _
 refine awp_seqK fun K1 hK1 => awp_reg rfl <| AR.op (r := .ref 0 0 0) rfl (aop_box 1 [G.api_Hist.av h_0] rfl rfl rfl (.inl ⟨rfl, rfl⟩)) <| AR.op (r := .ref 1 0 0) rfl (aop_alloc 2 [.agg [i64 0, nilS]] rfl zr119 (by kernel_rfl) (.inl ⟨rfl, rfl⟩)) <| AR.nil <| hK1 _ (AWP.weak (Weak.re (fr' := [(1, i64 level_1), (2, .sl (List.map G.api_Choice.av l_2)), (3, .pp [.sl (List.map G.api_Txn.av h_0.Txns)] 0), (6, .ref 0 0 0)]) (H' := ⟨1, [(0, (2, [.agg [i64 0, nilS]]))], []⟩) [(0, 1)] [] rfl rfl rfl (.cons rfl rfl (.one (.sm) rfl) dt trivial) ⟨.k, ⟨.sl (List.map G.api_Choice.av l_2), rfl, .sm⟩, ⟨_, rfl, .frzA rfl rfl rfl rfl (by simp)⟩, ⟨_, rfl, .ref rfl⟩, trivial⟩) ?_)
 refine awp_seqK fun K2 hK2 => awp_any [(true, false), (true, false), (true, false), (true, false), (true, false), (true, false), (false, true), (false, true)] (by kernel_rfl) (by kernel_rfl) rfl ?_
 refine ARH.dry (r := G.api_Hist.av h_0) rfl (fun _ => aop_load_pp rfl rfl sz24 rfl) ?_
 obtain ⟨r11, hr11, h⟩ := Sh.bind_some' h
 refine ARH.dry (r := G.inquestref12_G.av r11) rfl (fun _ => aop_call1 rfl rfl (by simp) (inquestref17_Past_ok hT hr11)) <| ARH.dry (r := G.api_Hist.av h_0) rfl (fun _ => aop_load_pp rfl rfl sz24 rfl) <| ARH.keep [1, 2, 3, 6, 10, 11] rfl <| ARH.dry rfl (fun _ => aop_move (.inl rfl) rfl) ?_
 obtain ⟨r12, hr12, h⟩ := Sh.bind_some' h
 refine ARH.dry (r := G.inquestref12_G.av r12) rfl (fun _ => aop_call1 rfl rfl (by simp) (inquestref18_Ww_ok hT hr12)) ?_
 obtain ⟨r13, hr13, h⟩ := Sh.bind_some' h
 refine ARH.dry (r := G.inquestref12_G.av r13) rfl (fun _ => aop_call1 rfl rfl (by simp) (inquestref12_Union_ok hT hr13)) <| ARH.keep [1, 2, 3, 6, 14] rfl <| ARH.loud (r := .ref 1 0 0) rfl rfl (aop_alloc 2 [.agg [i64 0, nilS]] rfl zr119 (by kernel_rfl) (.inl ⟨rfl, rfl⟩)) <| ARH.loud rfl rfl (aop_store (e' := G.inquestref12_G.av r13) rfl rfl rfl rfl rfl rfl sz119 rfl dt rfl) <| ARH.nil <| hK2 _ (AWP.weak (Weak.re (fr' := [(1, i64 level_1), (2, .sl (List.map G.api_Choice.av l_2)), (3, .pp [.sl (List.map G.api_Txn.av h_0.Txns)] 0), (6, .ref 0 0 0), (7, .pp [i64 r13.N, .sl (List.map u64 r13.Rows)] 0)]) (H' := ⟨1, [(0, (2, [.agg [i64 0, nilS]]))], []⟩) [(0, 0)] [] rfl rfl rfl (.cons rfl rfl (.one (.sm) rfl) dt trivial) ⟨.k, ⟨.sl (List.map G.api_Choice.av l_2), rfl, .sm⟩, .k, ⟨_, rfl, .ref rfl⟩, ⟨_, rfl, .frzA rfl rfl rfl rfl (by simp)⟩, trivial⟩) ?_)
 refine awp_seqK fun K3 hK3 => awp_reg rfl <| AR.op (r := G.api_Hist.av h_0) rfl (aop_load_pp rfl rfl sz24 rfl) <| AR.op rfl (aop_move (.inl rfl) rfl) ?_
 obtain ⟨r15, hr15, h⟩ := Sh.bind_some' h
 refine AR.op (r := G.inquestref12_G.av r15) rfl (aop_call1 rfl rfl (by simp) (inquestref18_Rw_ok hT hr15)) <| AR.keep [1, 6, 7, 17] rfl <| AR.op (r := .ref 1 0 0) rfl (aop_alloc 2 [.agg [i64 0, nilS]] rfl zr119 (by kernel_rfl) (.inl ⟨rfl, rfl⟩)) <| AR.op rfl (aop_store (e' := G.inquestref12_G.av r15) rfl rfl rfl rfl rfl rfl sz119 rfl dt rfl) <| AR.nil <| hK3 _ (AWP.weak (Weak.kt [1, 6, 7, 8] rfl) ?_)
 refine awp_seqJ (fun (p : G.inquestref12_G) => (⟨[(6, .ref 0 0 0), (7, .pp [i64 r13.N, .sl (List.map u64 r13.Rows)] 0), (8, .ref 1 0 0)], ⟨2, [(0, (2, [.agg [i64 0, nilS]])), (1, (2, [G.inquestref12_G.av p]))], []⟩⟩ : St)) (fun (p : G.inquestref12_G) => G.inquestref18_Full_j1 r13 p = some r) ?_ ?_
 ·rintro r17 h
  replace h : G.inquestref18_Full_j1 r13 r17 = some r := h
  unfold G.inquestref18_Full_j1 at h
  refine awp_seqK fun K4 hK4 => awp_reg rfl <| AR.op (r := G.inquestref12_G.av r13) rfl (aop_load_pp rfl rfl sz119 rfl) <| AR.op (r := G.inquestref12_G.av r17) rfl (aop_load_ref rfl rfl rfl rfl sz119 rfl) ?_
  obtain ⟨r19, hr19, h⟩ := Sh.bind_some' h
  refine AR.op (r := .agg [i64 r19.N, .view 2 0 (List.map u64 r19.Rows).length]) rfl (aop_call2N (.agg [i64 r19.N, .view 2 0 (List.map u64 r19.Rows).length]) [(2, (1, List.map u64 r19.Rows))] rfl (ys := [G.inquestref12_G.av r13, G.inquestref12_G.av r17]) (xs := [G.inquestref12_G.av r13, G.inquestref12_G.av r17]) rfl (Weak.refl _) rfl (by simp) (inquestref12_Union_own hT hr19) (.ag ⟨.sm, .view _ _ _, trivial⟩) ⟨rfl, rfl, .same (by simp [AV.flat]), trivial⟩) <| AR.keep [6, 25] rfl <| AR.op rfl (aop_store (e' := .agg [i64 r19.N, .view 2 0 (List.map u64 r19.Rows).length]) rfl rfl rfl rfl rfl rfl sz119 rfl dt rfl) <| AR.nil <| hK4 _ (AWP.weak (Weak.re (fr' := [(6, .ref 0 0 0)]) (H' := ⟨2, [(0, (2, [.agg [i64 r19.N, .view 1 0 (List.map u64 r19.Rows).length]])), (1, (1, List.map u64 r19.Rows))], []⟩) [(0, 0), (1, 2)] [] rfl rfl rfl (.cons rfl rfl (.one (.ag ⟨.sm, .view rfl, trivial⟩) rfl) dt (.cons rfl rfl (.same (by simp)) dt trivial)) ⟨⟨_, rfl, .ref rfl⟩, trivial⟩) ?_)
  refine awp_ret ?_
  obtain rfl := Option.some.inj h
  refine ⟨.inr rfl, .agg [i64 r19.N, .view 1 0 (List.map u64 r19.Rows).length], rfl, ?_⟩
  exact Weak.re [(0, 1)] [] rfl rfl rfl (.cons rfl rfl (.same (by simp)) dt trivial) ⟨⟨.agg [i64 r19.N, .view 1 0 (List.map u64 r19.Rows).length], rfl, .ag ⟨.sm, .view rfl, trivial⟩⟩, trivial⟩
 ·intro K5 hK5
  refine awp_seqK fun K6 hK6 => awp_reg rfl <| AR.op rfl (aop_move (.inl rfl) rfl) <| AR.op (r := bl (decide (level_1 = 1))) rfl (aop_eql rfl rfl rfl) <| AR.nil <| hK6 _ (AWP.weak (Weak.kt [6, 7, 8, 19] rfl) ?_)
  refine awp_cond rfl (fun hb20 => ?_) (fun hb20 => ?_)
  ·replace h := Sh.if_t h hb20
   refine awp_reg rfl <| AR.op (r := G.inquestref12_G.av r13) rfl (aop_load_pp rfl rfl sz119 rfl) <| AR.op (r := G.inquestref12_G.av r15) rfl (aop_load_ref rfl rfl rfl rfl sz119 rfl) ?_
   obtain ⟨r21, hr21, h⟩ := Sh.bind_some' h
   refine AR.op (r := G.inquestref12_G.av r21) rfl (aop_call1 rfl rfl (by simp) (inquestref12_Compose_ok hT hr21)) <| AR.keep [6, 7, 8, 22] rfl <| AR.op rfl (aop_store (e' := G.inquestref12_G.av r21) rfl rfl rfl rfl rfl rfl sz119 rfl dt rfl) <| AR.nil ?_
   exact hK5 r21 _ h (Weak.kt [6, 7, 8] rfl)
  ·replace h := Sh.if_f h hb20
   refine awp_skip ?_
   exact hK5 r15 _ h (Weak.kt [6, 7, 8] rfl)
theorem inquestref18_Full_ok {W0 : World} (hT : Tab W0) {h_0 : G.api_Hist} {level_1 : Int} {l_2 : List G.api_Choice} {r : G.inquestref12_G} (h : G.inquestref18_Full h_0 level_1 l_2 = some r) : Fun1 Try.prog W0 79 [G.api_Hist.av h_0, i64 level_1, .sl (List.map G.api_Choice.av l_2)] (G.inquestref12_G.av r) :=
 (inquestref18_Full_own hT h).give (Weak.e ⟨⟨_, rfl, .ag ⟨.sm, .lendAll rfl rfl (by simp), trivial⟩⟩, trivial⟩) (by simp)


theorem inquestref18_Good_ok0 {W0 : World} (hT : Tab W0) {h_0 : G.api_Hist} {level_1 : Int} {l_2 : List G.api_Choice} {r : Bool} (h : G.inquestref18_Good h_0 level_1 l_2 = some r) : Fun2 Try.prog W0 63 [G.api_Hist.av h_0, i64 level_1, .sl (List.map G.api_Choice.av l_2)] (bl r) .empty := by
 refine fun2_of_awp Try.func63 rfl (by kernel_rfl) Try.ntmps63 (by simp) ?_
 unfold G.inquestref18_Good at h
 show AWP _ _ _ _ ⟨[(0, G.api_Hist.av h_0), (1, i64 level_1), (2, .sl (List.map G.api_Choice.av l_2))], .empty⟩ _
 refine awp_seqK fun K1 hK1 => awp_reg rfl <| AR.op (r := .ref 0 0 0) rfl (aop_box 1 [G.api_Hist.av h_0] rfl rfl rfl (.inl ⟨rfl, rfl⟩)) <| AR.op rfl (aop_move (.inr rfl) rfl) <| AR.nil <| hK1 _ (AWP.weak (Weak.e (fr' := [(1, i64 level_1), (2, .sl (List.map G.api_Choice.av l_2)), (3, .pp [.sl (List.map G.api_Txn.av h_0.Txns)] 0)]) (H' := .empty) ⟨.k, ⟨.sl (List.map G.api_Choice.av l_2), rfl, .sm⟩, ⟨_, rfl, .frzA rfl rfl rfl rfl (by simp)⟩, trivial⟩) ?_)
 refine awp_seqK fun K2 hK2 => awp_reg rfl <| AR.op (r := G.api_Hist.av h_0) rfl (aop_load_pp rfl rfl sz24 rfl) <| AR.op rfl (aop_move (.inl rfl) rfl) <| AR.op rfl (aop_move (.inl rfl) rfl) <| AR.keep [8, 9, 10] rfl ?_
 obtain ⟨r5, hr5, h⟩ := Sh.bind_some' h
 refine AR.op (r := G.inquestref12_G.av r5) rfl (aop_call1 rfl rfl (by simp) (inquestref18_Full_ok hT hr5)) ?_
 obtain ⟨r6, hr6, h⟩ := Sh.bind_some' h
 refine AR.op (r := bl r6) rfl (aop_call1 rfl rfl (by simp) (inquestref13_Cyclic_ok hT hr6)) <| AR.op rfl (aop_move (.inr rfl) rfl) <| AR.nil <| hK2 _ (AWP.weak (Weak.kt [7] rfl) ?_)
 refine awp_seqK fun K3 hK3 => awp_reg rfl <| AR.op rfl (aop_move (.inl rfl) rfl) <| AR.op (r := bl (!r6)) rfl (aop_not rfl rfl) <| AR.op rfl (aop_move (.inr rfl) rfl) <| AR.nil <| hK3 _ (AWP.weak (Weak.kt [6] rfl) ?_)
 refine awp_ret ?_
 obtain rfl := Option.some.inj h
 refine ⟨.inr rfl, bl (!r6), rfl, ?_⟩
 exact Weak.e ⟨.k, trivial⟩
theorem inquestref18_Good_ok {W0 : World} (hT : Tab W0) {h_0 : G.api_Hist} {level_1 : Int} {l_2 : List G.api_Choice} {r : Bool} (h : G.inquestref18_Good h_0 level_1 l_2 = some r) : Fun1 Try.prog W0 63 [G.api_Hist.av h_0, i64 level_1, .sl (List.map G.api_Choice.av l_2)] (bl r) := Fun1.two (inquestref18_Good_ok0 hT h) (by simp)


end Wk
