/- That the functions of a package do what their plain functions say. -/
import Derived.Test.YtmnmbaehidfebaaSh
import Derived.Test.YtmnmbaehidfebaaWkFFacts
import Derived.Test.YtmnmbaehidfebaaWkFinquestref08
import Derived.Test.YtmnmbaehidfebaaWkFinquestref10
import Derived.Test.YtmnmbaehidfebaaWkFinquestref12
open Go Go.Av Go.Proofs
set_option linter.unusedVariables false
set_option maxHeartbeats 8000000
set_option maxRecDepth 20000
namespace Wk
theorem inquestref17_So_own {W0 : World} (hT : Tab W0) {h_0 : G.api_Hist} {r : G.inquestref12_G} (h : G.inquestref17_So h_0 = some r) : Fun2 Try.prog W0 99 [G.api_Hist.av h_0] (.agg [i64 r.N, .view 0 0 (List.map u64 r.Rows).length]) ⟨1, [(0, (1, List.map u64 r.Rows))], []⟩ := by
 refine fun2_of_awp Try.func99 rfl (by kernel_rfl) Try.ntmps99 (by simp) ?_
 unfold G.inquestref17_So at h
 show AWP _ _ _ _ ⟨[(0, G.api_Hist.av h_0)], .empty⟩ _
 refine awp_seqK fun K1 hK1 => awp_reg rfl <| AR.op (r := .ref 0 0 0) rfl (aop_box 1 [G.api_Hist.av h_0] rfl rfl rfl (.inl ⟨rfl, rfl⟩)) <| AR.op (r := .ref 1 0 0) rfl (aop_alloc 2 [.agg [i64 0, nilS]] rfl zr119 (by kernel_rfl) (.inl ⟨rfl, rfl⟩)) <| AR.nil <| hK1 _ (AWP.weak (Weak.re (fr' := [(1, .pp [.sl (List.map G.api_Txn.av h_0.Txns)] 0), (2, .ref 0 0 0)]) (H' := ⟨1, [(0, (2, [.agg [i64 0, nilS]]))], []⟩) [(0, 1)] [] rfl rfl rfl (.cons rfl rfl (.one (.sm) rfl) dt trivial) ⟨⟨_, rfl, .frzA rfl rfl rfl rfl (by simp)⟩, ⟨_, rfl, .ref rfl⟩, trivial⟩) ?_)
 refine awp_seqK fun K2 hK2 => awp_reg rfl <| AR.op rfl (aop_field_pp rfl rfl fd24_0 (by decide)) <| AR.op (r := .sl (List.map G.api_Txn.av h_0.Txns)) rfl (aop_load_pp rfl rfl sz22 rfl) <| AR.op rfl (t_len_sl G.api_Txn.av h_0.Txns rfl rfl el22) <| AR.keep [1, 2, 8] rfl ?_
 obtain ⟨r109, hr109, h⟩ := Sh.bind_some' h
 refine AR.op (r := .agg [i64 r109.N, .view 1 0 (List.map u64 r109.Rows).length]) rfl (aop_call2N (.agg [i64 r109.N, .view 1 0 (List.map u64 r109.Rows).length]) [(1, (1, List.map u64 r109.Rows))] rfl (ys := [i64 (Sh.len h_0.Txns)]) (xs := [i64 (Sh.len h_0.Txns)]) rfl (Weak.refl _) rfl (by simp) (inquestref12_New_own hT hr109) (.ag ⟨.sm, .view _ _ _, trivial⟩) ⟨rfl, rfl, .same (by simp [AV.flat]), trivial⟩) <| AR.op (r := .ref 2 0 0) rfl (aop_alloc 2 [.agg [i64 0, nilS]] rfl zr119 (by kernel_rfl) (.inl ⟨rfl, rfl⟩)) <| AR.op rfl (aop_store (e' := .agg [i64 r109.N, .view 1 0 (List.map u64 r109.Rows).length]) rfl rfl rfl rfl rfl rfl sz119 rfl dt rfl) <| AR.nil <| hK2 _ (AWP.weak (Weak.re (fr' := [(1, .pp [.sl (List.map G.api_Txn.av h_0.Txns)] 0), (2, .ref 0 0 0), (3, .ref 1 0 0)]) (H' := ⟨3, [(0, (2, [.agg [i64 0, nilS]])), (1, (2, [.agg [i64 r109.N, .view 2 0 (List.map u64 r109.Rows).length]])), (2, (1, List.map u64 r109.Rows))], []⟩) [(0, 0), (1, 2), (2, 1)] [] rfl rfl rfl (.cons rfl rfl (.one (.sm) rfl) dt (.cons rfl rfl (.one (.ag ⟨.sm, .view rfl, trivial⟩) rfl) dt (.cons rfl rfl (.same (by simp)) dt trivial))) ⟨.k, ⟨_, rfl, .ref rfl⟩, ⟨_, rfl, .ref rfl⟩, trivial⟩) ?_)
 refine awp_seqJ (fun (p : (List (BitVec 64))) => (⟨[(2, .ref 0 0 0), (3, .ref 1 0 0)], ⟨3, [(0, (2, [.agg [i64 0, nilS]])), (1, (2, [.agg [i64 r109.N, .view 2 0 (List.map u64 p).length]])), (2, (1, List.map u64 p))], []⟩⟩ : St)) (fun (p : (List (BitVec 64))) => G.inquestref17_So_j1 r109 p = some r) ?_ ?_
 ·rintro v216 h
  replace h : G.inquestref17_So_j1 r109 v216 = some r := h
  unfold G.inquestref17_So_j1 at h
  refine awp_seqK fun K3 hK3 => awp_reg rfl <| AR.op (r := .agg [i64 r109.N, .view 2 0 (List.map u64 v216).length]) rfl (aop_load_ref rfl rfl rfl rfl sz119 rfl) <| AR.op rfl (aop_store (e' := .agg [i64 r109.N, .view 2 0 (List.map u64 v216).length]) rfl rfl rfl rfl rfl rfl sz119 rfl dt rfl) <| AR.nil <| hK3 _ (AWP.weak (Weak.re (fr' := [(2, .ref 0 0 0)]) (H' := ⟨2, [(0, (2, [.agg [i64 r109.N, .view 1 0 (List.map u64 v216).length]])), (1, (1, List.map u64 v216))], []⟩) [(0, 0), (1, 2)] [] rfl rfl rfl (.cons rfl rfl (.one (.ag ⟨.sm, .view rfl, trivial⟩) rfl) dt (.cons rfl rfl (.same (by simp)) dt trivial)) ⟨⟨_, rfl, .ref rfl⟩, trivial⟩) ?_)
  refine awp_ret ?_
  obtain rfl := Option.some.inj h
  refine ⟨.inr rfl, .agg [i64 r109.N, .view 1 0 (List.map u64 v216).length], rfl, ?_⟩
  exact Weak.re [(0, 1)] [] rfl rfl rfl (.cons rfl rfl (.same (by simp)) dt trivial) ⟨⟨.agg [i64 r109.N, .view 1 0 (List.map u64 v216).length], rfl, .ag ⟨.sm, .view rfl, trivial⟩⟩, trivial⟩
 ·intro K4 hK4
  refine awp_seqK fun K5 hK5 => awp_reg rfl <| AR.op rfl (aop_move (.inr rfl) rfl) <| AR.nil <| hK5 _ ?_
  refine awp_block <| awp_iter (fun (p : (List (BitVec 64)) × Int) => G.inquestref17_So_b1 h_0 r109 p.1 p.2) (fun (p : (List (BitVec 64)) × Int) => (⟨[(1, .pp [.sl (List.map G.api_Txn.av h_0.Txns)] 0), (2, .ref 0 0 0), (3, .ref 1 0 0), (4, i64 p.2)], ⟨3, [(0, (2, [.agg [i64 0, nilS]])), (1, (2, [.agg [i64 r109.N, .view 2 0 (List.map u64 p.1).length]])), (2, (1, List.map u64 p.1))], []⟩⟩ : St)) h (Weak.kt [1, 2, 3, 4] rfl) ?_
  ·skip
   rintro ⟨gRows287, a288⟩ o1 h hx1
   replace h : G.inquestref17_So_b1 h_0 r109 gRows287 a288 = some o1 := h
   unfold G.inquestref17_So_b1 at h
   refine awp_seqK fun K6 hK6 => awp_seqK fun K7 hK7 => awp_reg rfl <| AR.op rfl (aop_move (.inl rfl) rfl) <| AR.op rfl (aop_field_ref rfl rfl rfl fd119_0 (by decide)) <| AR.op (r := i64 r109.N) rfl (aop_load_ref rfl rfl rfl rfl sz3 rfl) <| AR.keep [1, 2, 3, 4, 10, 12] rfl <| AR.op rfl (aop_lss rfl rfl rfl) ?_
   refine AR.nil <| hK7 _ (AWP.weak (Weak.kt [1, 2, 3, 4, 13] rfl) ?_)
   refine awp_cond rfl (fun hb289 => ?_) (fun hb289 => ?_)
   ·replace h := Sh.if_t h hb289
    refine awp_skip <| hK6 _ (AWP.weak (Weak.kt [1, 2, 3, 4] rfl) ?_)
    refine awp_seqJ (fun (p : (List (BitVec 64))) => (⟨[(1, .pp [.sl (List.map G.api_Txn.av h_0.Txns)] 0), (2, .ref 0 0 0), (3, .ref 1 0 0), (4, i64 a288)], ⟨3, [(0, (2, [.agg [i64 0, nilS]])), (1, (2, [.agg [i64 r109.N, .view 2 0 (List.map u64 p).length]])), (2, (1, List.map u64 p))], []⟩⟩ : St)) (fun (p : (List (BitVec 64))) => G.inquestref17_So_j2 a288 p = some o1) ?_ ?_
    ·rintro v324 h
     replace h : G.inquestref17_So_j2 a288 v324 = some o1 := h
     unfold G.inquestref17_So_j2 at h
     refine awp_reg rfl <| AR.op rfl (aop_move (.inl rfl) rfl) <| AR.op rfl (aop_add rfl rfl rfl rfl) <| AR.op rfl (aop_move (.inr rfl) rfl) <| AR.nil ?_
     replace h := Sh.next_eq h
     exact ⟨_, h, Weak.kt [1, 2, 3, 4] rfl⟩
    ·intro K8 hK8
     refine awp_block <| awp_seqK fun K9 hK9 => awp_reg rfl <| AR.op rfl (aop_move (.inl rfl) rfl) <| AR.op rfl (aop_add rfl rfl rfl rfl) <| AR.op rfl (aop_move (.inr rfl) rfl) <| AR.nil <| hK9 _ (AWP.weak (Weak.kt [1, 2, 3, 4, 5] rfl) ?_)
     refine awp_block <| awp_iter (fun (p : (List (BitVec 64)) × Int) => G.inquestref17_So_b2 h_0 r109 a288 p.1 p.2) (fun (p : (List (BitVec 64)) × Int) => (⟨[(1, .pp [.sl (List.map G.api_Txn.av h_0.Txns)] 0), (2, .ref 0 0 0), (3, .ref 1 0 0), (4, i64 a288), (5, i64 p.2)], ⟨3, [(0, (2, [.agg [i64 0, nilS]])), (1, (2, [.agg [i64 r109.N, .view 2 0 (List.map u64 p.1).length]])), (2, (1, List.map u64 p.1))], []⟩⟩ : St)) h (Weak.kt [1, 2, 3, 4, 5] rfl) ?_
     ·skip
      rintro ⟨gRows347, b348⟩ o2 h hx2
      replace h : G.inquestref17_So_b2 h_0 r109 a288 gRows347 b348 = some o2 := h
      unfold G.inquestref17_So_b2 at h
      refine awp_seqK fun K10 hK10 => awp_seqK fun K11 hK11 => awp_reg rfl <| AR.op rfl (aop_move (.inl rfl) rfl) <| AR.op rfl (aop_field_ref rfl rfl rfl fd119_0 (by decide)) <| AR.op (r := i64 r109.N) rfl (aop_load_ref rfl rfl rfl rfl sz3 rfl) <| AR.keep [1, 2, 3, 4, 5, 18, 20] rfl <| AR.op rfl (aop_lss rfl rfl rfl) ?_
      refine AR.nil <| hK11 _ (AWP.weak (Weak.kt [1, 2, 3, 4, 5, 21] rfl) ?_)
      refine awp_cond rfl (fun hb349 => ?_) (fun hb349 => ?_)
      ·replace h := Sh.if_t h hb349
       refine awp_skip <| hK10 _ (AWP.weak (Weak.kt [1, 2, 3, 4, 5] rfl) ?_)
       refine awp_seqJ (fun (p : (List (BitVec 64))) => (⟨[(1, .pp [.sl (List.map G.api_Txn.av h_0.Txns)] 0), (2, .ref 0 0 0), (3, .ref 1 0 0), (4, i64 a288), (5, i64 b348)], ⟨3, [(0, (2, [.agg [i64 0, nilS]])), (1, (2, [.agg [i64 r109.N, .view 2 0 (List.map u64 p).length]])), (2, (1, List.map u64 p))], []⟩⟩ : St)) (fun (p : (List (BitVec 64))) => G.inquestref17_So_j3 b348 p = some o2) ?_ ?_
       ·rintro gRows359 h
        replace h : G.inquestref17_So_j3 b348 gRows359 = some o2 := h
        unfold G.inquestref17_So_j3 at h
        refine awp_reg rfl <| AR.op rfl (aop_move (.inl rfl) rfl) <| AR.op rfl (aop_add rfl rfl rfl rfl) <| AR.op rfl (aop_move (.inr rfl) rfl) <| AR.nil ?_
        replace h := Sh.next_eq h
        exact ⟨_, h, Weak.kt [1, 2, 3, 4, 5] rfl⟩
       ·intro K12 hK12
        refine awp_block <| awp_seqK fun K13 hK13 => awp_any [(true, false), (true, false), (true, false), (true, false), (true, false), (true, false), (true, false), (true, false), (true, false), (true, false), (true, false), (true, false), (true, false)] (by kernel_rfl) (by kernel_rfl) rfl ?_
        refine ARH.dry rfl (fun _ => aop_field_pp rfl rfl fd24_0 (by decide)) <| ARH.dry (r := .sl (List.map G.api_Txn.av h_0.Txns)) rfl (fun _ => aop_load_pp rfl rfl sz22 rfl) <| ARH.dry rfl (fun _ => aop_move (.inl rfl) rfl) <| ARH.keep [1, 2, 3, 4, 5, 25, 26] rfl ?_
        obtain ⟨x364, hx364, h⟩ := Sh.bind_some' h
        obtain ⟨k365, hi365, hl365⟩ := Sh.idx_some hx364
        refine ARH.dry rfl (fun _ => t_index_sl G.api_Txn.av h_0.Txns hi365 hl365 rfl rfl rfl el22 rfl) <| ARH.dry rfl (fun _ => aop_field_pp rfl rfl fd73_0 (by decide)) <| ARH.dry (r := i64 x364.Session) rfl (fun _ => aop_load_pp rfl rfl sz3 rfl) <| ARH.keep [1, 2, 3, 4, 5, 29] rfl <| ARH.dry rfl (fun _ => aop_field_pp rfl rfl fd24_0 (by decide)) <| ARH.dry (r := .sl (List.map G.api_Txn.av h_0.Txns)) rfl (fun _ => aop_load_pp rfl rfl sz22 rfl) <| ARH.dry rfl (fun _ => aop_move (.inl rfl) rfl) <| ARH.keep [1, 2, 3, 4, 5, 29, 31, 32] rfl ?_
        obtain ⟨x366, hx366, h⟩ := Sh.bind_some' h
        obtain ⟨k367, hi367, hl367⟩ := Sh.idx_some hx366
        refine ARH.dry rfl (fun _ => t_index_sl G.api_Txn.av h_0.Txns hi367 hl367 rfl rfl rfl el22 rfl) <| ARH.dry rfl (fun _ => aop_field_pp rfl rfl fd73_0 (by decide)) <| ARH.dry (r := i64 x366.Session) rfl (fun _ => aop_load_pp rfl rfl sz3 rfl) <| ARH.keep [1, 2, 3, 4, 5, 29, 35] rfl <| ARH.dry (r := bl (decide (x364.Session = x366.Session))) rfl (fun _ => aop_eql rfl rfl rfl) <| ARH.nil <| hK13 _ (AWP.weak (Weak.kt [1, 2, 3, 4, 5, 36] rfl) ?_)
        refine awp_cond rfl (fun hb368 => ?_) (fun hb368 => ?_)
        ·replace h := Sh.if_t h hb368
         refine awp_any [(false, false), (false, false), (true, false), (false, false), (false, false), (true, false), (false, false), (false, false), (true, false), (true, false), (false, false), (false, true)] (by kernel_rfl) (by kernel_rfl) rfl ?_
         refine ARH.op rfl rfl (aop_field_ref rfl rfl rfl fd119_1 (by decide)) <| ARH.op (r := .view 2 0 (List.map u64 gRows347).length) rfl rfl (aop_load_ref rfl rfl rfl rfl sz117 rfl) <| ARH.dry rfl (fun _ => aop_move (.inl rfl) rfl) <| ARH.keep [1, 2, 3, 4, 5, 38, 39] rfl <| ARH.op rfl rfl (aop_field_ref rfl rfl rfl fd119_1 (by decide)) <| ARH.op (r := .view 2 0 (List.map u64 gRows347).length) rfl rfl (aop_load_ref rfl rfl rfl rfl sz117 rfl) <| ARH.dry rfl (fun _ => aop_move (.inl rfl) rfl) <| ARH.keep [1, 2, 3, 4, 5, 38, 39, 41, 42] rfl ?_
         obtain ⟨x369, hx369, h⟩ := Sh.bind_some' h
         obtain ⟨k370, hi370, hl370⟩ := Sh.idx_some hx369
         refine ARH.op (r := .ref 2 k370 0) rfl rfl (t_index_view u64 gRows347 hi370 hl370 rfl rfl rfl rfl rfl el117 rfl) <| ARH.op (r := u64 x369) rfl rfl (t_load_el u64 gRows347 hl370 rfl rfl rfl sz135 rfl) <| ARH.dry rfl (fun _ => aop_move (.inl rfl) rfl) <| ARH.keep [1, 2, 3, 4, 5, 38, 39, 44, 45] rfl ?_
         obtain ⟨r371, hr371, h⟩ := Sh.bind_some' h
         refine ARH.dry (r := u64 r371) rfl (fun _ => aop_call1 rfl rfl (by simp) (inquestref10_With_ok hT hr371)) ?_
         obtain ⟨x372, hx372, h⟩ := Sh.bind_some' h
         obtain ⟨k373, hi373, hl373⟩ := Sh.idx_some hx372
         refine ARH.op (r := .ref 2 k373 0) rfl rfl (t_index_view u64 gRows347 hi373 hl373 rfl rfl rfl rfl rfl el117 rfl) <| ARH.loud rfl rfl (t_store_el u64 gRows347 r371 hi373 hl373 rfl rfl rfl rfl rfl sz135 rfl dt rfl) <| ARH.nil ?_
         exact hK12 (Sh.set gRows347 a288 r371) _ h (Weak.re [(0, 0), (1, 1), (2, 2)] [] rfl rfl rfl (.cons rfl rfl (.one (.sm) rfl) dt (.cons rfl rfl (.one (.ag ⟨.sm, .viewL rfl (by simp []), trivial⟩) rfl) dt (.cons rfl rfl (.same (by simp)) dt trivial))) ⟨.k, ⟨_, rfl, .ref rfl⟩, ⟨_, rfl, .ref rfl⟩, .k, .k, trivial⟩)
        ·replace h := Sh.if_f h hb368
         refine awp_skip ?_
         exact hK12 gRows347 _ h (Weak.kt [1, 2, 3, 4, 5] rfl)
      ·replace h := Sh.if_f h hb349
       refine awp_exit ?_
       replace h := Sh.exit_eq h hx2
       exact hK8 gRows347 _ h (Weak.kt [1, 2, 3, 4] rfl)
   ·replace h := Sh.if_f h hb289
    refine awp_exit ?_
    replace h := Sh.exit_eq h hx1
    exact hK4 gRows287 _ h (Weak.kt [2, 3] rfl)
theorem inquestref17_So_ok {W0 : World} (hT : Tab W0) {h_0 : G.api_Hist} {r : G.inquestref12_G} (h : G.inquestref17_So h_0 = some r) : Fun1 Try.prog W0 99 [G.api_Hist.av h_0] (G.inquestref12_G.av r) :=
 (inquestref17_So_own hT h).give (Weak.e ⟨⟨_, rfl, .ag ⟨.sm, .lendAll rfl rfl (by simp), trivial⟩⟩, trivial⟩) (by simp)


theorem inquestref17_Wr_own {W0 : World} (hT : Tab W0) {h_0 : G.api_Hist} {r : G.inquestref12_G} (h : G.inquestref17_Wr h_0 = some r) : Fun2 Try.prog W0 100 [G.api_Hist.av h_0] (.agg [i64 r.N, .view 0 0 (List.map u64 r.Rows).length]) ⟨1, [(0, (1, List.map u64 r.Rows))], []⟩ := by
 refine fun2_of_awp Try.func100 rfl (by kernel_rfl) Try.ntmps100 (by simp) ?_
 unfold G.inquestref17_Wr at h
 show AWP _ _ _ _ ⟨[(0, G.api_Hist.av h_0)], .empty⟩ _
 refine awp_seqK fun K1 hK1 => awp_reg rfl <| AR.op (r := .ref 0 0 0) rfl (aop_box 1 [G.api_Hist.av h_0] rfl rfl rfl (.inl ⟨rfl, rfl⟩)) <| AR.op (r := .ref 1 0 0) rfl (aop_alloc 2 [.agg [i64 0, nilS]] rfl zr119 (by kernel_rfl) (.inl ⟨rfl, rfl⟩)) <| AR.nil <| hK1 _ (AWP.weak (Weak.re (fr' := [(1, .pp [.sl (List.map G.api_Txn.av h_0.Txns)] 0), (2, .ref 0 0 0)]) (H' := ⟨1, [(0, (2, [.agg [i64 0, nilS]]))], []⟩) [(0, 1)] [] rfl rfl rfl (.cons rfl rfl (.one (.sm) rfl) dt trivial) ⟨⟨_, rfl, .frzA rfl rfl rfl rfl (by simp)⟩, ⟨_, rfl, .ref rfl⟩, trivial⟩) ?_)
 refine awp_seqK fun K2 hK2 => awp_reg rfl <| AR.op rfl (aop_field_pp rfl rfl fd24_0 (by decide)) <| AR.op (r := .sl (List.map G.api_Txn.av h_0.Txns)) rfl (aop_load_pp rfl rfl sz22 rfl) <| AR.op rfl (t_len_sl G.api_Txn.av h_0.Txns rfl rfl el22) <| AR.keep [1, 2, 9] rfl ?_
 obtain ⟨r133, hr133, h⟩ := Sh.bind_some' h
 refine AR.op (r := .agg [i64 r133.N, .view 1 0 (List.map u64 r133.Rows).length]) rfl (aop_call2N (.agg [i64 r133.N, .view 1 0 (List.map u64 r133.Rows).length]) [(1, (1, List.map u64 r133.Rows))] rfl (ys := [i64 (Sh.len h_0.Txns)]) (xs := [i64 (Sh.len h_0.Txns)]) rfl (Weak.refl _) rfl (by simp) (inquestref12_New_own hT hr133) (.ag ⟨.sm, .view _ _ _, trivial⟩) ⟨rfl, rfl, .same (by simp [AV.flat]), trivial⟩) <| AR.op (r := .ref 2 0 0) rfl (aop_alloc 2 [.agg [i64 0, nilS]] rfl zr119 (by kernel_rfl) (.inl ⟨rfl, rfl⟩)) <| AR.op rfl (aop_store (e' := .agg [i64 r133.N, .view 1 0 (List.map u64 r133.Rows).length]) rfl rfl rfl rfl rfl rfl sz119 rfl dt rfl) <| AR.nil <| hK2 _ (AWP.weak (Weak.re (fr' := [(1, .pp [.sl (List.map G.api_Txn.av h_0.Txns)] 0), (2, .ref 0 0 0), (3, .ref 1 0 0)]) (H' := ⟨3, [(0, (2, [.agg [i64 0, nilS]])), (1, (2, [.agg [i64 r133.N, .view 2 0 (List.map u64 r133.Rows).length]])), (2, (1, List.map u64 r133.Rows))], []⟩) [(0, 0), (1, 2), (2, 1)] [] rfl rfl rfl (.cons rfl rfl (.one (.sm) rfl) dt (.cons rfl rfl (.one (.ag ⟨.sm, .view rfl, trivial⟩) rfl) dt (.cons rfl rfl (.same (by simp)) dt trivial))) ⟨.k, ⟨_, rfl, .ref rfl⟩, ⟨_, rfl, .ref rfl⟩, trivial⟩) ?_)
 refine awp_seqJ (fun (p : (List (BitVec 64))) => (⟨[(2, .ref 0 0 0), (3, .ref 1 0 0)], ⟨3, [(0, (2, [.agg [i64 0, nilS]])), (1, (2, [.agg [i64 r133.N, .view 2 0 (List.map u64 p).length]])), (2, (1, List.map u64 p))], []⟩⟩ : St)) (fun (p : (List (BitVec 64))) => G.inquestref17_Wr_j1 r133 p = some r) ?_ ?_
 ·rintro v264 h
  replace h : G.inquestref17_Wr_j1 r133 v264 = some r := h
  unfold G.inquestref17_Wr_j1 at h
  refine awp_seqK fun K3 hK3 => awp_reg rfl <| AR.op (r := .agg [i64 r133.N, .view 2 0 (List.map u64 v264).length]) rfl (aop_load_ref rfl rfl rfl rfl sz119 rfl) <| AR.op rfl (aop_store (e' := .agg [i64 r133.N, .view 2 0 (List.map u64 v264).length]) rfl rfl rfl rfl rfl rfl sz119 rfl dt rfl) <| AR.nil <| hK3 _ (AWP.weak (Weak.re (fr' := [(2, .ref 0 0 0)]) (H' := ⟨2, [(0, (2, [.agg [i64 r133.N, .view 1 0 (List.map u64 v264).length]])), (1, (1, List.map u64 v264))], []⟩) [(0, 0), (1, 2)] [] rfl rfl rfl (.cons rfl rfl (.one (.ag ⟨.sm, .view rfl, trivial⟩) rfl) dt (.cons rfl rfl (.same (by simp)) dt trivial)) ⟨⟨_, rfl, .ref rfl⟩, trivial⟩) ?_)
  refine awp_ret ?_
  obtain rfl := Option.some.inj h
  refine ⟨.inr rfl, .agg [i64 r133.N, .view 1 0 (List.map u64 v264).length], rfl, ?_⟩
  exact Weak.re [(0, 1)] [] rfl rfl rfl (.cons rfl rfl (.same (by simp)) dt trivial) ⟨⟨.agg [i64 r133.N, .view 1 0 (List.map u64 v264).length], rfl, .ag ⟨.sm, .view rfl, trivial⟩⟩, trivial⟩
 ·intro K4 hK4
  refine awp_seqK fun K5 hK5 => awp_reg rfl <| AR.op rfl (aop_move (.inr rfl) rfl) <| AR.nil <| hK5 _ ?_
  refine awp_block <| awp_iter (fun (p : (List (BitVec 64)) × Int) => G.inquestref17_Wr_b1 h_0 r133 p.1 p.2) (fun (p : (List (BitVec 64)) × Int) => (⟨[(1, .pp [.sl (List.map G.api_Txn.av h_0.Txns)] 0), (2, .ref 0 0 0), (3, .ref 1 0 0), (4, i64 p.2)], ⟨3, [(0, (2, [.agg [i64 0, nilS]])), (1, (2, [.agg [i64 r133.N, .view 2 0 (List.map u64 p.1).length]])), (2, (1, List.map u64 p.1))], []⟩⟩ : St)) h (Weak.kt [1, 2, 3, 4] rfl) ?_
  ·skip
   rintro ⟨gRows351, t352⟩ o1 h hx1
   replace h : G.inquestref17_Wr_b1 h_0 r133 gRows351 t352 = some o1 := h
   unfold G.inquestref17_Wr_b1 at h
   refine awp_seqK fun K6 hK6 => awp_seqK fun K7 hK7 => awp_reg rfl <| AR.op rfl (aop_move (.inl rfl) rfl) <| AR.op rfl (aop_field_ref rfl rfl rfl fd119_0 (by decide)) <| AR.op (r := i64 r133.N) rfl (aop_load_ref rfl rfl rfl rfl sz3 rfl) <| AR.keep [1, 2, 3, 4, 11, 13] rfl <| AR.op rfl (aop_lss rfl rfl rfl) ?_
   refine AR.nil <| hK7 _ (AWP.weak (Weak.kt [1, 2, 3, 4, 14] rfl) ?_)
   refine awp_cond rfl (fun hb353 => ?_) (fun hb353 => ?_)
   ·replace h := Sh.if_t h hb353
    refine awp_skip <| hK6 _ (AWP.weak (Weak.kt [1, 2, 3, 4] rfl) ?_)
    refine awp_seqJ (fun (p : (List (BitVec 64))) => (⟨[(1, .pp [.sl (List.map G.api_Txn.av h_0.Txns)] 0), (2, .ref 0 0 0), (3, .ref 1 0 0), (4, i64 t352)], ⟨3, [(0, (2, [.agg [i64 0, nilS]])), (1, (2, [.agg [i64 r133.N, .view 2 0 (List.map u64 p).length]])), (2, (1, List.map u64 p))], []⟩⟩ : St)) (fun (p : (List (BitVec 64))) => G.inquestref17_Wr_j2 t352 p = some o1) ?_ ?_
    ·rintro v396 h
     replace h : G.inquestref17_Wr_j2 t352 v396 = some o1 := h
     unfold G.inquestref17_Wr_j2 at h
     refine awp_reg rfl <| AR.op rfl (aop_move (.inl rfl) rfl) <| AR.op rfl (aop_add rfl rfl rfl rfl) <| AR.op rfl (aop_move (.inr rfl) rfl) <| AR.nil ?_
     replace h := Sh.next_eq h
     exact ⟨_, h, Weak.kt [1, 2, 3, 4] rfl⟩
    ·intro K8 hK8
     refine awp_block <| awp_seqK fun K9 hK9 => awp_reg rfl <| AR.op rfl (aop_field_pp rfl rfl fd24_0 (by decide)) <| AR.op (r := .sl (List.map G.api_Txn.av h_0.Txns)) rfl (aop_load_pp rfl rfl sz22 rfl) <| AR.op rfl (aop_move (.inl rfl) rfl) <| AR.keep [1, 2, 3, 4, 18, 19] rfl ?_
     obtain ⟨x399, hx399, h⟩ := Sh.bind_some' h
     obtain ⟨k400, hi400, hl400⟩ := Sh.idx_some hx399
     refine AR.op rfl (t_index_sl G.api_Txn.av h_0.Txns hi400 hl400 rfl rfl rfl el22 rfl) <| AR.op rfl (aop_field_pp rfl rfl fd73_2 (by decide)) <| AR.op (r := .sl (List.map G.api_Take.av x399.Reads)) rfl (aop_load_pp rfl rfl sz71 rfl) <| AR.keep [1, 2, 3, 4, 22] rfl <| AR.op rfl (aop_move (.inr rfl) rfl) <| AR.nil <| hK9 _ (AWP.weak (Weak.kt [1, 2, 3, 4, 5] rfl) ?_)
     refine awp_seqK fun K10 hK10 => awp_reg rfl <| AR.op rfl (aop_move (.inr rfl) rfl) <| AR.nil <| hK10 _ ?_
     refine awp_block <| awp_iter (fun (p : (List (BitVec 64)) × Int) => G.inquestref17_Wr_b2 t352 x399 p.1 p.2) (fun (p : (List (BitVec 64)) × Int) => (⟨[(1, .pp [.sl (List.map G.api_Txn.av h_0.Txns)] 0), (2, .ref 0 0 0), (3, .ref 1 0 0), (4, i64 t352), (5, .sl (List.map G.api_Take.av x399.Reads)), (6, i64 p.2)], ⟨3, [(0, (2, [.agg [i64 0, nilS]])), (1, (2, [.agg [i64 r133.N, .view 2 0 (List.map u64 p.1).length]])), (2, (1, List.map u64 p.1))], []⟩⟩ : St)) h (Weak.kt [1, 2, 3, 4, 5, 6] rfl) ?_
     ·skip
      rintro ⟨gRows427, i428⟩ o2 h hx2
      replace h : G.inquestref17_Wr_b2 t352 x399 gRows427 i428 = some o2 := h
      unfold G.inquestref17_Wr_b2 at h
      refine awp_seqK fun K11 hK11 => awp_seqK fun K12 hK12 => awp_reg rfl <| AR.op rfl (aop_move (.inl rfl) rfl) <| AR.op rfl (aop_move (.inl rfl) rfl) <| AR.op rfl (t_len_sl G.api_Take.av x399.Reads rfl rfl el71) <| AR.keep [1, 2, 3, 4, 5, 6, 23, 25] rfl <| AR.op rfl (aop_lss rfl rfl rfl) ?_
      refine AR.nil <| hK12 _ (AWP.weak (Weak.kt [1, 2, 3, 4, 5, 6, 26] rfl) ?_)
      refine awp_cond rfl (fun hb429 => ?_) (fun hb429 => ?_)
      ·replace h := Sh.if_t h hb429
       refine awp_skip <| hK11 _ (AWP.weak (Weak.kt [1, 2, 3, 4, 5, 6] rfl) ?_)
       refine awp_seqJ (fun (p : (List (BitVec 64))) => (⟨[(1, .pp [.sl (List.map G.api_Txn.av h_0.Txns)] 0), (2, .ref 0 0 0), (3, .ref 1 0 0), (4, i64 t352), (5, .sl (List.map G.api_Take.av x399.Reads)), (6, i64 i428)], ⟨3, [(0, (2, [.agg [i64 0, nilS]])), (1, (2, [.agg [i64 r133.N, .view 2 0 (List.map u64 p).length]])), (2, (1, List.map u64 p))], []⟩⟩ : St)) (fun (p : (List (BitVec 64))) => G.inquestref17_Wr_j3 i428 p = some o2) ?_ ?_
       ·rintro gRows441 h
        replace h : G.inquestref17_Wr_j3 i428 gRows441 = some o2 := h
        unfold G.inquestref17_Wr_j3 at h
        refine awp_reg rfl <| AR.op rfl (aop_move (.inl rfl) rfl) <| AR.op rfl (aop_add rfl rfl rfl rfl) <| AR.op rfl (aop_move (.inr rfl) rfl) <| AR.nil ?_
        replace h := Sh.next_eq h
        exact ⟨_, h, Weak.kt [1, 2, 3, 4, 5, 6] rfl⟩
       ·intro K13 hK13
        refine awp_block <| awp_seqK fun K14 hK14 => awp_reg rfl <| AR.op rfl (aop_move (.inl rfl) rfl) <| AR.op rfl (aop_move (.inl rfl) rfl) ?_
        obtain ⟨x444, hx444, h⟩ := Sh.bind_some' h
        obtain ⟨k445, hi445, hl445⟩ := Sh.idx_some hx444
        refine AR.op rfl (t_index_sl G.api_Take.av x399.Reads hi445 hl445 rfl rfl rfl el71 rfl) <| AR.keep [1, 2, 3, 4, 5, 6, 31] rfl <| AR.op rfl (aop_field_pp rfl rfl fd70_1 (by decide)) <| AR.op (r := i64 x444.From) rfl (aop_load_pp rfl rfl sz3 rfl) <| AR.op rfl (aop_geq rfl rfl rfl) <| AR.nil <| hK14 _ (AWP.weak (Weak.kt [1, 2, 3, 4, 5, 6, 34] rfl) ?_)
        refine awp_cond rfl (fun hb446 => ?_) (fun hb446 => ?_)
        ·replace h := Sh.if_t h hb446
         refine awp_any [(false, false), (false, false), (true, false), (true, false), (true, false), (true, false), (true, false), (false, false), (false, false), (true, false), (true, false), (true, false), (true, false), (true, false), (false, false), (false, false), (true, false), (true, false), (false, false), (false, true)] (by kernel_rfl) (by kernel_rfl) rfl ?_
         refine ARH.op rfl rfl (aop_field_ref rfl rfl rfl fd119_1 (by decide)) <| ARH.op (r := .view 2 0 (List.map u64 gRows427).length) rfl rfl (aop_load_ref rfl rfl rfl rfl sz117 rfl) <| ARH.dry rfl (fun _ => aop_move (.inl rfl) rfl) <| ARH.keep [1, 2, 3, 4, 5, 6, 36, 37] rfl <| ARH.dry rfl (fun _ => aop_move (.inl rfl) rfl) ?_
         obtain ⟨x447, hx447, h⟩ := Sh.bind_some' h
         obtain ⟨k448, hi448, hl448⟩ := Sh.idx_some hx447
         refine ARH.dry rfl (fun _ => t_index_sl G.api_Take.av x399.Reads hi448 hl448 rfl rfl rfl el71 rfl) <| ARH.dry rfl (fun _ => aop_field_pp rfl rfl fd70_1 (by decide)) <| ARH.keep [1, 2, 3, 4, 5, 6, 36, 40] rfl <| ARH.dry (r := i64 x447.From) rfl (fun _ => aop_load_pp rfl rfl sz3 rfl) <| ARH.op rfl rfl (aop_field_ref rfl rfl rfl fd119_1 (by decide)) <| ARH.op (r := .view 2 0 (List.map u64 gRows427).length) rfl rfl (aop_load_ref rfl rfl rfl rfl sz117 rfl) <| ARH.keep [1, 2, 3, 4, 5, 6, 36, 41, 43] rfl <| ARH.dry rfl (fun _ => aop_move (.inl rfl) rfl) ?_
         refine ARH.dry rfl (fun _ => aop_move (.inl rfl) rfl) ?_
         obtain ⟨x449, hx449, h⟩ := Sh.bind_some' h
         obtain ⟨k450, hi450, hl450⟩ := Sh.idx_some hx449
         refine ARH.dry rfl (fun _ => t_index_sl G.api_Take.av x399.Reads hi450 hl450 rfl rfl rfl el71 rfl) <| ARH.keep [1, 2, 3, 4, 5, 6, 36, 41, 43, 46] rfl <| ARH.dry rfl (fun _ => aop_field_pp rfl rfl fd70_1 (by decide)) <| ARH.dry (r := i64 x449.From) rfl (fun _ => aop_load_pp rfl rfl sz3 rfl) ?_
         obtain ⟨x451, hx451, h⟩ := Sh.bind_some' h
         obtain ⟨k452, hi452, hl452⟩ := Sh.idx_some hx451
         refine ARH.op (r := .ref 2 k452 0) rfl rfl (t_index_view u64 gRows427 hi452 hl452 rfl rfl rfl rfl rfl el117 rfl) <| ARH.keep [1, 2, 3, 4, 5, 6, 36, 41, 49] rfl <| ARH.op (r := u64 x451) rfl rfl (t_load_el u64 gRows427 hl452 rfl rfl rfl sz135 rfl) <| ARH.dry rfl (fun _ => aop_move (.inl rfl) rfl) ?_
         obtain ⟨r453, hr453, h⟩ := Sh.bind_some' h
         refine ARH.dry (r := u64 r453) rfl (fun _ => aop_call1 rfl rfl (by simp) (inquestref10_With_ok hT hr453)) <| ARH.keep [1, 2, 3, 4, 5, 6, 36, 41, 52] rfl ?_
         obtain ⟨x454, hx454, h⟩ := Sh.bind_some' h
         obtain ⟨k455, hi455, hl455⟩ := Sh.idx_some hx454
         refine ARH.op (r := .ref 2 k455 0) rfl rfl (t_index_view u64 gRows427 hi455 hl455 rfl rfl rfl rfl rfl el117 rfl) <| ARH.loud rfl rfl (t_store_el u64 gRows427 r453 hi455 hl455 rfl rfl rfl rfl rfl sz135 rfl dt rfl) <| ARH.nil ?_
         exact hK13 (Sh.set gRows427 x447.From r453) _ h (Weak.re [(0, 0), (1, 1), (2, 2)] [] rfl rfl rfl (.cons rfl rfl (.one (.sm) rfl) dt (.cons rfl rfl (.one (.ag ⟨.sm, .viewL rfl (by simp []), trivial⟩) rfl) dt (.cons rfl rfl (.same (by simp)) dt trivial))) ⟨.k, ⟨_, rfl, .ref rfl⟩, ⟨_, rfl, .ref rfl⟩, .k, ⟨.sl (List.map G.api_Take.av x399.Reads), rfl, .sm⟩, .k, trivial⟩)
        ·replace h := Sh.if_f h hb446
         refine awp_skip ?_
         exact hK13 gRows427 _ h (Weak.kt [1, 2, 3, 4, 5, 6] rfl)
      ·replace h := Sh.if_f h hb429
       refine awp_exit ?_
       replace h := Sh.exit_eq h hx2
       exact hK8 gRows427 _ h (Weak.kt [1, 2, 3, 4] rfl)
   ·replace h := Sh.if_f h hb353
    refine awp_exit ?_
    replace h := Sh.exit_eq h hx1
    exact hK4 gRows351 _ h (Weak.kt [2, 3] rfl)
theorem inquestref17_Wr_ok {W0 : World} (hT : Tab W0) {h_0 : G.api_Hist} {r : G.inquestref12_G} (h : G.inquestref17_Wr h_0 = some r) : Fun1 Try.prog W0 100 [G.api_Hist.av h_0] (G.inquestref12_G.av r) :=
 (inquestref17_Wr_own hT h).give (Weak.e ⟨⟨_, rfl, .ag ⟨.sm, .lendAll rfl rfl (by simp), trivial⟩⟩, trivial⟩) (by simp)


theorem inquestref17_Past_ok0 {W0 : World} (hT : Tab W0) {h_0 : G.api_Hist} {r : G.inquestref12_G} (h : G.inquestref17_Past h_0 = some r) : Fun2 Try.prog W0 90 [G.api_Hist.av h_0] (G.inquestref12_G.av r) .empty := by
 refine fun2_of_awp Try.func90 rfl (by kernel_rfl) Try.ntmps90 (by simp) ?_
 unfold G.inquestref17_Past at h
 show AWP _ _ _ _ ⟨[(0, G.api_Hist.av h_0)], .empty⟩ _
 refine awp_seqK fun K1 hK1 => awp_reg rfl <| AR.op (r := .ref 0 0 0) rfl (aop_box 1 [G.api_Hist.av h_0] rfl rfl rfl (.inl ⟨rfl, rfl⟩)) <| AR.op (r := .ref 1 0 0) rfl (aop_alloc 2 [.agg [i64 0, nilS]] rfl zr119 (by kernel_rfl) (.inl ⟨rfl, rfl⟩)) <| AR.nil <| hK1 _ (AWP.weak (Weak.re (fr' := [(1, .pp [.sl (List.map G.api_Txn.av h_0.Txns)] 0), (2, .ref 0 0 0)]) (H' := ⟨1, [(0, (2, [.agg [i64 0, nilS]]))], []⟩) [(0, 1)] [] rfl rfl rfl (.cons rfl rfl (.one (.sm) rfl) dt trivial) ⟨⟨_, rfl, .frzA rfl rfl rfl rfl (by simp)⟩, ⟨_, rfl, .ref rfl⟩, trivial⟩) ?_)
 refine awp_seqK fun K2 hK2 => awp_any [(true, false), (true, false), (true, false), (true, false), (true, false), (false, true), (false, true)] (by kernel_rfl) (by kernel_rfl) rfl ?_
 refine ARH.dry (r := G.api_Hist.av h_0) rfl (fun _ => aop_load_pp rfl rfl sz24 rfl) ?_
 obtain ⟨r7, hr7, h⟩ := Sh.bind_some' h
 refine ARH.dry (r := G.inquestref12_G.av r7) rfl (fun _ => aop_call1 rfl rfl (by simp) (inquestref17_So_ok hT hr7)) <| ARH.dry (r := G.api_Hist.av h_0) rfl (fun _ => aop_load_pp rfl rfl sz24 rfl) <| ARH.keep [2, 5, 6] rfl ?_
 obtain ⟨r8, hr8, h⟩ := Sh.bind_some' h
 refine ARH.dry (r := G.inquestref12_G.av r8) rfl (fun _ => aop_call1 rfl rfl (by simp) (inquestref17_Wr_ok hT hr8)) ?_
 obtain ⟨r9, hr9, h⟩ := Sh.bind_some' h
 refine ARH.dry (r := G.inquestref12_G.av r9) rfl (fun _ => aop_call1 rfl rfl (by simp) (inquestref12_Union_ok hT hr9)) <| ARH.loud (r := .ref 1 0 0) rfl rfl (aop_alloc 2 [.agg [i64 0, nilS]] rfl zr119 (by kernel_rfl) (.inl ⟨rfl, rfl⟩)) <| ARH.keep [2, 8, 3] rfl <| ARH.loud rfl rfl (aop_store (e' := G.inquestref12_G.av r9) rfl rfl rfl rfl rfl rfl sz119 rfl dt rfl) <| ARH.nil <| hK2 _ (AWP.weak (Weak.re (fr' := [(2, .ref 0 0 0), (3, .pp [i64 r9.N, .sl (List.map u64 r9.Rows)] 0)]) (H' := ⟨1, [(0, (2, [.agg [i64 0, nilS]]))], []⟩) [(0, 0)] [] rfl rfl rfl (.cons rfl rfl (.one (.sm) rfl) dt trivial) ⟨⟨_, rfl, .ref rfl⟩, ⟨_, rfl, .frzA rfl rfl rfl rfl (by simp)⟩, trivial⟩) ?_)
 refine awp_seqK fun K3 hK3 => awp_reg rfl <| AR.op (r := G.inquestref12_G.av r9) rfl (aop_load_pp rfl rfl sz119 rfl) <| AR.op rfl (aop_store (e' := G.inquestref12_G.av r9) rfl rfl rfl rfl rfl rfl sz119 rfl dt rfl) <| AR.nil <| hK3 _ (AWP.weak (Weak.kt [2] rfl) ?_)
 refine awp_ret ?_
 obtain rfl := Option.some.inj h
 refine ⟨.inr rfl, G.inquestref12_G.av r9, rfl, ?_⟩
 exact Weak.e ⟨⟨G.inquestref12_G.av r9, rfl, .sm⟩, trivial⟩
theorem inquestref17_Past_ok {W0 : World} (hT : Tab W0) {h_0 : G.api_Hist} {r : G.inquestref12_G} (h : G.inquestref17_Past h_0 = some r) : Fun1 Try.prog W0 90 [G.api_Hist.av h_0] (G.inquestref12_G.av r) := Fun1.two (inquestref17_Past_ok0 hT h) (by simp)


theorem inquestref17_Init_own {W0 : World} (hT : Tab W0) {h_0 : G.api_Hist} {r : G.inquestref12_G} (h : G.inquestref17_Init h_0 = some r) : Fun2 Try.prog W0 101 [G.api_Hist.av h_0] (.agg [i64 r.N, .view 0 0 (List.map u64 r.Rows).length]) ⟨1, [(0, (1, List.map u64 r.Rows))], []⟩ := by
 refine fun2_of_awp Try.func101 rfl (by kernel_rfl) Try.ntmps101 (by simp) ?_
 unfold G.inquestref17_Init at h
 show AWP _ _ _ _ ⟨[(0, G.api_Hist.av h_0)], .empty⟩ _
 refine awp_seqK fun K1 hK1 => awp_reg rfl <| AR.op (r := .ref 0 0 0) rfl (aop_box 1 [G.api_Hist.av h_0] rfl rfl rfl (.inl ⟨rfl, rfl⟩)) <| AR.op (r := .ref 1 0 0) rfl (aop_alloc 2 [.agg [i64 0, nilS]] rfl zr119 (by kernel_rfl) (.inl ⟨rfl, rfl⟩)) <| AR.nil <| hK1 _ (AWP.weak (Weak.re (fr' := [(1, .pp [.sl (List.map G.api_Txn.av h_0.Txns)] 0), (2, .ref 0 0 0)]) (H' := ⟨1, [(0, (2, [.agg [i64 0, nilS]]))], []⟩) [(0, 1)] [] rfl rfl rfl (.cons rfl rfl (.one (.sm) rfl) dt trivial) ⟨⟨_, rfl, .frzA rfl rfl rfl rfl (by simp)⟩, ⟨_, rfl, .ref rfl⟩, trivial⟩) ?_)
 refine awp_seqK fun K2 hK2 => awp_reg rfl <| AR.op rfl (aop_field_pp rfl rfl fd24_0 (by decide)) <| AR.op (r := .sl (List.map G.api_Txn.av h_0.Txns)) rfl (aop_load_pp rfl rfl sz22 rfl) <| AR.op rfl (t_len_sl G.api_Txn.av h_0.Txns rfl rfl el22) <| AR.keep [1, 2, 11] rfl ?_
 obtain ⟨r523, hr523, h⟩ := Sh.bind_some' h
 refine AR.op (r := .agg [i64 r523.N, .view 1 0 (List.map u64 r523.Rows).length]) rfl (aop_call2N (.agg [i64 r523.N, .view 1 0 (List.map u64 r523.Rows).length]) [(1, (1, List.map u64 r523.Rows))] rfl (ys := [i64 (Sh.len h_0.Txns)]) (xs := [i64 (Sh.len h_0.Txns)]) rfl (Weak.refl _) rfl (by simp) (inquestref12_New_own hT hr523) (.ag ⟨.sm, .view _ _ _, trivial⟩) ⟨rfl, rfl, .same (by simp [AV.flat]), trivial⟩) <| AR.op (r := .ref 2 0 0) rfl (aop_alloc 2 [.agg [i64 0, nilS]] rfl zr119 (by kernel_rfl) (.inl ⟨rfl, rfl⟩)) <| AR.op rfl (aop_store (e' := .agg [i64 r523.N, .view 1 0 (List.map u64 r523.Rows).length]) rfl rfl rfl rfl rfl rfl sz119 rfl dt rfl) <| AR.nil <| hK2 _ (AWP.weak (Weak.re (fr' := [(1, .pp [.sl (List.map G.api_Txn.av h_0.Txns)] 0), (2, .ref 0 0 0), (3, .ref 1 0 0)]) (H' := ⟨3, [(0, (2, [.agg [i64 0, nilS]])), (1, (2, [.agg [i64 r523.N, .view 2 0 (List.map u64 r523.Rows).length]])), (2, (1, List.map u64 r523.Rows))], []⟩) [(0, 0), (1, 2), (2, 1)] [] rfl rfl rfl (.cons rfl rfl (.one (.sm) rfl) dt (.cons rfl rfl (.one (.ag ⟨.sm, .view rfl, trivial⟩) rfl) dt (.cons rfl rfl (.same (by simp)) dt trivial))) ⟨.k, ⟨_, rfl, .ref rfl⟩, ⟨_, rfl, .ref rfl⟩, trivial⟩) ?_)
 refine awp_seqJ (fun (p : (List (BitVec 64))) => (⟨[(2, .ref 0 0 0), (3, .ref 1 0 0)], ⟨3, [(0, (2, [.agg [i64 0, nilS]])), (1, (2, [.agg [i64 r523.N, .view 2 0 (List.map u64 p).length]])), (2, (1, List.map u64 p))], []⟩⟩ : St)) (fun (p : (List (BitVec 64))) => G.inquestref17_Init_j1 r523 p = some r) ?_ ?_
 ·rintro v1044 h
  replace h : G.inquestref17_Init_j1 r523 v1044 = some r := h
  unfold G.inquestref17_Init_j1 at h
  refine awp_seqK fun K3 hK3 => awp_reg rfl <| AR.op (r := .agg [i64 r523.N, .view 2 0 (List.map u64 v1044).length]) rfl (aop_load_ref rfl rfl rfl rfl sz119 rfl) <| AR.op rfl (aop_store (e' := .agg [i64 r523.N, .view 2 0 (List.map u64 v1044).length]) rfl rfl rfl rfl rfl rfl sz119 rfl dt rfl) <| AR.nil <| hK3 _ (AWP.weak (Weak.re (fr' := [(2, .ref 0 0 0)]) (H' := ⟨2, [(0, (2, [.agg [i64 r523.N, .view 1 0 (List.map u64 v1044).length]])), (1, (1, List.map u64 v1044))], []⟩) [(0, 0), (1, 2)] [] rfl rfl rfl (.cons rfl rfl (.one (.ag ⟨.sm, .view rfl, trivial⟩) rfl) dt (.cons rfl rfl (.same (by simp)) dt trivial)) ⟨⟨_, rfl, .ref rfl⟩, trivial⟩) ?_)
  refine awp_ret ?_
  obtain rfl := Option.some.inj h
  refine ⟨.inr rfl, .agg [i64 r523.N, .view 1 0 (List.map u64 v1044).length], rfl, ?_⟩
  exact Weak.re [(0, 1)] [] rfl rfl rfl (.cons rfl rfl (.same (by simp)) dt trivial) ⟨⟨.agg [i64 r523.N, .view 1 0 (List.map u64 v1044).length], rfl, .ag ⟨.sm, .view rfl, trivial⟩⟩, trivial⟩
 ·intro K4 hK4
  refine awp_seqK fun K5 hK5 => awp_reg rfl <| AR.op rfl (aop_move (.inr rfl) rfl) <| AR.nil <| hK5 _ ?_
  refine awp_block <| awp_iter (fun (p : (List (BitVec 64)) × Int) => G.inquestref17_Init_b1 h_0 r523 p.1 p.2) (fun (p : (List (BitVec 64)) × Int) => (⟨[(1, .pp [.sl (List.map G.api_Txn.av h_0.Txns)] 0), (2, .ref 0 0 0), (3, .ref 1 0 0), (4, i64 p.2)], ⟨3, [(0, (2, [.agg [i64 0, nilS]])), (1, (2, [.agg [i64 r523.N, .view 2 0 (List.map u64 p.1).length]])), (2, (1, List.map u64 p.1))], []⟩⟩ : St)) h (Weak.kt [1, 2, 3, 4] rfl) ?_
  ·skip
   rintro ⟨gRows1401, t1402⟩ o1 h hx1
   replace h : G.inquestref17_Init_b1 h_0 r523 gRows1401 t1402 = some o1 := h
   unfold G.inquestref17_Init_b1 at h
   refine awp_seqK fun K6 hK6 => awp_seqK fun K7 hK7 => awp_reg rfl <| AR.op rfl (aop_move (.inl rfl) rfl) <| AR.op rfl (aop_field_ref rfl rfl rfl fd119_0 (by decide)) <| AR.op (r := i64 r523.N) rfl (aop_load_ref rfl rfl rfl rfl sz3 rfl) <| AR.keep [1, 2, 3, 4, 13, 15] rfl <| AR.op rfl (aop_lss rfl rfl rfl) ?_
   refine AR.nil <| hK7 _ (AWP.weak (Weak.kt [1, 2, 3, 4, 16] rfl) ?_)
   refine awp_cond rfl (fun hb1403 => ?_) (fun hb1403 => ?_)
   ·replace h := Sh.if_t h hb1403
    refine awp_skip <| hK6 _ (AWP.weak (Weak.kt [1, 2, 3, 4] rfl) ?_)
    refine awp_seqJ (fun (p : (List (BitVec 64))) => (⟨[(1, .pp [.sl (List.map G.api_Txn.av h_0.Txns)] 0), (2, .ref 0 0 0), (3, .ref 1 0 0), (4, i64 t1402)], ⟨3, [(0, (2, [.agg [i64 0, nilS]])), (1, (2, [.agg [i64 r523.N, .view 2 0 (List.map u64 p).length]])), (2, (1, List.map u64 p))], []⟩⟩ : St)) (fun (p : (List (BitVec 64))) => G.inquestref17_Init_j2 t1402 p = some o1) ?_ ?_
    ·rintro v1566 h
     replace h : G.inquestref17_Init_j2 t1402 v1566 = some o1 := h
     unfold G.inquestref17_Init_j2 at h
     refine awp_reg rfl <| AR.op rfl (aop_move (.inl rfl) rfl) <| AR.op rfl (aop_add rfl rfl rfl rfl) <| AR.op rfl (aop_move (.inr rfl) rfl) <| AR.nil ?_
     replace h := Sh.next_eq h
     exact ⟨_, h, Weak.kt [1, 2, 3, 4] rfl⟩
    ·intro K8 hK8
     refine awp_block <| awp_seqK fun K9 hK9 => awp_reg rfl <| AR.op rfl (aop_field_pp rfl rfl fd24_0 (by decide)) <| AR.op (r := .sl (List.map G.api_Txn.av h_0.Txns)) rfl (aop_load_pp rfl rfl sz22 rfl) <| AR.op rfl (aop_move (.inl rfl) rfl) <| AR.keep [1, 2, 3, 4, 20, 21] rfl ?_
     obtain ⟨x1569, hx1569, h⟩ := Sh.bind_some' h
     obtain ⟨k1570, hi1570, hl1570⟩ := Sh.idx_some hx1569
     refine AR.op rfl (t_index_sl G.api_Txn.av h_0.Txns hi1570 hl1570 rfl rfl rfl el22 rfl) <| AR.op rfl (aop_field_pp rfl rfl fd73_2 (by decide)) <| AR.op (r := .sl (List.map G.api_Take.av x1569.Reads)) rfl (aop_load_pp rfl rfl sz71 rfl) <| AR.keep [1, 2, 3, 4, 24] rfl <| AR.op rfl (aop_move (.inr rfl) rfl) <| AR.nil <| hK9 _ (AWP.weak (Weak.kt [1, 2, 3, 4, 5] rfl) ?_)
     refine awp_seqK fun K10 hK10 => awp_reg rfl <| AR.op rfl (aop_move (.inr rfl) rfl) <| AR.nil <| hK10 _ ?_
     refine awp_block <| awp_iter (fun (p : (List (BitVec 64)) × Int) => G.inquestref17_Init_b2 h_0 r523 t1402 x1569 p.1 p.2) (fun (p : (List (BitVec 64)) × Int) => (⟨[(1, .pp [.sl (List.map G.api_Txn.av h_0.Txns)] 0), (2, .ref 0 0 0), (3, .ref 1 0 0), (4, i64 t1402), (5, .sl (List.map G.api_Take.av x1569.Reads)), (6, i64 p.2)], ⟨3, [(0, (2, [.agg [i64 0, nilS]])), (1, (2, [.agg [i64 r523.N, .view 2 0 (List.map u64 p.1).length]])), (2, (1, List.map u64 p.1))], []⟩⟩ : St)) h (Weak.kt [1, 2, 3, 4, 5, 6] rfl) ?_
     ·skip
      rintro ⟨gRows1677, i1678⟩ o2 h hx2
      replace h : G.inquestref17_Init_b2 h_0 r523 t1402 x1569 gRows1677 i1678 = some o2 := h
      unfold G.inquestref17_Init_b2 at h
      refine awp_seqK fun K11 hK11 => awp_seqK fun K12 hK12 => awp_reg rfl <| AR.op rfl (aop_move (.inl rfl) rfl) <| AR.op rfl (aop_move (.inl rfl) rfl) <| AR.op rfl (t_len_sl G.api_Take.av x1569.Reads rfl rfl el71) <| AR.keep [1, 2, 3, 4, 5, 6, 25, 27] rfl <| AR.op rfl (aop_lss rfl rfl rfl) ?_
      refine AR.nil <| hK12 _ (AWP.weak (Weak.kt [1, 2, 3, 4, 5, 6, 28] rfl) ?_)
      refine awp_cond rfl (fun hb1679 => ?_) (fun hb1679 => ?_)
      ·replace h := Sh.if_t h hb1679
       refine awp_skip <| hK11 _ (AWP.weak (Weak.kt [1, 2, 3, 4, 5, 6] rfl) ?_)
       refine awp_seqJ (fun (p : (List (BitVec 64))) => (⟨[(1, .pp [.sl (List.map G.api_Txn.av h_0.Txns)] 0), (2, .ref 0 0 0), (3, .ref 1 0 0), (4, i64 t1402), (5, .sl (List.map G.api_Take.av x1569.Reads)), (6, i64 i1678)], ⟨3, [(0, (2, [.agg [i64 0, nilS]])), (1, (2, [.agg [i64 r523.N, .view 2 0 (List.map u64 p).length]])), (2, (1, List.map u64 p))], []⟩⟩ : St)) (fun (p : (List (BitVec 64))) => G.inquestref17_Init_j3 i1678 p = some o2) ?_ ?_
       ·rintro v1732 h
        replace h : G.inquestref17_Init_j3 i1678 v1732 = some o2 := h
        unfold G.inquestref17_Init_j3 at h
        refine awp_reg rfl <| AR.op rfl (aop_move (.inl rfl) rfl) <| AR.op rfl (aop_add rfl rfl rfl rfl) <| AR.op rfl (aop_move (.inr rfl) rfl) <| AR.nil ?_
        replace h := Sh.next_eq h
        exact ⟨_, h, Weak.kt [1, 2, 3, 4, 5, 6] rfl⟩
       ·intro K13 hK13
        refine awp_block <| awp_seqK fun K14 hK14 => awp_reg rfl <| AR.op rfl (aop_move (.inr rfl) rfl) <| AR.nil <| hK14 _ ?_
        refine awp_block <| awp_iter (fun (p : (List (BitVec 64)) × Int) => G.inquestref17_Init_b3 h_0 r523 t1402 x1569 i1678 p.1 p.2) (fun (p : (List (BitVec 64)) × Int) => (⟨[(1, .pp [.sl (List.map G.api_Txn.av h_0.Txns)] 0), (2, .ref 0 0 0), (3, .ref 1 0 0), (4, i64 t1402), (5, .sl (List.map G.api_Take.av x1569.Reads)), (6, i64 i1678), (7, i64 p.2)], ⟨3, [(0, (2, [.agg [i64 0, nilS]])), (1, (2, [.agg [i64 r523.N, .view 2 0 (List.map u64 p.1).length]])), (2, (1, List.map u64 p.1))], []⟩⟩ : St)) h (Weak.kt [1, 2, 3, 4, 5, 6, 7] rfl) ?_
        ·skip
         rintro ⟨gRows1767, w1768⟩ o3 h hx3
         replace h : G.inquestref17_Init_b3 h_0 r523 t1402 x1569 i1678 gRows1767 w1768 = some o3 := h
         unfold G.inquestref17_Init_b3 at h
         refine awp_seqK fun K15 hK15 => awp_seqK fun K16 hK16 => awp_reg rfl <| AR.op rfl (aop_move (.inl rfl) rfl) <| AR.op rfl (aop_field_ref rfl rfl rfl fd119_0 (by decide)) <| AR.op (r := i64 r523.N) rfl (aop_load_ref rfl rfl rfl rfl sz3 rfl) <| AR.keep [1, 2, 3, 4, 5, 6, 7, 31, 33] rfl <| AR.op rfl (aop_lss rfl rfl rfl) ?_
         refine AR.nil <| hK16 _ (AWP.weak (Weak.kt [1, 2, 3, 4, 5, 6, 7, 34] rfl) ?_)
         refine awp_cond rfl (fun hb1769 => ?_) (fun hb1769 => ?_)
         ·replace h := Sh.if_t h hb1769
          refine awp_skip <| hK15 _ (AWP.weak (Weak.kt [1, 2, 3, 4, 5, 6, 7] rfl) ?_)
          refine awp_seqJ (fun (p : (List (BitVec 64))) => (⟨[(1, .pp [.sl (List.map G.api_Txn.av h_0.Txns)] 0), (2, .ref 0 0 0), (3, .ref 1 0 0), (4, i64 t1402), (5, .sl (List.map G.api_Take.av x1569.Reads)), (6, i64 i1678), (7, i64 w1768)], ⟨3, [(0, (2, [.agg [i64 0, nilS]])), (1, (2, [.agg [i64 r523.N, .view 2 0 (List.map u64 p).length]])), (2, (1, List.map u64 p))], []⟩⟩ : St)) (fun (p : (List (BitVec 64))) => G.inquestref17_Init_j4 w1768 p = some o3) ?_ ?_
          ·rintro gRows1785 h
           replace h : G.inquestref17_Init_j4 w1768 gRows1785 = some o3 := h
           unfold G.inquestref17_Init_j4 at h
           refine awp_reg rfl <| AR.op rfl (aop_move (.inl rfl) rfl) <| AR.op rfl (aop_add rfl rfl rfl rfl) <| AR.op rfl (aop_move (.inr rfl) rfl) <| AR.nil ?_
           replace h := Sh.next_eq h
           exact ⟨_, h, Weak.kt [1, 2, 3, 4, 5, 6, 7] rfl⟩
          ·intro K17 hK17
           refine awp_block <| awp_seqK fun K18 hK18 => awp_any [(true, false), (true, false), (true, false), (true, false), (true, false), (true, false), (true, false), (true, false), (true, false), (true, false), (true, false), (true, false)] (by kernel_rfl) (by kernel_rfl) rfl ?_
           refine ARH.dry rfl (fun _ => aop_field_pp rfl rfl fd24_0 (by decide)) <| ARH.dry (r := .sl (List.map G.api_Txn.av h_0.Txns)) rfl (fun _ => aop_load_pp rfl rfl sz22 rfl) <| ARH.dry rfl (fun _ => aop_move (.inl rfl) rfl) <| ARH.keep [1, 2, 3, 4, 5, 6, 7, 38, 39] rfl ?_
           obtain ⟨x1791, hx1791, h⟩ := Sh.bind_some' h
           obtain ⟨k1792, hi1792, hl1792⟩ := Sh.idx_some hx1791
           refine ARH.dry rfl (fun _ => t_index_sl G.api_Txn.av h_0.Txns hi1792 hl1792 rfl rfl rfl el22 rfl) <| ARH.dry (r := G.api_Txn.av x1791) rfl (fun _ => aop_load_pp rfl rfl sz73 rfl) <| ARH.dry rfl (fun _ => aop_move (.inl rfl) rfl) <| ARH.keep [1, 2, 3, 4, 5, 6, 7, 41, 42] rfl <| ARH.dry rfl (fun _ => aop_move (.inl rfl) rfl) ?_
           obtain ⟨x1793, hx1793, h⟩ := Sh.bind_some' h
           obtain ⟨k1794, hi1794, hl1794⟩ := Sh.idx_some hx1793
           refine ARH.dry rfl (fun _ => t_index_sl G.api_Take.av x1569.Reads hi1794 hl1794 rfl rfl rfl el71 rfl) <| ARH.dry rfl (fun _ => aop_field_pp rfl rfl fd70_0 (by decide)) <| ARH.keep [1, 2, 3, 4, 5, 6, 7, 41, 45] rfl <| ARH.dry (r := i64 x1793.Key) rfl (fun _ => aop_load_pp rfl rfl sz3 rfl) ?_
           obtain ⟨r1795, hr1795, h⟩ := Sh.bind_some' h
           refine ARH.dry (r := bl r1795) rfl (fun _ => aop_call1 rfl rfl (by simp) (inquestref08_Writes_ok hT hr1795)) <| ARH.dry rfl (fun _ => aop_move (.inr rfl) rfl) <| ARH.nil <| hK18 _ (AWP.weak (Weak.kt [1, 2, 3, 4, 5, 6, 7, 8] rfl) ?_)
           refine awp_seqJ (fun (p : Bool) => (⟨[(1, .pp [.sl (List.map G.api_Txn.av h_0.Txns)] 0), (2, .ref 0 0 0), (3, .ref 1 0 0), (4, i64 t1402), (5, .sl (List.map G.api_Take.av x1569.Reads)), (6, i64 i1678), (7, i64 w1768), (61, bl p)], ⟨3, [(0, (2, [.agg [i64 0, nilS]])), (1, (2, [.agg [i64 r523.N, .view 2 0 (List.map u64 gRows1767).length]])), (2, (1, List.map u64 gRows1767))], []⟩⟩ : St)) (fun (p : Bool) => G.inquestref17_Init_j5 t1402 gRows1767 w1768 p = some o3) ?_ ?_
           ·rintro v1800 h
            replace h : G.inquestref17_Init_j5 t1402 gRows1767 w1768 v1800 = some o3 := h
            unfold G.inquestref17_Init_j5 at h
            refine awp_cond rfl (fun hb1801 => ?_) (fun hb1801 => ?_)
            ·replace h := Sh.if_t h hb1801
             refine awp_any [(false, false), (false, false), (true, false), (false, false), (false, false), (true, false), (false, false), (false, false), (true, false), (true, false), (false, false), (false, true)] (by kernel_rfl) (by kernel_rfl) rfl ?_
             refine ARH.op rfl rfl (aop_field_ref rfl rfl rfl fd119_1 (by decide)) <| ARH.op (r := .view 2 0 (List.map u64 gRows1767).length) rfl rfl (aop_load_ref rfl rfl rfl rfl sz117 rfl) <| ARH.dry rfl (fun _ => aop_move (.inl rfl) rfl) <| ARH.keep [1, 2, 3, 4, 5, 6, 7, 63, 64] rfl <| ARH.op rfl rfl (aop_field_ref rfl rfl rfl fd119_1 (by decide)) <| ARH.op (r := .view 2 0 (List.map u64 gRows1767).length) rfl rfl (aop_load_ref rfl rfl rfl rfl sz117 rfl) <| ARH.dry rfl (fun _ => aop_move (.inl rfl) rfl) <| ARH.keep [1, 2, 3, 4, 5, 6, 7, 63, 64, 66, 67] rfl ?_
             obtain ⟨x1802, hx1802, h⟩ := Sh.bind_some' h
             obtain ⟨k1803, hi1803, hl1803⟩ := Sh.idx_some hx1802
             refine ARH.op (r := .ref 2 k1803 0) rfl rfl (t_index_view u64 gRows1767 hi1803 hl1803 rfl rfl rfl rfl rfl el117 rfl) <| ARH.op (r := u64 x1802) rfl rfl (t_load_el u64 gRows1767 hl1803 rfl rfl rfl sz135 rfl) <| ARH.dry rfl (fun _ => aop_move (.inl rfl) rfl) <| ARH.keep [1, 2, 3, 4, 5, 6, 7, 63, 64, 69, 70] rfl ?_
             obtain ⟨r1804, hr1804, h⟩ := Sh.bind_some' h
             refine ARH.dry (r := u64 r1804) rfl (fun _ => aop_call1 rfl rfl (by simp) (inquestref10_With_ok hT hr1804)) ?_
             obtain ⟨x1805, hx1805, h⟩ := Sh.bind_some' h
             obtain ⟨k1806, hi1806, hl1806⟩ := Sh.idx_some hx1805
             refine ARH.op (r := .ref 2 k1806 0) rfl rfl (t_index_view u64 gRows1767 hi1806 hl1806 rfl rfl rfl rfl rfl el117 rfl) <| ARH.loud rfl rfl (t_store_el u64 gRows1767 r1804 hi1806 hl1806 rfl rfl rfl rfl rfl sz135 rfl dt rfl) <| ARH.nil ?_
             exact hK17 (Sh.set gRows1767 t1402 r1804) _ h (Weak.re [(0, 0), (1, 1), (2, 2)] [] rfl rfl rfl (.cons rfl rfl (.one (.sm) rfl) dt (.cons rfl rfl (.one (.ag ⟨.sm, .viewL rfl (by simp []), trivial⟩) rfl) dt (.cons rfl rfl (.same (by simp)) dt trivial))) ⟨.k, ⟨_, rfl, .ref rfl⟩, ⟨_, rfl, .ref rfl⟩, .k, ⟨.sl (List.map G.api_Take.av x1569.Reads), rfl, .sm⟩, .k, .k, trivial⟩)
            ·replace h := Sh.if_f h hb1801
             refine awp_skip ?_
             exact hK17 gRows1767 _ h (Weak.kt [1, 2, 3, 4, 5, 6, 7] rfl)
           ·intro K19 hK19
            refine awp_reg rfl <| AR.op rfl (aop_move (.inl rfl) rfl) <| AR.op rfl (aop_move (.inl rfl) rfl) ?_
            rcases Bool.eq_false_or_eq_true (r1795) with hb1807 | hb1807
            ·rw [hb1807]
             replace h := Sh.if_t h hb1807
             refine AR.op rfl (aop_move (.inl rfl) rfl) <| AR.keep [1, 2, 3, 4, 5, 6, 7, 49, 50] rfl <| AR.op rfl (aop_move (.inl rfl) rfl) ?_
             obtain ⟨x1808, hx1808, h⟩ := Sh.bind_some' h
             obtain ⟨k1809, hi1809, hl1809⟩ := Sh.idx_some hx1808
             refine AR.op rfl (t_index_sl G.api_Take.av x1569.Reads hi1809 hl1809 rfl rfl rfl el71 rfl) <| AR.op rfl (aop_field_pp rfl rfl fd70_1 (by decide)) <| AR.keep [1, 2, 3, 4, 5, 6, 7, 49, 50, 51, 52, 53] rfl <| AR.op (r := i64 x1808.From) rfl (aop_load_pp rfl rfl sz3 rfl) <| AR.op (r := bl (decide (x1808.From = (-1)))) rfl (aop_eql rfl rfl rfl) <| AR.op rfl (aop_pick rfl rfl rfl) <| AR.keep [1, 2, 3, 4, 5, 6, 7, 50, 51, 52, 53, 54, 55, 56] rfl <| AR.op rfl (aop_move (.inl rfl) rfl) ?_
             rcases Bool.eq_false_or_eq_true (decide (x1808.From = (-1))) with hb1810 | hb1810
             ·rw [hb1810]
              replace h := Sh.if_t h hb1810
              refine AR.op rfl (aop_move (.inl rfl) rfl) <| AR.op rfl (aop_move (.inl rfl) rfl) <| AR.keep [1, 2, 3, 4, 5, 6, 7, 50, 51, 52, 53, 54, 55, 57, 58, 59] rfl <| AR.op (r := bl (decide (w1768 ≠ t1402))) rfl (aop_neq rfl rfl rfl) <| AR.op rfl (aop_pick rfl rfl rfl) <| AR.nil ?_
              exact hK19 (decide (w1768 ≠ t1402)) _ h (Weak.kt [1, 2, 3, 4, 5, 6, 7, 61] rfl)
             ·rw [hb1810]
              replace h := Sh.if_f h hb1810
              refine AR.skip rfl <| AR.skip rfl <| AR.keep [1, 2, 3, 4, 5, 6, 7, 50, 51, 52, 53, 54, 55, 57, 58, 59] rfl <| AR.skip rfl <| AR.op rfl (aop_pick rfl rfl rfl) <| AR.nil ?_
              exact hK19 false _ h (Weak.kt [1, 2, 3, 4, 5, 6, 7, 61] rfl)
            ·rw [hb1807]
             replace h := Sh.if_f h hb1807
             refine AR.skip rfl <| AR.keep [1, 2, 3, 4, 5, 6, 7, 49, 50] rfl <| AR.skip rfl <| AR.skip rfl <| AR.skip rfl <| AR.keep [1, 2, 3, 4, 5, 6, 7, 49, 50, 51, 52, 53] rfl <| AR.skip rfl <| AR.skip rfl ?_
             refine AR.op rfl (aop_pick rfl rfl rfl) <| AR.keep [1, 2, 3, 4, 5, 6, 7, 50, 51, 52, 53, 54, 55, 56] rfl <| AR.op rfl (aop_move (.inl rfl) rfl) <| AR.skip rfl <| AR.skip rfl <| AR.keep [1, 2, 3, 4, 5, 6, 7, 50, 51, 52, 53, 54, 55, 57, 58, 59] rfl <| AR.skip rfl <| AR.op rfl (aop_pick rfl rfl rfl) ?_
             refine AR.nil ?_
             exact hK19 false _ h (Weak.kt [1, 2, 3, 4, 5, 6, 7, 61] rfl)
         ·replace h := Sh.if_f h hb1769
          refine awp_exit ?_
          replace h := Sh.exit_eq h hx3
          exact hK13 gRows1767 _ h (Weak.kt [1, 2, 3, 4, 5, 6] rfl)
      ·replace h := Sh.if_f h hb1679
       refine awp_exit ?_
       replace h := Sh.exit_eq h hx2
       exact hK8 gRows1677 _ h (Weak.kt [1, 2, 3, 4] rfl)
   ·replace h := Sh.if_f h hb1403
    refine awp_exit ?_
    replace h := Sh.exit_eq h hx1
    exact hK4 gRows1401 _ h (Weak.kt [2, 3] rfl)
end Wk
