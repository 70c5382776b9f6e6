/- That the functions of a package do what their plain functions say. -/
import Derived.Test.YtcoegkcdabpijaaDoorSh
import Derived.Test.YtcoegkcdabpijaaDoorWkDFacts
import Derived.Test.YtcoegkcdabpijaaDoorWkDhist
import Derived.Test.YtcoegkcdabpijaaDoorWkDstdslices
open Go Go.Av Go.Proofs
set_option linter.unusedVariables false
set_option maxHeartbeats 8000000
set_option maxRecDepth 20000
namespace Wk
theorem index_Keys_ok0 {W0 : World} (hT : Tab W0) {h_0 : G.api_Hist} {r : (List Int)} (h : G.index_Keys h_0 = some r) : Fun2 Tryd.prog W0 64 [G.api_Hist.av h_0] (.sl (List.map i64 r)) .empty := by
 refine fun2_of_awp Tryd.func64 rfl (by kernel_rfl) Tryd.ntmps64 (by simp) ?_
 unfold G.index_Keys at h
 show AWP _ _ _ _ ⟨[(0, G.api_Hist.av h_0)], .empty⟩ _
 refine awp_seqK fun K1 hK1 => awp_reg rfl <| AR.op (r := .ref 0 0 0) rfl (aop_box 1 [G.api_Hist.av h_0] rfl rfl rfl (.inl ⟨rfl, rfl⟩)) <| AR.op rfl (aop_move (.inr rfl) rfl) <| AR.nil <| hK1 _ (AWP.weak (Weak.e (fr' := [(1, .pp [.sl (List.map G.api_Txn.av h_0.Txns)] 0)]) (H' := .empty) ⟨⟨_, rfl, .frzA rfl rfl rfl rfl (by simp)⟩, trivial⟩) ?_)
 refine awp_seqK fun K2 hK2 => awp_seqK fun K3 hK3 => awp_reg rfl <| AR.op (r := G.api_Hist.av h_0) rfl (aop_load_pp rfl rfl sz24 rfl) ?_
 obtain ⟨r20, hr20, h⟩ := Sh.bind_some' h
 refine AR.op (r := bl r20) rfl (aop_call1 rfl rfl (by simp) (hist_Right_ok hT hr20)) <| AR.op (r := bl (!r20)) rfl (aop_not rfl rfl) <| AR.nil <| hK3 _ (AWP.weak (Weak.kt [1, 8] rfl) ?_)
 refine awp_cond rfl (fun hb21 => ?_) (fun hb21 => ?_)
 ·replace h := Sh.if_t h hb21
  refine awp_seqK fun K4 hK4 => awp_reg rfl <| AR.op rfl (aop_move (.inr rfl) rfl) <| AR.nil <| hK4 _ (AWP.weak (Weak.kt [2] rfl) ?_)
  refine awp_ret ?_
  obtain rfl := Option.some.inj h
  refine ⟨.inr rfl, nilS, rfl, ?_⟩
  exact Weak.e ⟨⟨_, rfl, .nilsl⟩, trivial⟩
 ·replace h := Sh.if_f h hb21
  refine awp_skip <| hK2 _ (AWP.weak (Weak.kt [1] rfl) ?_)
  refine awp_seqK fun K5 hK5 => awp_reg rfl <| AR.op rfl (aop_move (.inr rfl) rfl) <| AR.nil <| hK5 _ ?_
  refine awp_seqJ (fun (p : (List Int)) => (⟨[(3, .view 0 0 (List.map i64 p).length)], ⟨1, [(0, (1, List.map i64 p))], []⟩⟩ : St)) (fun (p : (List Int)) => G.index_Keys_j1 p = some r) ?_ ?_
  ·rintro out35 h
   replace h : G.index_Keys_j1 out35 = some r := h
   unfold G.index_Keys_j1 at h
   refine awp_seqK fun K6 hK6 => awp_reg rfl <| AR.op rfl (aop_move (.inl rfl) rfl) ?_
   obtain ⟨sort38, hsort38, h⟩ := Sh.bind_some' h
   have hlen39 := Sh.sort_len hsort38
   refine AR.op (r := .tuple []) rfl (aop_sort so75 out35 sort38 hsort38 rfl rfl rfl rfl rfl) <| AR.nil <| hK6 _ (AWP.weak (Weak.re (fr' := [(3, .view 0 0 (List.map i64 sort38).length)]) (H' := ⟨1, [(0, (1, List.map i64 sort38))], []⟩) [(0, 0)] [] rfl rfl rfl (.cons rfl rfl (.same (by simp)) dt trivial) ⟨⟨_, rfl, .viewL rfl (by simp [hlen39])⟩, trivial⟩) ?_)
   refine awp_seqK fun K7 hK7 => awp_reg rfl <| AR.op rfl (aop_move (.inl rfl) rfl) ?_
   obtain ⟨compact41, hcompact41, h⟩ := Sh.bind_some' h
   refine AR.op (r := .sl (List.map i64 compact41)) rfl (aop_compact cm76 sort38 compact41 hcompact41 rfl rfl rfl rfl rfl) <| AR.op rfl (aop_move (.inr rfl) rfl) <| AR.nil <| hK7 _ (AWP.weak (Weak.kt [2] rfl) ?_)
   refine awp_ret ?_
   obtain rfl := Option.some.inj h
   refine ⟨.inr rfl, .sl (List.map i64 compact41), rfl, ?_⟩
   exact Weak.e ⟨⟨.sl (List.map i64 compact41), rfl, .sm⟩, trivial⟩
  ·intro K8 hK8
   refine awp_seqK fun K9 hK9 => awp_reg rfl <| AR.op rfl (aop_field_pp rfl rfl fd24_0 (by decide)) <| AR.op (r := .sl (List.map G.api_Txn.av h_0.Txns)) rfl (aop_load_pp rfl rfl sz22 rfl) <| AR.op rfl (t_len_sl G.api_Txn.av h_0.Txns rfl rfl el22) <| AR.keep [3, 10, 11] rfl <| AR.op rfl (aop_move (.inl rfl) rfl) <| AR.nil ?_
   refine hK9 _ ?_
   refine awp_block <| awp_iter (fun (p : (List Int) × Int) => G.index_Keys_b1 h_0 p.1 p.2) (fun (p : (List Int) × Int) => (⟨[(3, .view 0 0 (List.map i64 p.1).length), (10, .sl (List.map G.api_Txn.av h_0.Txns)), (11, i64 (Sh.len h_0.Txns)), (12, i64 p.2)], ⟨1, [(0, (1, List.map i64 p.1))], []⟩⟩ : St)) h (Weak.re [] [0] rfl rfl rfl (.fresh (by simp) dt trivial) ⟨⟨_, rfl, .nil (by simp)⟩, ⟨.sl (List.map G.api_Txn.av h_0.Txns), rfl, .sm⟩, .k, .k, trivial⟩) ?_
   ·skip
    rintro ⟨out50, v51⟩ o1 h hx1
    replace h : G.index_Keys_b1 h_0 out50 v51 = some o1 := h
    unfold G.index_Keys_b1 at h
    refine awp_seqK fun K10 hK10 => awp_reg rfl <| AR.op rfl (aop_lss rfl rfl rfl) <| AR.nil <| hK10 _ ?_
    refine awp_seqK fun K11 hK11 => awp_cond rfl (fun hb52 => ?_) (fun hb52 => ?_)
    ·replace h := Sh.if_t h hb52
     refine awp_skip <| hK11 _ (AWP.weak (Weak.kt [3, 10, 11, 12] rfl) ?_)
     refine awp_seqK fun K12 hK12 => awp_block <| awp_seqK fun K13 hK13 => awp_reg rfl ?_
     obtain ⟨x58, hx58, h⟩ := Sh.bind_some' h
     obtain ⟨k59, hi59, hl59⟩ := Sh.idx_some hx58
     refine AR.op rfl (t_index_sl G.api_Txn.av h_0.Txns hi59 hl59 rfl rfl rfl el22 rfl) <| AR.op (r := G.api_Txn.av x58) rfl (aop_load_pp rfl rfl sz53 rfl) <| AR.op (r := .ref 1 0 0) rfl (aop_alloc 3 [.agg [i64 0, nilS, nilS]] rfl zr53 (by kernel_rfl) (.inl ⟨rfl, rfl⟩)) <| AR.keep [3, 10, 11, 12, 15, 5] rfl <| AR.op rfl (aop_store (e' := G.api_Txn.av x58) rfl rfl rfl rfl rfl rfl sz53 rfl dt rfl) <| AR.nil <| hK13 _ (AWP.weak (Weak.re (fr' := [(3, .view 0 0 (List.map i64 out50).length), (10, .sl (List.map G.api_Txn.av h_0.Txns)), (11, i64 (Sh.len h_0.Txns)), (12, i64 v51), (5, .pp [i64 x58.Session, .sl (List.map i64 x58.Writes), .sl (List.map G.api_Take.av x58.Reads)] 0)]) (H' := ⟨1, [(0, (1, List.map i64 out50))], []⟩) [(0, 0)] [] rfl rfl rfl (.cons rfl rfl (.same (by simp)) dt trivial) ⟨⟨_, rfl, .view rfl⟩, ⟨.sl (List.map G.api_Txn.av h_0.Txns), rfl, .sm⟩, .k, .k, ⟨_, rfl, .frzA rfl rfl rfl rfl (by simp)⟩, trivial⟩) ?_)
     refine awp_reg rfl <| AR.op rfl (aop_move (.inl rfl) rfl) <| AR.op rfl (aop_field_pp rfl rfl fd53_1 (by decide)) <| AR.op (r := .sl (List.map i64 x58.Writes)) rfl (aop_load_pp rfl rfl sz26 rfl) <| AR.keep [10, 11, 12, 16, 18] rfl ?_
     obtain ⟨out60, hout60, h⟩ := Sh.bind_some' h
     refine AR.op (r := .view 1 0 (List.map i64 out60).length) rfl (t_app_view i64 out50 x58.Writes out60 hout60 rfl et26 (fun _ => rfl) rfl rfl rfl rfl rfl rfl rfl) <| AR.op rfl (aop_move (.inr rfl) rfl) <| AR.nil <| hK12 _ (AWP.weak (Weak.re (fr' := [(10, .sl (List.map G.api_Txn.av h_0.Txns)), (11, i64 (Sh.len h_0.Txns)), (12, i64 v51), (3, .view 0 0 (List.map i64 out60).length)]) (H' := ⟨1, [(0, (1, List.map i64 out60))], []⟩) [(0, 1)] [] rfl rfl rfl (.cons rfl rfl (.same (by simp)) dt trivial) ⟨⟨.sl (List.map G.api_Txn.av h_0.Txns), rfl, .sm⟩, .k, .k, ⟨_, rfl, .view rfl⟩, trivial⟩) ?_)
     refine awp_reg rfl <| AR.op rfl (aop_add rfl rfl rfl rfl) <| AR.op rfl (aop_move (.inl rfl) rfl) <| AR.nil ?_
     replace h := Sh.next_eq h
     exact ⟨_, h, Weak.kt [3, 10, 11, 12] rfl⟩
    ·replace h := Sh.if_f h hb52
     refine awp_exit ?_
     replace h := Sh.exit_eq h hx1
     exact hK8 out50 _ h (Weak.kt [3] rfl)
theorem index_Keys_ok {W0 : World} (hT : Tab W0) {h_0 : G.api_Hist} {r : (List Int)} (h : G.index_Keys h_0 = some r) : Fun1 Tryd.prog W0 64 [G.api_Hist.av h_0] (.sl (List.map i64 r)) := Fun1.two (index_Keys_ok0 hT h) (by simp)


theorem index_reads_ok {W0 : World} (hT : Tab W0) {h_0 : G.api_Hist} {r : Unit} (h : G.index_reads h_0 = some r) : Fun3 Tryd.prog (.pinned W0 0) 77 [G.api_Hist.av h_0] .empty (.clo (.func 80) [.pp [.sl (List.map G.api_Txn.av h_0.Txns)] 0]) .empty := by
 refine fun3_of_awp rfl Tryd.func77 rfl (by kernel_rfl) Tryd.ntmps77 (by simp) ?_
 unfold G.index_reads at h
 show AWP _ _ _ _ ⟨[(0, G.api_Hist.av h_0)], .empty⟩ _
 refine awp_seqK fun K1 hK1 => awp_reg rfl <| AR.op (r := .ref 0 0 0) rfl (aop_box 1 [G.api_Hist.av h_0] rfl rfl rfl (.inl ⟨rfl, rfl⟩)) <| AR.op rfl (aop_move (.inr rfl) rfl) <| AR.nil <| hK1 _ (AWP.weak (Weak.e (fr' := [(1, .pp [.sl (List.map G.api_Txn.av h_0.Txns)] 0)]) (H' := .empty) ⟨⟨_, rfl, .frzA rfl rfl rfl rfl (by simp)⟩, trivial⟩) ?_)
 refine awp_seqK fun K2 hK2 => awp_reg rfl <| AR.op (r := .clo (.func 80) [.pp [.sl (List.map G.api_Txn.av h_0.Txns)] 0]) rfl (aop_makeFunc rfl rfl) <| AR.op rfl (aop_move (.inr rfl) rfl) <| AR.nil <| hK2 _ (AWP.weak (Weak.kt [2] rfl) ?_)
 refine awp_ret ?_
 obtain rfl := Option.some.inj h
 refine ⟨.inr rfl, .clo (.func 80) [.pp [.sl (List.map G.api_Txn.av h_0.Txns)] 0], rfl, ?_⟩
 exact Weak.e ⟨⟨.clo (.func 80) [.pp [.sl (List.map G.api_Txn.av h_0.Txns)] 0], rfl, .sm⟩, trivial⟩


theorem index_Readers__r_ok {W0 : World} (hT : Tab W0) {l : Nat} {rec : Loop} (hrec : RecAt rec Tryd.f65 0 30) {key_0 : Int} {from_1 : Int} {l_2 : List Int} {y_3 : G.index_read} {r : (List Int)} (h : G.index_Readers__r key_0 from_1 l_2 y_3 = some r) : Round3 Tryd.prog W0 1 l rec [(4, .pp [i64 key_0] 0), (5, .pp [i64 from_1] 0), (7, .ref 0 0 0)] [G.index_read.av y_3] ⟨2, [(0, (1, [.view 1 0 (List.map i64 l_2).length])), (1, (1, List.map i64 l_2))], [(l, rec)]⟩ true ⟨2, [(0, (1, [.view 1 0 (List.map i64 r).length])), (1, (1, List.map i64 r))], [(l, lpst rec .ret true)]⟩ := by
 refine round3_of_awp hrec rfl rfl rfl rfl (by decide) ?_
 unfold G.index_Readers__r at h
 show AWP _ _ _ _ ⟨[(11, G.index_read.av y_3), (4, .pp [i64 key_0] 0), (5, .pp [i64 from_1] 0), (7, .ref 0 0 0)], ⟨2, [(0, (1, [.view 1 0 (List.map i64 l_2).length])), (1, (1, List.map i64 l_2))], [(l, rec)]⟩⟩ _
 refine awp_reg rfl <| AR.op (r := .ref 2 0 0) rfl (aop_alloc 3 [.agg [i64 0, i64 0, i64 0]] rfl zr123 (by kernel_rfl) (.inl ⟨rfl, rfl⟩)) <| AR.op rfl (aop_store (e' := G.index_read.av y_3) rfl rfl rfl rfl rfl rfl sz123 rfl dt rfl) <| AR.nil <| ⟨rfl, rfl, ?_⟩
 refine AWP.weak (Weak.re (fr' := [(4, .pp [i64 key_0] 0), (5, .pp [i64 from_1] 0), (7, .ref 0 0 0), (8, .pp [i64 y_3.t, i64 y_3.Take.Key, i64 y_3.Take.From] 0)]) (H' := ⟨2, [(0, (1, [.view 1 0 (List.map i64 l_2).length])), (1, (1, List.map i64 l_2))], [(l, { rec with state := .busy })]⟩) [(0, 0), (1, 1)] [] rfl rfl rfl (.cons rfl rfl (.one (.view rfl) rfl) dt (.cons rfl rfl (.same (by simp)) dt trivial)) ⟨.k, .k, ⟨_, rfl, .ref rfl⟩, ⟨_, rfl, .frzA rfl rfl rfl rfl (by simp)⟩, trivial⟩) ?_
 show AWP _ _ _ _ ⟨[(4, .pp [i64 key_0] 0), (5, .pp [i64 from_1] 0), (7, .ref 0 0 0), (8, .pp [i64 y_3.t, i64 y_3.Take.Key, i64 y_3.Take.From] 0)], ⟨2, [(0, (1, [.view 1 0 (List.map i64 l_2).length])), (1, (1, List.map i64 l_2))], [(l, { rec with state := .busy })]⟩⟩ _
 refine awp_block <| awp_seqJ (fun (p : Bool) => (⟨[(7, .ref 0 0 0), (8, .pp [i64 y_3.t, i64 y_3.Take.Key, i64 y_3.Take.From] 0), (23, bl p)], ⟨2, [(0, (1, [.view 1 0 (List.map i64 l_2).length])), (1, (1, List.map i64 l_2))], [(l, { rec with state := .busy })]⟩⟩ : St)) (fun (p : Bool) => G.index_Readers__r_j1 l_2 y_3 p = some r) ?_ ?_
 ·rintro v6 h
  replace h : G.index_Readers__r_j1 l_2 y_3 v6 = some r := h
  unfold G.index_Readers__r_j1 at h
  refine awp_cond rfl (fun hb7 => ?_) (fun hb7 => ?_)
  ·replace h := Sh.if_t h hb7
   refine awp_reg rfl <| AR.op (r := .view 1 0 (List.map i64 l_2).length) rfl (aop_load_ref rfl rfl rfl rfl sz26 rfl) <| AR.op rfl (aop_field_pp rfl rfl fd123_0 (by decide)) <| AR.op (r := i64 y_3.t) rfl (aop_load_pp rfl rfl sz3 rfl) <| AR.keep [7, 24, 26] rfl <| AR.op (r := .clip (List.map i64 [y_3.t])) rfl (aop_buildSlice rfl (xo := [.tmp 26]) rfl rfl rfl (by simp [AV.solid]) (by simp [AV.flat]) el26 ze26 (by decide)) ?_
   obtain ⟨l8, hl8, h⟩ := Sh.bind_some' h
   refine AR.op (r := .view 2 0 (List.map i64 l8).length) rfl (t_app_view i64 l_2 [y_3.t] l8 hl8 rfl et26 (fun _ => rfl) rfl rfl rfl rfl rfl rfl rfl) <| AR.op rfl (aop_store (e' := .view 2 0 (List.map i64 l8).length) rfl rfl rfl rfl rfl rfl sz26 rfl dt rfl) <| AR.nil ?_
   obtain rfl := Option.some.inj h
   exact ⟨rfl, _, rfl, rfl, Weak.re [(0, 0), (1, 2)] [] rfl rfl rfl (.cons rfl rfl (.one (.view rfl) rfl) dt (.cons rfl rfl (.same (by simp)) dt trivial)) trivial⟩
  ·replace h := Sh.if_f h hb7
   refine awp_skip ?_
   obtain rfl := Option.some.inj h
   exact ⟨rfl, _, rfl, rfl, Weak.re [(0, 0), (1, 1)] [] rfl rfl rfl (.cons rfl rfl (.one (.view rfl) rfl) dt (.cons rfl rfl (.same (by simp)) dt trivial)) trivial⟩
 ·intro K1 hK1
  refine awp_reg rfl <| AR.op rfl (aop_field_pp rfl rfl fd123_1 (by decide)) <| AR.op rfl (aop_field_pp rfl rfl fd50_0 (by decide)) <| AR.op (r := i64 y_3.Take.Key) rfl (aop_load_pp rfl rfl sz3 rfl) <| AR.keep [4, 5, 7, 8, 14] rfl <| AR.op (r := i64 key_0) rfl (aop_load_pp rfl rfl sz3 rfl) <| AR.op (r := bl (decide (y_3.Take.Key = key_0))) rfl (aop_eql rfl rfl rfl) <| AR.op rfl (aop_move (.inl rfl) rfl) ?_
  refine AR.keep [5, 7, 8, 17] rfl ?_
  rcases Bool.eq_false_or_eq_true (decide (y_3.Take.Key = key_0)) with hb9 | hb9
  ·rw [hb9]
   replace h := Sh.if_t h hb9
   refine AR.op rfl (aop_field_pp rfl rfl fd123_1 (by decide)) <| AR.op rfl (aop_field_pp rfl rfl fd50_1 (by decide)) <| AR.op (r := i64 y_3.Take.From) rfl (aop_load_pp rfl rfl sz3 rfl) <| AR.keep [5, 7, 8, 17, 20] rfl <| AR.op (r := i64 from_1) rfl (aop_load_pp rfl rfl sz3 rfl) <| AR.op (r := bl (decide (y_3.Take.From = from_1))) rfl (aop_eql rfl rfl rfl) <| AR.op rfl (aop_pick rfl rfl rfl) <| AR.nil ?_
   exact hK1 (decide (y_3.Take.From = from_1)) _ h (Weak.kt [7, 8, 23] rfl)
  ·rw [hb9]
   replace h := Sh.if_f h hb9
   refine AR.skip rfl <| AR.skip rfl <| AR.skip rfl <| AR.keep [5, 7, 8, 17, 20] rfl <| AR.skip rfl <| AR.skip rfl <| AR.op rfl (aop_pick rfl rfl rfl) <| AR.nil ?_
   exact hK1 false _ h (Weak.kt [7, 8, 23] rfl)


theorem index_reads_1__index_Readers__r_ok {W0 : World} (hT : Tab W0) {l : Nat} {rec : Loop} (hrec : RecAt rec Tryd.f65 0 30) {key_0 : Int} {from_1 : Int} {l_2 : List Int} {c_3 : G.api_Hist} {r : (List Int)} (h : G.index_reads_1__index_Readers__r key_0 from_1 l_2 c_3 = some r) : Fun3 Tryd.prog (.it W0 1 rec [(4, .pp [i64 key_0] 0), (5, .pp [i64 from_1] 0), (7, .ref 0 0 0)]) 80 [.clo (.yield l) [], .pp [.sl (List.map G.api_Txn.av c_3.Txns)] 0] ⟨2, [(0, (1, [.view 1 0 (List.map i64 l_2).length])), (1, (1, List.map i64 l_2))], [(l, lpst rec .ret true)]⟩ (.tuple []) ⟨2, [(0, (1, [.view 1 0 (List.map i64 r).length])), (1, (1, List.map i64 r))], [(l, lpst rec .ret true)]⟩ := by
 refine fun3_of_awp rfl Tryd.func80 rfl (by kernel_rfl) Tryd.ntmps80 (by simp) ?_
 unfold G.index_reads_1__index_Readers__r at h
 show AWP _ _ _ _ ⟨[(0, .clo (.yield l) []), (1, .pp [.sl (List.map G.api_Txn.av c_3.Txns)] 0)], ⟨2, [(0, (1, [.view 1 0 (List.map i64 l_2).length])), (1, (1, List.map i64 l_2))], [(l, lpst rec .ret true)]⟩⟩ _
 refine awp_seqK fun K1 hK1 => awp_seqK fun K2 hK2 => awp_reg rfl <| AR.op (r := G.api_Hist.av c_3) rfl (aop_load_pp rfl rfl sz24 rfl) ?_
 obtain ⟨r54, hr54, h⟩ := Sh.bind_some' h
 refine AR.op (r := bl r54) rfl (aop_call1 rfl rfl (by simp) (hist_Right_ok hT hr54)) <| AR.op (r := bl (!r54)) rfl (aop_not rfl rfl) <| AR.nil <| hK2 _ (AWP.weak (Weak.kt [0, 1, 9] rfl) ?_)
 refine awp_cond rfl (fun hb55 => ?_) (fun hb55 => ?_)
 ·replace h := Sh.if_t h hb55
  refine awp_ret ?_
  obtain rfl := Option.some.inj h
  refine ⟨.inr rfl, .tuple [], rfl, ?_⟩
  exact Weak.re [(0, 0), (1, 1)] [] rfl rfl rfl (.cons rfl rfl (.one (.view rfl) rfl) dt (.cons rfl rfl (.same (by simp)) dt trivial)) ⟨⟨.tuple [], rfl, .tp trivial⟩, trivial⟩
 ·replace h := Sh.if_f h hb55
  refine awp_skip <| hK1 _ (AWP.weak (Weak.kt [0, 1] rfl) ?_)
  refine awp_seqK fun K3 hK3 => awp_reg rfl <| AR.op rfl (aop_field_pp rfl rfl fd24_0 (by decide)) <| AR.op (r := .sl (List.map G.api_Txn.av c_3.Txns)) rfl (aop_load_pp rfl rfl sz22 rfl) <| AR.op rfl (t_len_sl G.api_Txn.av c_3.Txns rfl rfl el22) <| AR.keep [0, 11, 12] rfl <| AR.op rfl (aop_move (.inl rfl) rfl) <| AR.nil ?_
  refine hK3 _ ?_
  refine awp_block <| awp_iter (fun (p : (List Int) × Int) => G.index_reads_1__index_Readers__r_b1 key_0 from_1 c_3 p.1 p.2) (fun (p : (List Int) × Int) => (⟨[(0, .clo (.yield l) []), (11, .sl (List.map G.api_Txn.av c_3.Txns)), (12, i64 (Sh.len c_3.Txns)), (13, i64 p.2)], ⟨2, [(0, (1, [.view 1 0 (List.map i64 p.1).length])), (1, (1, List.map i64 p.1))], [(l, lpst rec .ret true)]⟩⟩ : St)) h (Weak.kt [0, 11, 12, 13] rfl) ?_
  ·skip
   rintro ⟨c88, v89⟩ o1 h hx1
   replace h : G.index_reads_1__index_Readers__r_b1 key_0 from_1 c_3 c88 v89 = some o1 := h
   unfold G.index_reads_1__index_Readers__r_b1 at h
   refine awp_seqK fun K4 hK4 => awp_reg rfl <| AR.op rfl (aop_lss rfl rfl rfl) <| AR.nil <| hK4 _ ?_
   refine awp_seqK fun K5 hK5 => awp_cond rfl (fun hb90 => ?_) (fun hb90 => ?_)
   ·replace h := Sh.if_t h hb90
    refine awp_skip <| hK5 _ (AWP.weak (Weak.kt [0, 11, 12, 13] rfl) ?_)
    refine awp_seqJ (fun (p : (List Int)) => (⟨[(0, .clo (.yield l) []), (11, .sl (List.map G.api_Txn.av c_3.Txns)), (12, i64 (Sh.len c_3.Txns)), (13, i64 v89)], ⟨2, [(0, (1, [.view 1 0 (List.map i64 p).length])), (1, (1, List.map i64 p))], [(l, lpst rec .ret true)]⟩⟩ : St)) (fun (p : (List Int)) => G.index_reads_1__index_Readers__r_j1 v89 p = some o1) ?_ ?_
    ·rintro v106 h
     replace h : G.index_reads_1__index_Readers__r_j1 v89 v106 = some o1 := h
     unfold G.index_reads_1__index_Readers__r_j1 at h
     refine awp_reg rfl <| AR.op rfl (aop_add rfl rfl rfl rfl) <| AR.op rfl (aop_move (.inl rfl) rfl) <| AR.nil ?_
     replace h := Sh.next_eq h
     exact ⟨_, h, Weak.kt [0, 11, 12, 13] rfl⟩
    ·intro K6 hK6
     refine awp_block <| awp_seqK fun K7 hK7 => awp_reg rfl <| AR.op rfl (aop_move (.inl rfl) rfl) ?_
     obtain ⟨x109, hx109, h⟩ := Sh.bind_some' h
     obtain ⟨k110, hi110, hl110⟩ := Sh.idx_some hx109
     refine AR.op rfl (t_index_sl G.api_Txn.av c_3.Txns hi110 hl110 rfl rfl rfl el22 rfl) <| AR.op (r := G.api_Txn.av x109) rfl (aop_load_pp rfl rfl sz53 rfl) <| AR.keep [0, 11, 12, 13, 15, 17] rfl <| AR.op (r := .ref 2 0 0) rfl (aop_alloc 3 [.agg [i64 0, nilS, nilS]] rfl zr53 (by kernel_rfl) (.inl ⟨rfl, rfl⟩)) <| AR.op rfl (aop_move (.inr rfl) rfl) <| AR.op rfl (aop_store (e' := G.api_Txn.av x109) rfl rfl rfl rfl rfl rfl sz53 rfl dt rfl) <| AR.nil <| hK7 _ (AWP.weak (Weak.re (fr' := [(0, .clo (.yield l) []), (11, .sl (List.map G.api_Txn.av c_3.Txns)), (12, i64 (Sh.len c_3.Txns)), (13, i64 v89), (4, .pp [i64 x109.Session, .sl (List.map i64 x109.Writes), .sl (List.map G.api_Take.av x109.Reads)] 0), (3, i64 v89)]) (H' := ⟨2, [(0, (1, [.view 1 0 (List.map i64 c88).length])), (1, (1, List.map i64 c88))], [(l, lpst rec .ret true)]⟩) [(0, 0), (1, 1)] [] rfl rfl rfl (.cons rfl rfl (.one (.view rfl) rfl) dt (.cons rfl rfl (.same (by simp)) dt trivial)) ⟨.k, ⟨.sl (List.map G.api_Txn.av c_3.Txns), rfl, .sm⟩, .k, .k, ⟨_, rfl, .frzA rfl rfl rfl rfl (by simp)⟩, .k, trivial⟩) ?_)
     refine awp_seqK fun K8 hK8 => awp_reg rfl <| AR.op rfl (aop_field_pp rfl rfl fd53_2 (by decide)) <| AR.op (r := .sl (List.map G.api_Take.av x109.Reads)) rfl (aop_load_pp rfl rfl sz51 rfl) <| AR.op rfl (t_len_sl G.api_Take.av x109.Reads rfl rfl el51) <| AR.keep [0, 11, 12, 13, 3, 19, 20] rfl <| AR.op rfl (aop_move (.inl rfl) rfl) <| AR.nil ?_
     refine hK8 _ ?_
     refine awp_block <| awp_iter (fun (p : (List Int) × Int) => G.index_reads_1__index_Readers__r_b2 key_0 from_1 v89 x109 p.1 p.2) (fun (p : (List Int) × Int) => (⟨[(0, .clo (.yield l) []), (11, .sl (List.map G.api_Txn.av c_3.Txns)), (12, i64 (Sh.len c_3.Txns)), (13, i64 v89), (3, i64 v89), (19, .sl (List.map G.api_Take.av x109.Reads)), (20, i64 (Sh.len x109.Reads)), (21, i64 p.2)], ⟨2, [(0, (1, [.view 1 0 (List.map i64 p.1).length])), (1, (1, List.map i64 p.1))], [(l, lpst rec .ret true)]⟩⟩ : St)) h (Weak.kt [0, 11, 12, 13, 3, 19, 20, 21] rfl) ?_
     ·skip
      rintro ⟨c119, v120⟩ o2 h hx2
      replace h : G.index_reads_1__index_Readers__r_b2 key_0 from_1 v89 x109 c119 v120 = some o2 := h
      unfold G.index_reads_1__index_Readers__r_b2 at h
      refine awp_seqK fun K9 hK9 => awp_reg rfl <| AR.op rfl (aop_lss rfl rfl rfl) <| AR.nil <| hK9 _ ?_
      refine awp_seqK fun K10 hK10 => awp_cond rfl (fun hb121 => ?_) (fun hb121 => ?_)
      ·replace h := Sh.if_t h hb121
       refine awp_skip <| hK10 _ (AWP.weak (Weak.kt [0, 11, 12, 13, 3, 19, 20, 21] rfl) ?_)
       refine awp_seqK fun K11 hK11 => awp_block <| awp_seqK fun K12 hK12 => awp_reg rfl ?_
       obtain ⟨x127, hx127, h⟩ := Sh.bind_some' h
       obtain ⟨k128, hi128, hl128⟩ := Sh.idx_some hx127
       refine AR.op rfl (t_index_sl G.api_Take.av x109.Reads hi128 hl128 rfl rfl rfl el51 rfl) <| AR.op (r := G.api_Take.av x127) rfl (aop_load_pp rfl rfl sz50 rfl) <| AR.op (r := .ref 2 0 0) rfl (aop_alloc 2 [.agg [i64 0, i64 0]] rfl zr50 (by kernel_rfl) (.inl ⟨rfl, rfl⟩)) <| AR.keep [0, 11, 12, 13, 3, 19, 20, 21, 24, 6] rfl <| AR.op rfl (aop_store (e' := G.api_Take.av x127) rfl rfl rfl rfl rfl rfl sz50 rfl dt rfl) <| AR.nil <| hK12 _ (AWP.weak (Weak.re (fr' := [(0, .clo (.yield l) []), (11, .sl (List.map G.api_Txn.av c_3.Txns)), (12, i64 (Sh.len c_3.Txns)), (13, i64 v89), (3, i64 v89), (19, .sl (List.map G.api_Take.av x109.Reads)), (20, i64 (Sh.len x109.Reads)), (21, i64 v120), (6, .pp [i64 x127.Key, i64 x127.From] 0)]) (H' := ⟨2, [(0, (1, [.view 1 0 (List.map i64 c119).length])), (1, (1, List.map i64 c119))], [(l, lpst rec .ret true)]⟩) [(0, 0), (1, 1)] [] rfl rfl rfl (.cons rfl rfl (.one (.view rfl) rfl) dt (.cons rfl rfl (.same (by simp)) dt trivial)) ⟨.k, ⟨.sl (List.map G.api_Txn.av c_3.Txns), rfl, .sm⟩, .k, .k, .k, ⟨.sl (List.map G.api_Take.av x109.Reads), rfl, .sm⟩, .k, .k, ⟨_, rfl, .frzA rfl rfl rfl rfl (by simp)⟩, trivial⟩) ?_)
       refine awp_seqK fun K13 hK13 => awp_reg rfl <| AR.op rfl (aop_move (.inl rfl) rfl) <| AR.op rfl (aop_move (.inl rfl) rfl) <| AR.op (r := G.api_Take.av x127) rfl (aop_load_pp rfl rfl sz50 rfl) <| AR.keep [0, 11, 12, 13, 3, 19, 20, 21, 25, 26, 27] rfl <| AR.op (r := .agg [i64 v89, i64 x127.Key, i64 x127.From]) rfl (aop_build rfl bd123 rfl rfl rfl) ?_
       obtain ⟨y130, hy130, h⟩ := Sh.bind_some' h
       refine AR.opI (r := bl true) rfl (aop_yield3 (ok := NoId) (ys := [.agg [i64 v89, i64 x127.Key, i64 x127.From]]) (xs := [G.index_read.av (G.index_read.mk v89 (G.api_Take.mk x127.Key x127.From))]) (Hs := ⟨2, [(0, (1, [.view 1 0 (List.map i64 c119).length])), (1, (1, List.map i64 c119))], [(l, rec)]⟩) (H' := ⟨4, [(0, (1, [.view 3 0 (List.map i64 y130).length])), (3, (1, List.map i64 y130))], [(l, lpst rec .ret true)]⟩) (g := [(0, 0), (1, 1)]) (m := [(0, 0), (1, 3)]) (nw := []) (p := 1) rfl rfl rfl (index_Readers__r_ok hT hrec hy130) hrec rfl (by rw [hrec.params rfl]; rfl) { next := rfl, part := ⟨rfl, rfl, trivial⟩, inj := rfl, lt := rfl, nwf := rfl, gin := rfl, held := .cons rfl rfl (.one (.view rfl) rfl) dt (.cons rfl rfl (.same (by simp)) dt trivial), seen := ⟨⟨.agg [i64 v89, i64 x127.Key, i64 x127.From], rfl, .sm⟩, trivial⟩, inlps := rfl, ple := rfl, map := rfl, next' := rfl, back := .new 0 rfl rfl (.one ⟨.view rfl, trivial⟩) (.new 1 rfl rfl (.same (by simp [AV.flat])) trivial), lps := .inr ⟨rfl, rfl⟩, mode := .inr ⟨fun _ h => h, rfl⟩, ren := .sm } rfl rfl rfl) ?_
       refine AR.op (r := bl false) rfl (aop_not (b := true) rfl rfl) <| AR.nil <| hK13 _ (AWP.weak (Weak.re (fr' := [(0, .clo (.yield l) []), (11, .sl (List.map G.api_Txn.av c_3.Txns)), (12, i64 (Sh.len c_3.Txns)), (13, i64 v89), (3, i64 v89), (19, .sl (List.map G.api_Take.av x109.Reads)), (20, i64 (Sh.len x109.Reads)), (21, i64 v120), (30, bl false)]) (H' := ⟨2, [(0, (1, [.view 1 0 (List.map i64 y130).length])), (1, (1, List.map i64 y130))], [(l, lpst rec .ret true)]⟩) [(0, 0), (1, 3)] [] rfl rfl rfl (.cons rfl rfl (.one (.view rfl) rfl) dt (.cons rfl rfl (.same (by simp)) dt trivial)) ⟨.k, ⟨.sl (List.map G.api_Txn.av c_3.Txns), rfl, .sm⟩, .k, .k, .k, ⟨.sl (List.map G.api_Take.av x109.Reads), rfl, .sm⟩, .k, .k, .k, trivial⟩) ?_)
       refine awp_cond_f rfl ?_
       refine awp_skip <| hK11 _ (AWP.weak (Weak.kt [0, 11, 12, 13, 3, 19, 20, 21] rfl) ?_)
       refine awp_reg rfl <| AR.op rfl (aop_add rfl rfl rfl rfl) <| AR.op rfl (aop_move (.inl rfl) rfl) <| AR.nil ?_
       replace h := Sh.next_eq h
       exact ⟨_, h, Weak.kt [0, 11, 12, 13, 3, 19, 20, 21] rfl⟩
      ·replace h := Sh.if_f h hb121
       refine awp_exit ?_
       replace h := Sh.exit_eq h hx2
       exact hK6 c119 _ h (Weak.kt [0, 11, 12, 13] rfl)
   ·replace h := Sh.if_f h hb90
    refine awp_exit ?_
    replace h := Sh.exit_eq h hx1
    obtain rfl := Option.some.inj h
    refine ⟨.inl rfl, .tuple [], rfl, ?_⟩
    exact Weak.re [(0, 0), (1, 1)] [] rfl rfl rfl (.cons rfl rfl (.one (.view rfl) rfl) dt (.cons rfl rfl (.same (by simp)) dt trivial)) ⟨⟨.tuple [], rfl, .tp trivial⟩, trivial⟩


theorem index_Readers_own {W0 : World} (hT : Tab W0) {h_0 : G.api_Hist} {key_1 : Int} {from_2 : Int} {r : (List Int)} (h : G.index_Readers h_0 key_1 from_2 = some r) : Fun2 Tryd.prog W0 65 [G.api_Hist.av h_0, i64 key_1, i64 from_2] (.view 0 0 (List.map i64 r).length) ⟨1, [(0, (1, List.map i64 r))], []⟩ := by
 refine fun2_of_awp Tryd.func65 rfl (by kernel_rfl) Tryd.ntmps65 (by simp) ?_
 unfold G.index_Readers at h
 show AWP _ _ _ _ ⟨[(0, G.api_Hist.av h_0), (1, i64 key_1), (2, i64 from_2)], .empty⟩ _
 refine awp_seqK fun K1 hK1 => awp_reg rfl <| AR.op (r := .ref 0 0 0) rfl (aop_box 1 [G.api_Hist.av h_0] rfl rfl rfl (.inl ⟨rfl, rfl⟩)) <| AR.op (r := .ref 1 0 0) rfl (aop_box 1 [i64 key_1] rfl rfl rfl (.inl ⟨rfl, rfl⟩)) <| AR.op (r := .ref 2 0 0) rfl (aop_box 1 [i64 from_2] rfl rfl rfl (.inl ⟨rfl, rfl⟩)) <| AR.keep [3, 4, 5] rfl <| AR.op rfl (aop_move (.inr rfl) rfl) <| AR.nil ?_
 refine hK1 _ (AWP.weak (Weak.e (fr' := [(3, .pp [.sl (List.map G.api_Txn.av h_0.Txns)] 0), (4, .pp [i64 key_1] 0), (5, .pp [i64 from_2] 0)]) (H' := .empty) ⟨⟨_, rfl, .frzA rfl rfl rfl rfl (by simp)⟩, ⟨_, rfl, .frzA rfl rfl rfl rfl (by simp)⟩, ⟨_, rfl, .frzA rfl rfl rfl rfl (by simp)⟩, trivial⟩) ?_)
 refine awp_seqK fun K2 hK2 => awp_reg rfl <| AR.op (r := .ref 0 0 0) rfl (aop_alloc 1 [nilS] rfl zr26 rfl (.inl ⟨rfl, rfl⟩)) <| AR.nil <| hK2 _ ?_
 refine awp_seqK fun K3 hK3 => awp_seqK fun K4 hK4 => awp_reg rfl <| AR.op (r := G.api_Hist.av h_0) rfl (aop_load_pp rfl rfl sz24 rfl) ?_
 obtain ⟨r8, hr8, h⟩ := Sh.bind_some' h
 refine AR.op (r := .clo (.func 80) [.pp [.sl (List.map G.api_Txn.av h_0.Txns)] 0]) rfl (aop_call3E (ok := NoId) (ys := [G.api_Hist.av h_0]) (xs := [G.api_Hist.av h_0]) (r' := .clo (.func 80) [.pp [.sl (List.map G.api_Txn.av h_0.Txns)] 0]) (Hs := ⟨1, [], []⟩) (H' := ⟨1, [(0, (1, [nilS]))], []⟩) (g := []) (m := []) (nw := []) (p := 0) (.func rfl rfl (index_reads_ok hT hr8).call) (index_reads_ok hT hr8) { next := rfl, part := trivial, inj := rfl, lt := rfl, nwf := rfl, gin := rfl, held := trivial, seen := ⟨⟨G.api_Hist.av h_0, rfl, .sm⟩, trivial⟩, inlps := rfl, ple := rfl, map := rfl, next' := rfl, back := .kept rfl rfl trivial, lps := .inl ⟨rfl, rfl⟩, mode := .inr ⟨fun _ h => h, rfl⟩, ren := .sm } rfl) <| AR.nil <| hK4 _ (AWP.weak (Weak.kt [4, 5, 7, 10] rfl) ?_)
 refine awp_block ?_
 obtain ⟨it9, hit9, h⟩ := Sh.bind_some' h
 refine awp_range (ok := NoId) (j := .ret) (b := true) (frl := [(4, .pp [i64 key_1] 0), (5, .pp [i64 from_2] 0), (7, .ref 0 0 0)]) (fn := Tryd.f65) (k := 0) (p := 1) (xs := [.pp [.sl (List.map G.api_Txn.av h_0.Txns)] 0]) (r := .tuple []) (Hs := ⟨1, [(0, (1, [nilS]))], []⟩) (Hin := ⟨2, [(0, (1, [.view 1 0 (List.map i64 []).length])), (1, (1, List.map i64 []))], []⟩) (Hout := ⟨2, [(0, (1, [.view 1 0 (List.map i64 it9).length])), (1, (1, List.map i64 it9))], []⟩) (H' := ⟨3, [(0, (1, [.view 2 0 (List.map i64 it9).length])), (2, (1, List.map i64 it9))], []⟩) (g := [(0, 0)]) (m := [(0, 0), (1, 2)]) (nw := [1]) rfl rfl rfl ca80 rfl (UnderL.spec ⟨.noid (by simp), .noid (by simp), .ref _ _ _ (by decide), trivial⟩) ⟨⟨_, rfl, .sm⟩, ⟨_, rfl, .sm⟩, ⟨_, rfl, .ref rfl⟩, trivial⟩ (fun l rec hrec => index_reads_1__index_Readers__r_ok hT hrec hit9) (fun l rec => { next := rfl, part := ⟨rfl, trivial⟩, inj := rfl, lt := rfl, nwf := rfl, gin := rfl, held := .cons rfl rfl (.one (.nil (by simp)) rfl) dt (.fresh (by simp) dt trivial), seen := ⟨⟨_, rfl, .sm⟩, ⟨_, rfl, .sm⟩, trivial⟩, inlps := rfl, ple := rfl, map := rfl, next' := rfl, back := .new 0 rfl rfl (.one ⟨.view rfl, trivial⟩) (.new 1 rfl rfl (.same (by simp [AV.flat])) trivial), lps := .inr ⟨rfl, rfl⟩, mode := .inr ⟨fun _ h => h, rfl⟩, ren := .any _ }) rfl (fun _ => ?_) (fun hb => by cases hb)
 refine hK3 _ (AWP.weak (Weak.re (fr' := [(7, .ref 0 0 0)]) (H' := ⟨2, [(0, (1, [.view 1 0 (List.map i64 it9).length])), (1, (1, List.map i64 it9))], []⟩) [(0, 0), (1, 2)] [] rfl rfl rfl (.cons rfl rfl (.one (.view rfl) rfl) dt (.cons rfl rfl (.same (by simp)) dt trivial)) ⟨⟨_, rfl, .ref rfl⟩, trivial⟩) ?_)
 refine awp_seqK fun K5 hK5 => awp_reg rfl <| AR.op (r := .view 1 0 (List.map i64 it9).length) rfl (aop_load_ref rfl rfl rfl rfl sz26 rfl) <| AR.op rfl (aop_move (.inr rfl) rfl) <| AR.nil <| hK5 _ (AWP.weak (Weak.re (fr' := [(6, .view 0 0 (List.map i64 it9).length)]) (H' := ⟨1, [(0, (1, List.map i64 it9))], []⟩) [(0, 1)] [] rfl rfl rfl (.cons rfl rfl (.same (by simp)) dt trivial) ⟨⟨_, rfl, .view rfl⟩, trivial⟩) ?_)
 refine awp_ret ?_
 obtain rfl := Option.some.inj h
 refine ⟨.inr rfl, .view 0 0 (List.map i64 it9).length, rfl, ?_⟩
 exact Weak.re [(0, 0)] [] rfl rfl rfl (.cons rfl rfl (.same (by simp)) dt trivial) ⟨⟨_, rfl, .view rfl⟩, trivial⟩
theorem index_Readers_ok {W0 : World} (hT : Tab W0) {h_0 : G.api_Hist} {key_1 : Int} {from_2 : Int} {r : (List Int)} (h : G.index_Readers h_0 key_1 from_2 = some r) : Fun1 Tryd.prog W0 65 [G.api_Hist.av h_0, i64 key_1, i64 from_2] (.sl (List.map i64 r)) :=
 (index_Readers_own hT h).give (Weak.e ⟨⟨_, rfl, .lendAll rfl rfl (by simp)⟩, trivial⟩) (by simp)


theorem index_Writers_own {W0 : World} (hT : Tab W0) {h_0 : G.api_Hist} {key_1 : Int} {r : (List Int)} (h : G.index_Writers h_0 key_1 = some r) : Fun2 Tryd.prog W0 66 [G.api_Hist.av h_0, i64 key_1] (.view 0 0 (List.map i64 r).length) ⟨1, [(0, (1, List.map i64 r))], []⟩ := by
 refine fun2_of_awp Tryd.func66 rfl (by kernel_rfl) Tryd.ntmps66 (by simp) ?_
 unfold G.index_Writers at h
 show AWP _ _ _ _ ⟨[(0, G.api_Hist.av h_0), (1, i64 key_1)], .empty⟩ _
 refine awp_seqK fun K1 hK1 => awp_reg rfl <| AR.op (r := .ref 0 0 0) rfl (aop_box 1 [G.api_Hist.av h_0] rfl rfl rfl (.inl ⟨rfl, rfl⟩)) <| AR.op rfl (aop_move (.inr rfl) rfl) <| AR.nil <| hK1 _ (AWP.weak (Weak.e (fr' := [(1, i64 key_1), (2, .pp [.sl (List.map G.api_Txn.av h_0.Txns)] 0)]) (H' := .empty) ⟨.k, ⟨_, rfl, .frzA rfl rfl rfl rfl (by simp)⟩, trivial⟩) ?_)
 refine awp_seqK fun K2 hK2 => awp_seqK fun K3 hK3 => awp_reg rfl <| AR.op (r := G.api_Hist.av h_0) rfl (aop_load_pp rfl rfl sz24 rfl) ?_
 obtain ⟨r23, hr23, h⟩ := Sh.bind_some' h
 refine AR.op (r := bl r23) rfl (aop_call1 rfl rfl (by simp) (hist_Right_ok hT hr23)) <| AR.op (r := bl (!r23)) rfl (aop_not rfl rfl) <| AR.nil <| hK3 _ (AWP.weak (Weak.kt [1, 2, 10] rfl) ?_)
 refine awp_cond rfl (fun hb24 => ?_) (fun hb24 => ?_)
 ·replace h := Sh.if_t h hb24
  refine awp_seqK fun K4 hK4 => awp_reg rfl <| AR.op rfl (aop_move (.inr rfl) rfl) <| AR.nil <| hK4 _ (AWP.weak (Weak.kt [4] rfl) ?_)
  refine awp_ret ?_
  obtain rfl := Option.some.inj h
  refine ⟨.inr rfl, nilS, rfl, ?_⟩
  exact Weak.re [] [0] rfl rfl rfl (.fresh (by simp) dt trivial) ⟨⟨_, rfl, .nil (by simp)⟩, trivial⟩
 ·replace h := Sh.if_f h hb24
  refine awp_skip <| hK2 _ (AWP.weak (Weak.kt [1, 2] rfl) ?_)
  refine awp_seqK fun K5 hK5 => awp_reg rfl <| AR.op rfl (aop_move (.inr rfl) rfl) <| AR.nil <| hK5 _ ?_
  refine awp_seqJ (fun (p : (List Int)) => (⟨[(5, .view 0 0 (List.map i64 p).length)], ⟨1, [(0, (1, List.map i64 p))], []⟩⟩ : St)) (fun (p : (List Int)) => G.index_Writers_j1 p = some r) ?_ ?_
  ·rintro out44 h
   replace h : G.index_Writers_j1 out44 = some r := h
   unfold G.index_Writers_j1 at h
   refine awp_seqK fun K6 hK6 => awp_reg rfl <| AR.op rfl (aop_move (.inl rfl) rfl) <| AR.op rfl (aop_move (.inr rfl) rfl) <| AR.nil <| hK6 _ (AWP.weak (Weak.kt [4] rfl) ?_)
   refine awp_ret ?_
   obtain rfl := Option.some.inj h
   refine ⟨.inr rfl, .view 0 0 (List.map i64 out44).length, rfl, ?_⟩
   exact Weak.re [(0, 0)] [] rfl rfl rfl (.cons rfl rfl (.same (by simp)) dt trivial) ⟨⟨_, rfl, .view rfl⟩, trivial⟩
  ·intro K7 hK7
   refine awp_seqK fun K8 hK8 => awp_reg rfl <| AR.op rfl (aop_field_pp rfl rfl fd24_0 (by decide)) <| AR.op (r := .sl (List.map G.api_Txn.av h_0.Txns)) rfl (aop_load_pp rfl rfl sz22 rfl) <| AR.op rfl (t_len_sl G.api_Txn.av h_0.Txns rfl rfl el22) <| AR.keep [1, 5, 12, 13] rfl <| AR.op rfl (aop_move (.inl rfl) rfl) <| AR.nil ?_
   refine hK8 _ ?_
   refine awp_block <| awp_iter (fun (p : (List Int) × Int) => G.index_Writers_b1 h_0 key_1 p.1 p.2) (fun (p : (List Int) × Int) => (⟨[(1, i64 key_1), (5, .view 0 0 (List.map i64 p.1).length), (12, .sl (List.map G.api_Txn.av h_0.Txns)), (13, i64 (Sh.len h_0.Txns)), (14, i64 p.2)], ⟨1, [(0, (1, List.map i64 p.1))], []⟩⟩ : St)) h (Weak.re [] [0] rfl rfl rfl (.fresh (by simp) dt trivial) ⟨.k, ⟨_, rfl, .nil (by simp)⟩, ⟨.sl (List.map G.api_Txn.av h_0.Txns), rfl, .sm⟩, .k, .k, trivial⟩) ?_
   ·skip
    rintro ⟨out57, v58⟩ o1 h hx1
    replace h : G.index_Writers_b1 h_0 key_1 out57 v58 = some o1 := h
    unfold G.index_Writers_b1 at h
    refine awp_seqK fun K9 hK9 => awp_reg rfl <| AR.op rfl (aop_lss rfl rfl rfl) <| AR.nil <| hK9 _ ?_
    refine awp_seqK fun K10 hK10 => awp_cond rfl (fun hb59 => ?_) (fun hb59 => ?_)
    ·replace h := Sh.if_t h hb59
     refine awp_skip <| hK10 _ (AWP.weak (Weak.kt [1, 5, 12, 13, 14] rfl) ?_)
     refine awp_seqJ (fun (p : (List Int)) => (⟨[(1, i64 key_1), (12, .sl (List.map G.api_Txn.av h_0.Txns)), (13, i64 (Sh.len h_0.Txns)), (14, i64 v58), (5, .view 0 0 (List.map i64 p).length)], ⟨1, [(0, (1, List.map i64 p))], []⟩⟩ : St)) (fun (p : (List Int)) => G.index_Writers_j2 v58 p = some o1) ?_ ?_
     ·rintro out64 h
      replace h : G.index_Writers_j2 v58 out64 = some o1 := h
      unfold G.index_Writers_j2 at h
      refine awp_reg rfl <| AR.op rfl (aop_add rfl rfl rfl rfl) <| AR.op rfl (aop_move (.inl rfl) rfl) <| AR.nil ?_
      replace h := Sh.next_eq h
      exact ⟨_, h, Weak.kt [1, 5, 12, 13, 14] rfl⟩
     ·intro K11 hK11
      refine awp_block <| awp_seqK fun K12 hK12 => awp_reg rfl <| AR.op rfl (aop_move (.inl rfl) rfl) ?_
      obtain ⟨x67, hx67, h⟩ := Sh.bind_some' h
      obtain ⟨k68, hi68, hl68⟩ := Sh.idx_some hx67
      refine AR.op rfl (t_index_sl G.api_Txn.av h_0.Txns hi68 hl68 rfl rfl rfl el22 rfl) <| AR.op (r := G.api_Txn.av x67) rfl (aop_load_pp rfl rfl sz53 rfl) <| AR.keep [1, 5, 12, 13, 14, 16, 18] rfl <| AR.op (r := .ref 1 0 0) rfl (aop_alloc 3 [.agg [i64 0, nilS, nilS]] rfl zr53 (by kernel_rfl) (.inl ⟨rfl, rfl⟩)) <| AR.op rfl (aop_move (.inr rfl) rfl) <| AR.op rfl (aop_store (e' := G.api_Txn.av x67) rfl rfl rfl rfl rfl rfl sz53 rfl dt rfl) <| AR.nil <| hK12 _ (AWP.weak (Weak.re (fr' := [(1, i64 key_1), (5, .view 0 0 (List.map i64 out57).length), (12, .sl (List.map G.api_Txn.av h_0.Txns)), (13, i64 (Sh.len h_0.Txns)), (14, i64 v58), (7, .pp [i64 x67.Session, .sl (List.map i64 x67.Writes), .sl (List.map G.api_Take.av x67.Reads)] 0), (6, i64 v58)]) (H' := ⟨1, [(0, (1, List.map i64 out57))], []⟩) [(0, 0)] [] rfl rfl rfl (.cons rfl rfl (.same (by simp)) dt trivial) ⟨.k, ⟨_, rfl, .view rfl⟩, ⟨.sl (List.map G.api_Txn.av h_0.Txns), rfl, .sm⟩, .k, .k, ⟨_, rfl, .frzA rfl rfl rfl rfl (by simp)⟩, .k, trivial⟩) ?_)
      refine awp_seqK fun K13 hK13 => awp_reg rfl <| AR.op rfl (aop_field_pp rfl rfl fd53_1 (by decide)) <| AR.op (r := .sl (List.map i64 x67.Writes)) rfl (aop_load_pp rfl rfl sz26 rfl) <| AR.op rfl (aop_move (.inl rfl) rfl) <| AR.keep [1, 5, 12, 13, 14, 6, 20, 21] rfl ?_
      obtain ⟨r70, hr70, h⟩ := Sh.bind_some' h
      refine AR.op (r := bl r70) rfl (aop_call1 rfl rfl (by simp) (slices_Contains_int_int_ok hT hr70)) <| AR.nil <| hK13 _ (AWP.weak (Weak.kt [1, 5, 12, 13, 14, 6, 22] rfl) ?_)
      refine awp_cond rfl (fun hb71 => ?_) (fun hb71 => ?_)
      ·replace h := Sh.if_t h hb71
       refine awp_reg rfl <| AR.op rfl (aop_move (.inl rfl) rfl) <| AR.op rfl (aop_move (.inl rfl) rfl) <| AR.op (r := .clip (List.map i64 [v58])) rfl (aop_buildSlice rfl (xo := [.tmp 24]) rfl rfl rfl (by simp [AV.solid]) (by simp [AV.flat]) el26 ze26 (by decide)) <| AR.keep [1, 12, 13, 14, 23, 25] rfl ?_
       obtain ⟨out72, hout72, h⟩ := Sh.bind_some' h
       refine AR.op (r := .view 1 0 (List.map i64 out72).length) rfl (t_app_view i64 out57 [v58] out72 hout72 rfl et26 (fun _ => rfl) rfl rfl rfl rfl rfl rfl rfl) <| AR.op rfl (aop_move (.inr rfl) rfl) <| AR.nil ?_
       exact hK11 out72 _ h (Weak.re [(0, 1)] [] rfl rfl rfl (.cons rfl rfl (.same (by simp)) dt trivial) ⟨.k, ⟨.sl (List.map G.api_Txn.av h_0.Txns), rfl, .sm⟩, .k, .k, ⟨_, rfl, .view rfl⟩, trivial⟩)
      ·replace h := Sh.if_f h hb71
       refine awp_skip ?_
       exact hK11 out57 _ h (Weak.kt [1, 12, 13, 14, 5] rfl)
    ·replace h := Sh.if_f h hb59
     refine awp_exit ?_
     replace h := Sh.exit_eq h hx1
     exact hK7 out57 _ h (Weak.kt [5] rfl)
theorem index_Writers_ok {W0 : World} (hT : Tab W0) {h_0 : G.api_Hist} {key_1 : Int} {r : (List Int)} (h : G.index_Writers h_0 key_1 = some r) : Fun1 Tryd.prog W0 66 [G.api_Hist.av h_0, i64 key_1] (.sl (List.map i64 r)) :=
 (index_Writers_own hT h).give (Weak.e ⟨⟨_, rfl, .lendAll rfl rfl (by simp)⟩, trivial⟩) (by simp)


theorem index_Pairs_own {W0 : World} (hT : Tab W0) {h_0 : G.api_Hist} {r : (List G.api_Choice)} (h : G.index_Pairs h_0 = some r) : Fun2 Tryd.prog W0 42 [G.api_Hist.av h_0] (.view 0 0 (List.map G.api_Choice.av r).length) ⟨1, [(0, (3, List.map G.api_Choice.av r))], []⟩ := by
 refine fun2_of_awp Tryd.func42 rfl (by kernel_rfl) Tryd.ntmps42 (by simp) ?_
 unfold G.index_Pairs at h
 show AWP _ _ _ _ ⟨[(0, G.api_Hist.av h_0)], .empty⟩ _
 refine awp_seqK fun K1 hK1 => awp_reg rfl <| AR.op (r := .ref 0 0 0) rfl (aop_box 1 [G.api_Hist.av h_0] rfl rfl rfl (.inl ⟨rfl, rfl⟩)) <| AR.op rfl (aop_move (.inr rfl) rfl) <| AR.nil <| hK1 _ (AWP.weak (Weak.e (fr' := [(1, .pp [.sl (List.map G.api_Txn.av h_0.Txns)] 0)]) (H' := .empty) ⟨⟨_, rfl, .frzA rfl rfl rfl rfl (by simp)⟩, trivial⟩) ?_)
 refine awp_seqK fun K2 hK2 => awp_reg rfl <| AR.op rfl (aop_move (.inr rfl) rfl) <| AR.nil <| hK2 _ ?_
 refine awp_seqJ (fun (p : (List G.api_Choice)) => (⟨[(3, .view 0 0 (List.map G.api_Choice.av p).length)], ⟨1, [(0, (3, List.map G.api_Choice.av p))], []⟩⟩ : St)) (fun (p : (List G.api_Choice)) => G.index_Pairs_j1 p = some r) ?_ ?_
 ·rintro out341 h
  replace h : G.index_Pairs_j1 out341 = some r := h
  unfold G.index_Pairs_j1 at h
  refine awp_seqK fun K3 hK3 => awp_reg rfl <| AR.op rfl (aop_move (.inl rfl) rfl) <| AR.op rfl (aop_move (.inr rfl) rfl) <| AR.nil <| hK3 _ (AWP.weak (Weak.kt [2] rfl) ?_)
  refine awp_ret ?_
  obtain rfl := Option.some.inj h
  refine ⟨.inr rfl, .view 0 0 (List.map G.api_Choice.av out341).length, rfl, ?_⟩
  exact Weak.re [(0, 0)] [] rfl rfl rfl (.cons rfl rfl (.same (by simp)) dt trivial) ⟨⟨_, rfl, .view rfl⟩, trivial⟩
 ·intro K4 hK4
  refine awp_seqK fun K5 hK5 => awp_reg rfl <| AR.op (r := G.api_Hist.av h_0) rfl (aop_load_pp rfl rfl sz24 rfl) ?_
  obtain ⟨r343, hr343, h⟩ := Sh.bind_some' h
  refine AR.op (r := .sl (List.map i64 r343)) rfl (aop_call1 rfl rfl (by simp) (index_Keys_ok hT hr343)) <| AR.op rfl (t_len_sl i64 r343 rfl rfl el26) <| AR.keep [1, 3, 12, 13] rfl <| AR.op rfl (aop_move (.inl rfl) rfl) <| AR.nil <| hK5 _ ?_
  refine awp_block <| awp_iter (fun (p : (List G.api_Choice) × Int) => G.index_Pairs_b1 h_0 r343 p.1 p.2) (fun (p : (List G.api_Choice) × Int) => (⟨[(1, .pp [.sl (List.map G.api_Txn.av h_0.Txns)] 0), (3, .view 0 0 (List.map G.api_Choice.av p.1).length), (12, .sl (List.map i64 r343)), (13, i64 (Sh.len r343)), (14, i64 p.2)], ⟨1, [(0, (3, List.map G.api_Choice.av p.1))], []⟩⟩ : St)) h (Weak.re [] [0] rfl rfl rfl (.fresh (by simp) dt trivial) ⟨.k, ⟨_, rfl, .nil (by simp)⟩, ⟨.sl (List.map i64 r343), rfl, .sm⟩, .k, .k, trivial⟩) ?_
  ·skip
   rintro ⟨out456, v457⟩ o1 h hx1
   replace h : G.index_Pairs_b1 h_0 r343 out456 v457 = some o1 := h
   unfold G.index_Pairs_b1 at h
   refine awp_seqK fun K6 hK6 => awp_reg rfl <| AR.op rfl (aop_lss rfl rfl rfl) <| AR.nil <| hK6 _ ?_
   refine awp_seqK fun K7 hK7 => awp_cond rfl (fun hb458 => ?_) (fun hb458 => ?_)
   ·replace h := Sh.if_t h hb458
    refine awp_skip <| hK7 _ (AWP.weak (Weak.kt [1, 3, 12, 13, 14] rfl) ?_)
    refine awp_seqJ (fun (p : (List G.api_Choice)) => (⟨[(1, .pp [.sl (List.map G.api_Txn.av h_0.Txns)] 0), (3, .view 0 0 (List.map G.api_Choice.av p).length), (12, .sl (List.map i64 r343)), (13, i64 (Sh.len r343)), (14, i64 v457)], ⟨1, [(0, (3, List.map G.api_Choice.av p))], []⟩⟩ : St)) (fun (p : (List G.api_Choice)) => G.index_Pairs_j2 v457 p = some o1) ?_ ?_
    ·rintro out514 h
     replace h : G.index_Pairs_j2 v457 out514 = some o1 := h
     unfold G.index_Pairs_j2 at h
     refine awp_reg rfl <| AR.op rfl (aop_add rfl rfl rfl rfl) <| AR.op rfl (aop_move (.inl rfl) rfl) <| AR.nil ?_
     replace h := Sh.next_eq h
     exact ⟨_, h, Weak.kt [1, 3, 12, 13, 14] rfl⟩
    ·intro K8 hK8
     refine awp_block <| awp_seqK fun K9 hK9 => awp_reg rfl ?_
     obtain ⟨x517, hx517, h⟩ := Sh.bind_some' h
     obtain ⟨k518, hi518, hl518⟩ := Sh.idx_some hx517
     refine AR.op rfl (t_index_sl i64 r343 hi518 hl518 rfl rfl rfl el26 rfl) <| AR.op (r := i64 x517) rfl (aop_load_pp rfl rfl sz3 rfl) <| AR.op rfl (aop_move (.inr rfl) rfl) <| AR.nil <| hK9 _ (AWP.weak (Weak.kt [1, 3, 12, 13, 14, 5] rfl) ?_)
     refine awp_seqK fun K10 hK10 => awp_reg rfl <| AR.op (r := G.api_Hist.av h_0) rfl (aop_load_pp rfl rfl sz24 rfl) <| AR.op rfl (aop_move (.inl rfl) rfl) ?_
     obtain ⟨r520, hr520, h⟩ := Sh.bind_some' h
     refine AR.op (r := .sl (List.map i64 r520)) rfl (aop_call1 rfl rfl (by simp) (index_Writers_ok hT hr520)) <| AR.keep [1, 3, 12, 13, 14, 5, 20] rfl <| AR.op rfl (aop_move (.inr rfl) rfl) <| AR.nil <| hK10 _ (AWP.weak (Weak.kt [1, 3, 12, 13, 14, 5, 6] rfl) ?_)
     refine awp_seqK fun K11 hK11 => awp_reg rfl <| AR.op rfl (aop_move (.inl rfl) rfl) <| AR.op rfl (t_len_sl i64 r520 rfl rfl el26) <| AR.op rfl (aop_move (.inl rfl) rfl) <| AR.nil <| hK11 _ ?_
     refine awp_block <| awp_iter (fun (p : (List G.api_Choice) × Int) => G.index_Pairs_b2 v457 x517 r520 p.1 p.2) (fun (p : (List G.api_Choice) × Int) => (⟨[(1, .pp [.sl (List.map G.api_Txn.av h_0.Txns)] 0), (3, .view 0 0 (List.map G.api_Choice.av p.1).length), (12, .sl (List.map i64 r343)), (13, i64 (Sh.len r343)), (14, i64 v457), (5, i64 x517), (6, .sl (List.map i64 r520)), (21, .sl (List.map i64 r520)), (22, i64 (Sh.len r520)), (23, i64 p.2)], ⟨1, [(0, (3, List.map G.api_Choice.av p.1))], []⟩⟩ : St)) h (Weak.kt [1, 3, 12, 13, 14, 5, 6, 21, 22, 23] rfl) ?_
     ·skip
      rintro ⟨out555, v556⟩ o2 h hx2
      replace h : G.index_Pairs_b2 v457 x517 r520 out555 v556 = some o2 := h
      unfold G.index_Pairs_b2 at h
      refine awp_seqK fun K12 hK12 => awp_reg rfl <| AR.op rfl (aop_lss rfl rfl rfl) <| AR.nil <| hK12 _ ?_
      refine awp_seqK fun K13 hK13 => awp_cond rfl (fun hb557 => ?_) (fun hb557 => ?_)
      ·replace h := Sh.if_t h hb557
       refine awp_skip <| hK13 _ (AWP.weak (Weak.kt [1, 3, 12, 13, 14, 5, 6, 21, 22, 23] rfl) ?_)
       refine awp_seqJ (fun (p : (List G.api_Choice)) => (⟨[(1, .pp [.sl (List.map G.api_Txn.av h_0.Txns)] 0), (3, .view 0 0 (List.map G.api_Choice.av p).length), (12, .sl (List.map i64 r343)), (13, i64 (Sh.len r343)), (14, i64 v457), (5, i64 x517), (6, .sl (List.map i64 r520)), (21, .sl (List.map i64 r520)), (22, i64 (Sh.len r520)), (23, i64 v556)], ⟨1, [(0, (3, List.map G.api_Choice.av p))], []⟩⟩ : St)) (fun (p : (List G.api_Choice)) => G.index_Pairs_j3 v556 p = some o2) ?_ ?_
       ·rintro out574 h
        replace h : G.index_Pairs_j3 v556 out574 = some o2 := h
        unfold G.index_Pairs_j3 at h
        refine awp_reg rfl <| AR.op rfl (aop_add rfl rfl rfl rfl) <| AR.op rfl (aop_move (.inl rfl) rfl) <| AR.nil ?_
        replace h := Sh.next_eq h
        exact ⟨_, h, Weak.kt [1, 3, 12, 13, 14, 5, 6, 21, 22, 23] rfl⟩
       ·intro K14 hK14
        refine awp_block <| awp_seqK fun K15 hK15 => awp_reg rfl <| AR.op rfl (aop_move (.inl rfl) rfl) ?_
        obtain ⟨x577, hx577, h⟩ := Sh.bind_some' h
        obtain ⟨k578, hi578, hl578⟩ := Sh.idx_some hx577
        refine AR.op rfl (t_index_sl i64 r520 hi578 hl578 rfl rfl rfl el26 rfl) <| AR.op (r := i64 x577) rfl (aop_load_pp rfl rfl sz3 rfl) <| AR.keep [1, 3, 12, 13, 14, 5, 6, 21, 22, 23, 25, 27] rfl <| AR.op rfl (aop_move (.inr rfl) rfl) <| AR.op rfl (aop_move (.inr rfl) rfl) <| AR.nil <| hK15 _ (AWP.weak (Weak.kt [1, 3, 12, 13, 14, 5, 6, 21, 22, 23, 7, 8] rfl) ?_)
        refine awp_seqK fun K16 hK16 => awp_reg rfl <| AR.op rfl (aop_move (.inl rfl) rfl) <| AR.op rfl (aop_move (.inl rfl) rfl) <| AR.op rfl (aop_add rfl rfl rfl rfl) <| AR.keep [1, 3, 12, 13, 14, 5, 6, 21, 22, 23, 8, 28, 30] rfl ?_
        obtain ⟨part580, hpart580, h⟩ := Sh.bind_some' h
        refine AR.op (r := .sl (List.map i64 part580)) rfl (t_sub i64 r520 part580 hpart580 (fun _ => rfl) rfl rfl (.inl rfl) (.inr ⟨_, _, rfl, rfl⟩) (.inl ⟨rfl, rfl⟩) el26) <| AR.op rfl (t_len_sl i64 part580 rfl rfl el26) <| AR.op rfl (aop_move (.inl rfl) rfl) <| AR.nil <| hK16 _ (AWP.weak (Weak.kt [1, 3, 12, 13, 14, 5, 6, 21, 22, 23, 8, 31, 32, 33] rfl) ?_)
        refine awp_block <| awp_iter (fun (p : (List G.api_Choice) × Int) => G.index_Pairs_b3 x517 v556 x577 part580 p.1 p.2) (fun (p : (List G.api_Choice) × Int) => (⟨[(1, .pp [.sl (List.map G.api_Txn.av h_0.Txns)] 0), (3, .view 0 0 (List.map G.api_Choice.av p.1).length), (12, .sl (List.map i64 r343)), (13, i64 (Sh.len r343)), (14, i64 v457), (5, i64 x517), (6, .sl (List.map i64 r520)), (21, .sl (List.map i64 r520)), (22, i64 (Sh.len r520)), (23, i64 v556), (8, i64 x577), (31, .sl (List.map i64 part580)), (32, i64 (Sh.len part580)), (33, i64 p.2)], ⟨1, [(0, (3, List.map G.api_Choice.av p.1))], []⟩⟩ : St)) h (Weak.kt [1, 3, 12, 13, 14, 5, 6, 21, 22, 23, 8, 31, 32, 33] rfl) ?_
        ·skip
         rintro ⟨out589, v590⟩ o3 h hx3
         replace h : G.index_Pairs_b3 x517 v556 x577 part580 out589 v590 = some o3 := h
         unfold G.index_Pairs_b3 at h
         refine awp_seqK fun K17 hK17 => awp_reg rfl <| AR.op rfl (aop_lss rfl rfl rfl) <| AR.nil <| hK17 _ ?_
         refine awp_seqK fun K18 hK18 => awp_cond rfl (fun hb591 => ?_) (fun hb591 => ?_)
         ·replace h := Sh.if_t h hb591
          refine awp_skip <| hK18 _ (AWP.weak (Weak.kt [1, 3, 12, 13, 14, 5, 6, 21, 22, 23, 8, 31, 32, 33] rfl) ?_)
          refine awp_seqK fun K19 hK19 => awp_block <| awp_seqK fun K20 hK20 => awp_reg rfl ?_
          obtain ⟨x597, hx597, h⟩ := Sh.bind_some' h
          obtain ⟨k598, hi598, hl598⟩ := Sh.idx_some hx597
          refine AR.op rfl (t_index_sl i64 part580 hi598 hl598 rfl rfl rfl el26 rfl) <| AR.op (r := i64 x597) rfl (aop_load_pp rfl rfl sz3 rfl) <| AR.op rfl (aop_move (.inr rfl) rfl) <| AR.nil <| hK20 _ (AWP.weak (Weak.kt [1, 3, 12, 13, 14, 5, 6, 21, 22, 23, 8, 31, 32, 33, 10] rfl) ?_)
          refine awp_reg rfl <| AR.op rfl (aop_move (.inl rfl) rfl) <| AR.op rfl (aop_move (.inl rfl) rfl) <| AR.op rfl (aop_move (.inl rfl) rfl) <| AR.keep [1, 12, 13, 14, 5, 6, 21, 22, 23, 8, 31, 32, 33, 10, 37, 38, 39] rfl <| AR.op rfl (aop_move (.inl rfl) rfl) <| AR.op (r := .agg [i64 x517, i64 x577, i64 x597]) rfl (aop_build rfl bd55 rfl rfl rfl) <| AR.op (r := .clip (List.map G.api_Choice.av ([(G.api_Choice.mk x517 x577 x597)] : List G.api_Choice))) rfl (aop_buildSlice rfl (xo := [.tmp 41]) rfl rfl rfl (by simp) (by simp) el25 ze25 (by decide)) ?_
          refine AR.keep [1, 12, 13, 14, 5, 6, 21, 22, 23, 8, 31, 32, 33, 37, 42] rfl ?_
          obtain ⟨out599, hout599, h⟩ := Sh.bind_some' h
          refine AR.op (r := .view 1 0 (List.map G.api_Choice.av out599).length) rfl (t_app_view G.api_Choice.av out589 ([(G.api_Choice.mk x517 x577 x597)] : List G.api_Choice) out599 hout599 rfl et25 (fun _ => rfl) rfl rfl rfl rfl rfl rfl rfl) <| AR.op rfl (aop_move (.inr rfl) rfl) <| AR.nil <| hK19 _ (AWP.weak (Weak.re (fr' := [(1, .pp [.sl (List.map G.api_Txn.av h_0.Txns)] 0), (12, .sl (List.map i64 r343)), (13, i64 (Sh.len r343)), (14, i64 v457), (5, i64 x517), (6, .sl (List.map i64 r520)), (21, .sl (List.map i64 r520)), (22, i64 (Sh.len r520)), (23, i64 v556), (8, i64 x577), (31, .sl (List.map i64 part580)), (32, i64 (Sh.len part580)), (33, i64 v590), (3, .view 0 0 (List.map G.api_Choice.av out599).length)]) (H' := ⟨1, [(0, (3, List.map G.api_Choice.av out599))], []⟩) [(0, 1)] [] rfl rfl rfl (.cons rfl rfl (.same (by simp)) dt trivial) ⟨.k, ⟨.sl (List.map i64 r343), rfl, .sm⟩, .k, .k, .k, ⟨.sl (List.map i64 r520), rfl, .sm⟩, ⟨.sl (List.map i64 r520), rfl, .sm⟩, .k, .k, .k, ⟨.sl (List.map i64 part580), rfl, .sm⟩, .k, .k, ⟨_, rfl, .view rfl⟩, trivial⟩) ?_)
          refine awp_reg rfl <| AR.op rfl (aop_add rfl rfl rfl rfl) <| AR.op rfl (aop_move (.inl rfl) rfl) <| AR.nil ?_
          replace h := Sh.next_eq h
          exact ⟨_, h, Weak.kt [1, 3, 12, 13, 14, 5, 6, 21, 22, 23, 8, 31, 32, 33] rfl⟩
         ·replace h := Sh.if_f h hb591
          refine awp_exit ?_
          replace h := Sh.exit_eq h hx3
          exact hK14 out589 _ h (Weak.kt [1, 3, 12, 13, 14, 5, 6, 21, 22, 23] rfl)
      ·replace h := Sh.if_f h hb557
       refine awp_exit ?_
       replace h := Sh.exit_eq h hx2
       exact hK8 out555 _ h (Weak.kt [1, 3, 12, 13, 14] rfl)
   ·replace h := Sh.if_f h hb458
    refine awp_exit ?_
    replace h := Sh.exit_eq h hx1
    exact hK4 out456 _ h (Weak.kt [3] rfl)
end Wk
