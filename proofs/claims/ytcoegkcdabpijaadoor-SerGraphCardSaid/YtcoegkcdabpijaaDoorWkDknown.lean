/- That the functions of a package do what their plain functions say. -/
import Derived.Test.YtcoegkcdabpijaaDoorSh
import Derived.Test.YtcoegkcdabpijaaDoorWkDFacts
import Derived.Test.YtcoegkcdabpijaaDoorWkDgraph
import Derived.Test.YtcoegkcdabpijaaDoorWkDhist
import Derived.Test.YtcoegkcdabpijaaDoorWkDindex
open Go Go.Av Go.Proofs
set_option linter.unusedVariables false
set_option maxHeartbeats 8000000
set_option maxRecDepth 20000
namespace Wk
theorem known_laid_1__2_ok {W0 : World} (hT : Tab W0) {a_0 : Int} {b_1 : Int} {c_2 : G.graph_Graph} {r : G.graph_Graph} (h : G.known_laid_1__2 a_0 b_1 c_2 = some r) : Fun3 Tryd.prog (.pinned W0 1) 74 [i64 a_0, i64 b_1, .ref 0 0 0] ⟨1, [(0, (2, [G.graph_Graph.av c_2]))], []⟩ (.tuple []) ⟨1, [(0, (2, [G.graph_Graph.av r]))], []⟩ := by
 refine fun3_of_awp rfl Tryd.func74 rfl (by kernel_rfl) Tryd.ntmps74 (by simp) ?_
 unfold G.known_laid_1__2 at h
 show AWP _ _ _ _ ⟨[(0, i64 a_0), (1, i64 b_1), (2, .ref 0 0 0)], ⟨1, [(0, (2, [G.graph_Graph.av c_2]))], []⟩⟩ _
 refine awp_seqJ (fun (p : Bool) => (⟨[(0, i64 a_0), (1, i64 b_1), (2, .ref 0 0 0), (11, bl p)], ⟨1, [(0, (2, [G.graph_Graph.av c_2]))], []⟩⟩ : St)) (fun (p : Bool) => G.known_laid_1__2_j1 a_0 b_1 c_2 p = some r) ?_ ?_
 ·rintro v6 h
  replace h : G.known_laid_1__2_j1 a_0 b_1 c_2 v6 = some r := h
  unfold G.known_laid_1__2_j1 at h
  refine awp_cond rfl (fun hb7 => ?_) (fun hb7 => ?_)
  ·replace h := Sh.if_t h hb7
   refine awp_reg rfl <| AR.op (r := G.graph_Graph.av c_2) rfl (aop_load_ref rfl rfl rfl rfl sz34 rfl) <| AR.op rfl (aop_move (.inl rfl) rfl) <| AR.op rfl (aop_move (.inl rfl) rfl) <| AR.keep [2, 13, 14, 15] rfl ?_
   obtain ⟨r8, hr8, h⟩ := Sh.bind_some' h
   refine AR.op (r := .tuple [G.graph_Graph.av r8.1, i64 r8.2]) rfl (aop_call1 rfl rfl (by simp) (graph_Add_ok hT hr8)) <| AR.op rfl (aop_move (.inl rfl) rfl) <| AR.op (r := G.graph_Graph.av r8.1) rfl (aop_extract rfl rfl rfl) <| AR.keep [2, 12, 17] rfl <| AR.op (r := i64 r8.2) rfl (aop_extract rfl rfl rfl) <| AR.op rfl (aop_store (e' := G.graph_Graph.av r8.1) rfl rfl rfl rfl rfl rfl sz34 rfl dt rfl) <| AR.nil ?_
   obtain rfl := Option.some.inj h
   refine ⟨.inl rfl, .tuple [], rfl, ?_⟩
   exact Weak.re [(0, 0)] [] rfl rfl rfl (.cons rfl rfl (.one (.sm) rfl) dt trivial) ⟨⟨.tuple [], rfl, .tp trivial⟩, trivial⟩
  ·replace h := Sh.if_f h hb7
   refine awp_skip ?_
   obtain rfl := Option.some.inj h
   refine ⟨.inl rfl, .tuple [], rfl, ?_⟩
   exact Weak.re [(0, 0)] [] rfl rfl rfl (.cons rfl rfl (.one (.sm) rfl) dt trivial) ⟨⟨.tuple [], rfl, .tp trivial⟩, trivial⟩
 ·intro K1 hK1
  refine awp_reg rfl <| AR.op rfl (aop_move (.inl rfl) rfl) <| AR.op rfl (aop_geq rfl rfl rfl) <| AR.op rfl (aop_move (.inl rfl) rfl) <| AR.keep [0, 1, 2, 7] rfl ?_
  rcases Bool.eq_false_or_eq_true (decide ((0 : Int) ≤ a_0)) with hb9 | hb9
  ·rw [hb9]
   replace h := Sh.if_t h hb9
   refine AR.op rfl (aop_move (.inl rfl) rfl) <| AR.op rfl (aop_move (.inl rfl) rfl) <| AR.op (r := bl (decide (a_0 ≠ b_1))) rfl (aop_neq rfl rfl rfl) <| AR.keep [0, 1, 2, 7, 10] rfl <| AR.op rfl (aop_pick rfl rfl rfl) <| AR.nil ?_
   exact hK1 (decide (a_0 ≠ b_1)) _ h (Weak.kt [0, 1, 2, 11] rfl)
  ·rw [hb9]
   replace h := Sh.if_f h hb9
   refine AR.skip rfl <| AR.skip rfl <| AR.skip rfl <| AR.keep [0, 1, 2, 7, 10] rfl <| AR.op rfl (aop_pick rfl rfl rfl) <| AR.nil ?_
   exact hK1 false _ h (Weak.kt [0, 1, 2, 11] rfl)


theorem known_Init_1__known_laid_1_2_ok {W0 : World} (hT : Tab W0) {a_0 : G.api_Hist} {c_1 : G.graph_Graph} {r : G.graph_Graph} (h : G.known_Init_1__known_laid_1_2 a_0 c_1 = some r) : Fun3 Tryd.prog (.pinned W0 1) 63 [.clo (.func 74) [.ref 0 0 0], .pp [.sl (List.map G.api_Txn.av a_0.Txns)] 0] ⟨1, [(0, (2, [G.graph_Graph.av c_1]))], []⟩ (.tuple []) ⟨1, [(0, (2, [G.graph_Graph.av r]))], []⟩ := by
 refine fun3_of_awp rfl Tryd.func63 rfl (by kernel_rfl) Tryd.ntmps63 (by simp) ?_
 unfold G.known_Init_1__known_laid_1_2 at h
 show AWP _ _ _ _ ⟨[(0, .clo (.func 74) [.ref 0 0 0]), (1, .pp [.sl (List.map G.api_Txn.av a_0.Txns)] 0)], ⟨1, [(0, (2, [G.graph_Graph.av c_1]))], []⟩⟩ _
 refine awp_seqK fun K1 hK1 => awp_reg rfl <| AR.op (r := G.api_Hist.av a_0) rfl (aop_load_pp rfl rfl sz24 rfl) ?_
 obtain ⟨r173, hr173, h⟩ := Sh.bind_some' h
 refine AR.op (r := .sl (List.map i64 r173)) rfl (aop_call1 rfl rfl (by simp) (index_Keys_ok hT hr173)) <| AR.op rfl (t_len_sl i64 r173 rfl rfl el26) <| AR.keep [0, 1, 10, 11] rfl <| AR.op rfl (aop_move (.inl rfl) rfl) <| AR.nil <| hK1 _ ?_
 refine awp_block <| awp_iter (fun (p : G.graph_Graph × Int) => G.known_Init_1__known_laid_1_2_b1 a_0 r173 p.1 p.2) (fun (p : G.graph_Graph × Int) => (⟨[(0, .clo (.func 74) [.ref 0 0 0]), (1, .pp [.sl (List.map G.api_Txn.av a_0.Txns)] 0), (10, .sl (List.map i64 r173)), (11, i64 (Sh.len r173)), (12, i64 p.2)], ⟨1, [(0, (2, [G.graph_Graph.av p.1]))], []⟩⟩ : St)) h (Weak.kt [0, 1, 10, 11, 12] rfl) ?_
 ·skip
  rintro ⟨c286, v287⟩ o1 h hx1
  replace h : G.known_Init_1__known_laid_1_2_b1 a_0 r173 c286 v287 = some o1 := h
  unfold G.known_Init_1__known_laid_1_2_b1 at h
  refine awp_seqK fun K2 hK2 => awp_reg rfl <| AR.op rfl (aop_lss rfl rfl rfl) <| AR.nil <| hK2 _ ?_
  refine awp_seqK fun K3 hK3 => awp_cond rfl (fun hb288 => ?_) (fun hb288 => ?_)
  ·replace h := Sh.if_t h hb288
   refine awp_skip <| hK3 _ (AWP.weak (Weak.kt [0, 1, 10, 11, 12] rfl) ?_)
   refine awp_seqJ (fun (p : G.graph_Graph) => (⟨[(0, .clo (.func 74) [.ref 0 0 0]), (1, .pp [.sl (List.map G.api_Txn.av a_0.Txns)] 0), (10, .sl (List.map i64 r173)), (11, i64 (Sh.len r173)), (12, i64 v287)], ⟨1, [(0, (2, [G.graph_Graph.av p]))], []⟩⟩ : St)) (fun (p : G.graph_Graph) => G.known_Init_1__known_laid_1_2_j1 v287 p = some o1) ?_ ?_
   ·rintro v344 h
    replace h : G.known_Init_1__known_laid_1_2_j1 v287 v344 = some o1 := h
    unfold G.known_Init_1__known_laid_1_2_j1 at h
    refine awp_reg rfl <| AR.op rfl (aop_add rfl rfl rfl rfl) <| AR.op rfl (aop_move (.inl rfl) rfl) <| AR.nil ?_
    replace h := Sh.next_eq h
    exact ⟨_, h, Weak.kt [0, 1, 10, 11, 12] rfl⟩
   ·intro K4 hK4
    refine awp_block <| awp_seqK fun K5 hK5 => awp_reg rfl ?_
    obtain ⟨x347, hx347, h⟩ := Sh.bind_some' h
    obtain ⟨k348, hi348, hl348⟩ := Sh.idx_some hx347
    refine AR.op rfl (t_index_sl i64 r173 hi348 hl348 rfl rfl rfl el26 rfl) <| AR.op (r := i64 x347) rfl (aop_load_pp rfl rfl sz3 rfl) <| AR.op rfl (aop_move (.inr rfl) rfl) <| AR.nil <| hK5 _ (AWP.weak (Weak.kt [0, 1, 10, 11, 12, 4] rfl) ?_)
    refine awp_seqK fun K6 hK6 => awp_reg rfl <| AR.op (r := G.api_Hist.av a_0) rfl (aop_load_pp rfl rfl sz24 rfl) <| AR.op rfl (aop_move (.inl rfl) rfl) ?_
    obtain ⟨r350, hr350, h⟩ := Sh.bind_some' h
    refine AR.op (r := .sl (List.map i64 r350)) rfl (aop_call1 rfl rfl (by simp) (index_Readers_ok hT hr350)) <| AR.keep [0, 1, 10, 11, 12, 4, 18] rfl <| AR.op rfl (t_len_sl i64 r350 rfl rfl el26) <| AR.op rfl (aop_move (.inl rfl) rfl) <| AR.nil <| hK6 _ ?_
    refine awp_block <| awp_iter (fun (p : G.graph_Graph × Int) => G.known_Init_1__known_laid_1_2_b2 a_0 v287 x347 r350 p.1 p.2) (fun (p : G.graph_Graph × Int) => (⟨[(0, .clo (.func 74) [.ref 0 0 0]), (1, .pp [.sl (List.map G.api_Txn.av a_0.Txns)] 0), (10, .sl (List.map i64 r173)), (11, i64 (Sh.len r173)), (12, i64 v287), (4, i64 x347), (18, .sl (List.map i64 r350)), (19, i64 (Sh.len r350)), (20, i64 p.2)], ⟨1, [(0, (2, [G.graph_Graph.av p.1]))], []⟩⟩ : St)) h (Weak.kt [0, 1, 10, 11, 12, 4, 18, 19, 20] rfl) ?_
    ·skip
     rintro ⟨c385, v386⟩ o2 h hx2
     replace h : G.known_Init_1__known_laid_1_2_b2 a_0 v287 x347 r350 c385 v386 = some o2 := h
     unfold G.known_Init_1__known_laid_1_2_b2 at h
     refine awp_seqK fun K7 hK7 => awp_reg rfl <| AR.op rfl (aop_lss rfl rfl rfl) <| AR.nil <| hK7 _ ?_
     refine awp_seqK fun K8 hK8 => awp_cond rfl (fun hb387 => ?_) (fun hb387 => ?_)
     ·replace h := Sh.if_t h hb387
      refine awp_skip <| hK8 _ (AWP.weak (Weak.kt [0, 1, 10, 11, 12, 4, 18, 19, 20] rfl) ?_)
      refine awp_seqJ (fun (p : G.graph_Graph) => (⟨[(0, .clo (.func 74) [.ref 0 0 0]), (1, .pp [.sl (List.map G.api_Txn.av a_0.Txns)] 0), (10, .sl (List.map i64 r173)), (11, i64 (Sh.len r173)), (12, i64 v287), (4, i64 x347), (18, .sl (List.map i64 r350)), (19, i64 (Sh.len r350)), (20, i64 v386)], ⟨1, [(0, (2, [G.graph_Graph.av p]))], []⟩⟩ : St)) (fun (p : G.graph_Graph) => G.known_Init_1__known_laid_1_2_j2 v386 p = some o2) ?_ ?_
      ·rintro v404 h
       replace h : G.known_Init_1__known_laid_1_2_j2 v386 v404 = some o2 := h
       unfold G.known_Init_1__known_laid_1_2_j2 at h
       refine awp_reg rfl <| AR.op rfl (aop_add rfl rfl rfl rfl) <| AR.op rfl (aop_move (.inl rfl) rfl) <| AR.nil ?_
       replace h := Sh.next_eq h
       exact ⟨_, h, Weak.kt [0, 1, 10, 11, 12, 4, 18, 19, 20] rfl⟩
      ·intro K9 hK9
       refine awp_block <| awp_seqK fun K10 hK10 => awp_reg rfl ?_
       obtain ⟨x407, hx407, h⟩ := Sh.bind_some' h
       obtain ⟨k408, hi408, hl408⟩ := Sh.idx_some hx407
       refine AR.op rfl (t_index_sl i64 r350 hi408 hl408 rfl rfl rfl el26 rfl) <| AR.op (r := i64 x407) rfl (aop_load_pp rfl rfl sz3 rfl) <| AR.op rfl (aop_move (.inr rfl) rfl) <| AR.nil <| hK10 _ (AWP.weak (Weak.kt [0, 1, 10, 11, 12, 4, 18, 19, 20, 6] rfl) ?_)
       refine awp_seqK fun K11 hK11 => awp_reg rfl <| AR.op (r := G.api_Hist.av a_0) rfl (aop_load_pp rfl rfl sz24 rfl) <| AR.op rfl (aop_move (.inl rfl) rfl) ?_
       obtain ⟨r410, hr410, h⟩ := Sh.bind_some' h
       refine AR.op (r := .sl (List.map i64 r410)) rfl (aop_call1 rfl rfl (by simp) (index_Writers_ok hT hr410)) <| AR.keep [0, 1, 10, 11, 12, 4, 18, 19, 20, 6, 26] rfl <| AR.op rfl (t_len_sl i64 r410 rfl rfl el26) <| AR.op rfl (aop_move (.inl rfl) rfl) <| AR.nil <| hK11 _ ?_
       refine awp_block <| awp_iter (fun (p : G.graph_Graph × Int) => G.known_Init_1__known_laid_1_2_b3 v386 x407 r410 p.1 p.2) (fun (p : G.graph_Graph × Int) => (⟨[(0, .clo (.func 74) [.ref 0 0 0]), (1, .pp [.sl (List.map G.api_Txn.av a_0.Txns)] 0), (10, .sl (List.map i64 r173)), (11, i64 (Sh.len r173)), (12, i64 v287), (4, i64 x347), (18, .sl (List.map i64 r350)), (19, i64 (Sh.len r350)), (20, i64 v386), (6, i64 x407), (26, .sl (List.map i64 r410)), (27, i64 (Sh.len r410)), (28, i64 p.2)], ⟨1, [(0, (2, [G.graph_Graph.av p.1]))], []⟩⟩ : St)) h (Weak.kt [0, 1, 10, 11, 12, 4, 18, 19, 20, 6, 26, 27, 28] rfl) ?_
       ·skip
        rintro ⟨c419, v420⟩ o3 h hx3
        replace h : G.known_Init_1__known_laid_1_2_b3 v386 x407 r410 c419 v420 = some o3 := h
        unfold G.known_Init_1__known_laid_1_2_b3 at h
        refine awp_seqK fun K12 hK12 => awp_reg rfl <| AR.op rfl (aop_lss rfl rfl rfl) <| AR.nil <| hK12 _ ?_
        refine awp_seqK fun K13 hK13 => awp_cond rfl (fun hb421 => ?_) (fun hb421 => ?_)
        ·replace h := Sh.if_t h hb421
         refine awp_skip <| hK13 _ (AWP.weak (Weak.kt [0, 1, 10, 11, 12, 4, 18, 19, 20, 6, 26, 27, 28] rfl) ?_)
         refine awp_seqK fun K14 hK14 => awp_block <| awp_seqK fun K15 hK15 => awp_reg rfl ?_
         obtain ⟨x427, hx427, h⟩ := Sh.bind_some' h
         obtain ⟨k428, hi428, hl428⟩ := Sh.idx_some hx427
         refine AR.op rfl (t_index_sl i64 r410 hi428 hl428 rfl rfl rfl el26 rfl) <| AR.op (r := i64 x427) rfl (aop_load_pp rfl rfl sz3 rfl) <| AR.op rfl (aop_move (.inr rfl) rfl) <| AR.nil <| hK15 _ (AWP.weak (Weak.kt [0, 1, 10, 11, 12, 4, 18, 19, 20, 6, 26, 27, 28, 8] rfl) ?_)
         refine awp_reg rfl <| AR.op rfl (aop_move (.inl rfl) rfl) <| AR.op rfl (aop_move (.inl rfl) rfl) <| AR.op rfl (aop_move (.inl rfl) rfl) <| AR.keep [0, 1, 10, 11, 12, 4, 18, 19, 20, 6, 26, 27, 28, 32, 33, 34] rfl ?_
         obtain ⟨r429, hr429, h⟩ := Sh.bind_some' h
         refine AR.op (r := .tuple []) rfl (aop_call3E (ok := NoId) (ys := [i64 x407, i64 x427, .ref 0 0 0]) (xs := [i64 x407, i64 x427, .ref 0 0 0]) (r' := .tuple []) (Hs := ⟨1, [(0, (2, [G.graph_Graph.av c419]))], []⟩) (H' := ⟨2, [(0, (2, [G.graph_Graph.av r429]))], []⟩) (g := [(0, 0)]) (m := [(0, 0)]) (nw := []) (p := 1) (.clo (ys := [i64 x407, i64 x427]) (caps := [.ref 0 0 0]) rfl rfl rfl (known_laid_1__2_ok hT hr429).call) (known_laid_1__2_ok hT hr429) { next := rfl, part := ⟨rfl, trivial⟩, inj := rfl, lt := rfl, nwf := rfl, gin := rfl, held := .cons rfl rfl (.one (.sm) rfl) dt trivial, seen := ⟨⟨_, rfl, .sm⟩, ⟨_, rfl, .sm⟩, ⟨_, rfl, .ref rfl⟩, trivial⟩, inlps := rfl, ple := rfl, map := rfl, next' := rfl, back := .new 0 rfl rfl (.one ⟨.sm, .sm, trivial⟩) trivial, lps := .inl ⟨rfl, rfl⟩, mode := .inr ⟨fun _ h => h, rfl⟩, ren := .sm } rfl) <| AR.nil <| hK14 _ (AWP.weak (Weak.re (fr' := [(0, .clo (.func 74) [.ref 0 0 0]), (1, .pp [.sl (List.map G.api_Txn.av a_0.Txns)] 0), (10, .sl (List.map i64 r173)), (11, i64 (Sh.len r173)), (12, i64 v287), (4, i64 x347), (18, .sl (List.map i64 r350)), (19, i64 (Sh.len r350)), (20, i64 v386), (6, i64 x407), (26, .sl (List.map i64 r410)), (27, i64 (Sh.len r410)), (28, i64 v420)]) (H' := ⟨1, [(0, (2, [G.graph_Graph.av r429]))], []⟩) [(0, 0)] [] rfl rfl rfl (.cons rfl rfl (.one (.sm) rfl) dt trivial) ⟨⟨.clo (.func 74) [.ref 0 0 0], rfl, .cl ⟨.ref rfl, trivial⟩⟩, .k, ⟨.sl (List.map i64 r173), rfl, .sm⟩, .k, .k, .k, ⟨.sl (List.map i64 r350), rfl, .sm⟩, .k, .k, .k, ⟨.sl (List.map i64 r410), rfl, .sm⟩, .k, .k, trivial⟩) ?_)
         refine awp_reg rfl <| AR.op rfl (aop_add rfl rfl rfl rfl) <| AR.op rfl (aop_move (.inl rfl) rfl) <| AR.nil ?_
         replace h := Sh.next_eq h
         exact ⟨_, h, Weak.kt [0, 1, 10, 11, 12, 4, 18, 19, 20, 6, 26, 27, 28] rfl⟩
        ·replace h := Sh.if_f h hb421
         refine awp_exit ?_
         replace h := Sh.exit_eq h hx3
         exact hK9 c419 _ h (Weak.kt [0, 1, 10, 11, 12, 4, 18, 19, 20] rfl)
     ·replace h := Sh.if_f h hb387
      refine awp_exit ?_
      replace h := Sh.exit_eq h hx2
      exact hK4 c385 _ h (Weak.kt [0, 1, 10, 11, 12] rfl)
  ·replace h := Sh.if_f h hb288
   refine awp_exit ?_
   replace h := Sh.exit_eq h hx1
   obtain rfl := Option.some.inj h
   refine ⟨.inl rfl, .tuple [], rfl, ?_⟩
   exact Weak.re [(0, 0)] [] rfl rfl rfl (.cons rfl rfl (.one (.sm) rfl) dt trivial) ⟨⟨.tuple [], rfl, .tp trivial⟩, trivial⟩


theorem known_laid__known_Init_1_ok0 {W0 : World} (hT : Tab W0) {h_0 : G.api_Hist} {lay_1 : G.api_Hist} {r : G.graph_Graph} (h : G.known_laid__known_Init_1 h_0 lay_1 = some r) : Fun2 Tryd.prog W0 62 [G.api_Hist.av h_0, .clo (.func 63) [.pp [.sl (List.map G.api_Txn.av lay_1.Txns)] 0]] (G.graph_Graph.av r) .empty := by
 refine fun2_of_awp Tryd.func62 rfl (by kernel_rfl) Tryd.ntmps62 (by simp) ?_
 unfold G.known_laid__known_Init_1 at h
 show AWP _ _ _ _ ⟨[(0, G.api_Hist.av h_0), (1, .clo (.func 63) [.pp [.sl (List.map G.api_Txn.av lay_1.Txns)] 0])], .empty⟩ _
 refine awp_seqK fun K1 hK1 => awp_reg rfl <| AR.op (r := .ref 0 0 0) rfl (aop_box 1 [G.api_Hist.av h_0] rfl rfl rfl (.inl ⟨rfl, rfl⟩)) <| AR.op (r := .ref 1 0 0) rfl (aop_alloc 2 [.agg [i64 0, nilS]] rfl zr34 (by kernel_rfl) (.inl ⟨rfl, rfl⟩)) <| AR.nil <| hK1 _ (AWP.weak (Weak.re (fr' := [(1, .clo (.func 63) [.pp [.sl (List.map G.api_Txn.av lay_1.Txns)] 0]), (2, .pp [.sl (List.map G.api_Txn.av h_0.Txns)] 0), (4, .ref 0 0 0)]) (H' := ⟨1, [(0, (2, [.agg [i64 0, nilS]]))], []⟩) [(0, 1)] [] rfl rfl rfl (.cons rfl rfl (.one (.sm) rfl) dt trivial) ⟨⟨.clo (.func 63) [.pp [.sl (List.map G.api_Txn.av lay_1.Txns)] 0], rfl, .sm⟩, ⟨_, rfl, .frzA rfl rfl rfl rfl (by simp)⟩, ⟨_, rfl, .ref rfl⟩, trivial⟩) ?_)
 refine awp_seqK fun K2 hK2 => awp_seqK fun K3 hK3 => awp_reg rfl <| AR.op (r := G.api_Hist.av h_0) rfl (aop_load_pp rfl rfl sz24 rfl) ?_
 obtain ⟨r6, hr6, h⟩ := Sh.bind_some' h
 refine AR.op (r := bl r6) rfl (aop_call1 rfl rfl (by simp) (hist_Right_ok hT hr6)) <| AR.op (r := bl (!r6)) rfl (aop_not rfl rfl) <| AR.nil <| hK3 _ (AWP.weak (Weak.kt [1, 2, 4, 9] rfl) ?_)
 refine awp_cond rfl (fun hb7 => ?_) (fun hb7 => ?_)
 ·replace h := Sh.if_t h hb7
  refine awp_seqK fun K4 hK4 => awp_reg rfl <| AR.op (r := .agg [i64 0, nilS]) rfl (aop_build rfl bd34 rfl rfl rfl) <| AR.op rfl (aop_store (e' := .agg [i64 0, nilS]) rfl rfl rfl rfl rfl rfl sz34 rfl dt rfl) <| AR.nil <| hK4 _ (AWP.weak (Weak.kt [4] rfl) ?_)
  refine awp_ret ?_
  obtain rfl := Option.some.inj h
  refine ⟨.inr rfl, .agg [i64 0, nilS], rfl, ?_⟩
  exact Weak.e ⟨⟨.agg [i64 0, nilS], rfl, .ag ⟨.sm, .nilsl, trivial⟩⟩, trivial⟩
 ·replace h := Sh.if_f h hb7
  refine awp_skip <| hK2 _ (AWP.weak (Weak.kt [1, 2, 4] rfl) ?_)
  refine awp_seqK fun K5 hK5 => awp_reg rfl <| AR.op rfl (aop_field_pp rfl rfl fd24_0 (by decide)) <| AR.op (r := .sl (List.map G.api_Txn.av h_0.Txns)) rfl (aop_load_pp rfl rfl sz22 rfl) <| AR.op rfl (t_len_sl G.api_Txn.av h_0.Txns rfl rfl el22) <| AR.keep [1, 4, 14] rfl ?_
  obtain ⟨r9, hr9, h⟩ := Sh.bind_some' h
  refine AR.op (r := .tuple [G.graph_Graph.av r9.1, i64 r9.2]) rfl (aop_call1 rfl rfl (by simp) (graph_New_ok hT hr9)) <| AR.op rfl (aop_move (.inl rfl) rfl) <| AR.op (r := G.graph_Graph.av r9.1) rfl (aop_extract rfl rfl rfl) <| AR.keep [1, 4, 11, 16] rfl <| AR.op (r := i64 r9.2) rfl (aop_extract rfl rfl rfl) <| AR.op (r := .ref 1 0 0) rfl (aop_alloc 2 [.agg [i64 0, nilS]] rfl zr34 (by kernel_rfl) (.inl ⟨rfl, rfl⟩)) <| AR.op rfl (aop_store (e' := G.graph_Graph.av r9.1) rfl rfl rfl rfl rfl rfl sz34 rfl dt rfl) <| AR.keep [1, 4, 17, 5] rfl ?_
  refine AR.op rfl (aop_move (.inr rfl) rfl) <| AR.nil <| hK5 _ (AWP.weak (Weak.kt [1, 4, 5] rfl) ?_)
  refine awp_seqK fun K6 hK6 => awp_reg rfl <| AR.op rfl (aop_move (.inl rfl) rfl) <| AR.op (r := .clo (.func 74) [.ref 1 0 0]) rfl (aop_makeFunc rfl rfl) ?_
  obtain ⟨r11, hr11, h⟩ := Sh.bind_some' h
  refine AR.op (r := .tuple []) rfl (aop_call3E (ok := NoId) (ys := [.clo (.func 74) [.ref 1 0 0], .pp [.sl (List.map G.api_Txn.av lay_1.Txns)] 0]) (xs := [.clo (.func 74) [.ref 0 0 0], .pp [.sl (List.map G.api_Txn.av lay_1.Txns)] 0]) (r' := .tuple []) (Hs := ⟨2, [(1, (2, [G.graph_Graph.av r9.1]))], []⟩) (H' := ⟨3, [(0, (2, [.agg [i64 0, nilS]])), (1, (2, [G.graph_Graph.av r11]))], []⟩) (g := [(0, 1)]) (m := [(0, 1)]) (nw := []) (p := 1) (.clo (ys := [.clo (.func 74) [.ref 1 0 0]]) (caps := [.pp [.sl (List.map G.api_Txn.av lay_1.Txns)] 0]) rfl rfl rfl (known_Init_1__known_laid_1_2_ok hT hr11).call) (known_Init_1__known_laid_1_2_ok hT hr11) { next := rfl, part := ⟨rfl, trivial⟩, inj := rfl, lt := rfl, nwf := rfl, gin := rfl, held := .cons rfl rfl (.one (.sm) rfl) dt trivial, seen := ⟨⟨.clo (.func 74) [.ref 1 0 0], rfl, .cl ⟨.ref rfl, trivial⟩⟩, ⟨_, rfl, .sm⟩, trivial⟩, inlps := rfl, ple := rfl, map := rfl, next' := rfl, back := .kept rfl rfl (.new 0 rfl rfl (.one ⟨.sm, .sm, trivial⟩) trivial), lps := .inl ⟨rfl, rfl⟩, mode := .inr ⟨fun _ h => h, rfl⟩, ren := .sm } rfl) <| AR.nil <| hK6 _ (AWP.weak (Weak.re (fr' := [(4, .ref 0 0 0), (5, .ref 1 0 0)]) (H' := ⟨2, [(0, (2, [.agg [i64 0, nilS]])), (1, (2, [G.graph_Graph.av r11]))], []⟩) [(0, 0), (1, 1)] [] rfl rfl rfl (.cons rfl rfl (.one (.sm) rfl) dt (.cons rfl rfl (.one (.sm) rfl) dt trivial)) ⟨⟨_, rfl, .ref rfl⟩, ⟨_, rfl, .ref rfl⟩, trivial⟩) ?_)
  refine awp_seqK fun K7 hK7 => awp_reg rfl <| AR.op (r := G.graph_Graph.av r11) rfl (aop_load_ref rfl rfl rfl rfl sz34 rfl) <| AR.op rfl (aop_store (e' := G.graph_Graph.av r11) rfl rfl rfl rfl rfl rfl sz34 rfl dt rfl) <| AR.nil <| hK7 _ (AWP.weak (Weak.re (fr' := [(4, .ref 0 0 0)]) (H' := ⟨1, [(0, (2, [G.graph_Graph.av r11]))], []⟩) [(0, 0)] [] rfl rfl rfl (.cons rfl rfl (.one (.sm) rfl) dt trivial) ⟨⟨_, rfl, .ref rfl⟩, trivial⟩) ?_)
  refine awp_ret ?_
  obtain rfl := Option.some.inj h
  refine ⟨.inr rfl, G.graph_Graph.av r11, rfl, ?_⟩
  exact Weak.e ⟨⟨G.graph_Graph.av r11, rfl, .sm⟩, trivial⟩
theorem known_laid__known_Init_1_ok {W0 : World} (hT : Tab W0) {h_0 : G.api_Hist} {lay_1 : G.api_Hist} {r : G.graph_Graph} (h : G.known_laid__known_Init_1 h_0 lay_1 = some r) : Fun1 Tryd.prog W0 62 [G.api_Hist.av h_0, .clo (.func 63) [.pp [.sl (List.map G.api_Txn.av lay_1.Txns)] 0]] (G.graph_Graph.av r) := Fun1.two (known_laid__known_Init_1_ok0 hT h) (by simp)


theorem known_Init_ok0 {W0 : World} (hT : Tab W0) {h_0 : G.api_Hist} {r : G.graph_Graph} (h : G.known_Init h_0 = some r) : Fun2 Tryd.prog W0 35 [G.api_Hist.av h_0] (G.graph_Graph.av r) .empty := by
 refine fun2_of_awp Tryd.func35 rfl (by kernel_rfl) Tryd.ntmps35 (by simp) ?_
 unfold G.known_Init at h
 show AWP _ _ _ _ ⟨[(0, G.api_Hist.av h_0)], .empty⟩ _
 refine awp_seqK fun K1 hK1 => awp_reg rfl <| AR.op (r := .ref 0 0 0) rfl (aop_box 1 [G.api_Hist.av h_0] rfl rfl rfl (.inl ⟨rfl, rfl⟩)) <| AR.op (r := .ref 1 0 0) rfl (aop_alloc 2 [.agg [i64 0, nilS]] rfl zr34 (by kernel_rfl) (.inl ⟨rfl, rfl⟩)) <| AR.nil <| hK1 _ (AWP.weak (Weak.re (fr' := [(1, .pp [.sl (List.map G.api_Txn.av h_0.Txns)] 0), (2, .ref 0 0 0)]) (H' := ⟨1, [(0, (2, [.agg [i64 0, nilS]]))], []⟩) [(0, 1)] [] rfl rfl rfl (.cons rfl rfl (.one (.sm) rfl) dt trivial) ⟨⟨_, rfl, .frzA rfl rfl rfl rfl (by simp)⟩, ⟨_, rfl, .ref rfl⟩, trivial⟩) ?_)
 refine awp_seqK fun K2 hK2 => awp_reg rfl <| AR.op (r := G.api_Hist.av h_0) rfl (aop_load_pp rfl rfl sz24 rfl) <| AR.op (r := .clo (.func 63) [.pp [.sl (List.map G.api_Txn.av h_0.Txns)] 0]) rfl (aop_makeFunc rfl rfl) ?_
 obtain ⟨r3, hr3, h⟩ := Sh.bind_some' h
 refine AR.op (r := G.graph_Graph.av r3) rfl (aop_call1 rfl rfl (by simp) (known_laid__known_Init_1_ok hT hr3)) <| AR.keep [2, 5] rfl <| AR.op rfl (aop_store (e' := G.graph_Graph.av r3) rfl rfl rfl rfl rfl rfl sz34 rfl dt rfl) <| AR.nil <| hK2 _ (AWP.weak (Weak.kt [2] rfl) ?_)
 refine awp_ret ?_
 obtain rfl := Option.some.inj h
 refine ⟨.inr rfl, G.graph_Graph.av r3, rfl, ?_⟩
 exact Weak.e ⟨⟨G.graph_Graph.av r3, rfl, .sm⟩, trivial⟩
theorem known_Init_ok {W0 : World} (hT : Tab W0) {h_0 : G.api_Hist} {r : G.graph_Graph} (h : G.known_Init h_0 = some r) : Fun1 Tryd.prog W0 35 [G.api_Hist.av h_0] (G.graph_Graph.av r) := Fun1.two (known_Init_ok0 hT h) (by simp)


theorem known_So_1__known_laid_1_2_ok {W0 : World} (hT : Tab W0) {a_0 : G.api_Hist} {c_1 : G.graph_Graph} {r : G.graph_Graph} (h : G.known_So_1__known_laid_1_2 a_0 c_1 = some r) : Fun3 Tryd.prog (.pinned W0 1) 71 [.clo (.func 74) [.ref 0 0 0], .pp [.sl (List.map G.api_Txn.av a_0.Txns)] 0] ⟨1, [(0, (2, [G.graph_Graph.av c_1]))], []⟩ (.tuple []) ⟨1, [(0, (2, [G.graph_Graph.av r]))], []⟩ := by
 refine fun3_of_awp rfl Tryd.func71 rfl (by kernel_rfl) Tryd.ntmps71 (by simp) ?_
 unfold G.known_So_1__known_laid_1_2 at h
 show AWP _ _ _ _ ⟨[(0, .clo (.func 74) [.ref 0 0 0]), (1, .pp [.sl (List.map G.api_Txn.av a_0.Txns)] 0)], ⟨1, [(0, (2, [G.graph_Graph.av c_1]))], []⟩⟩ _
 refine awp_seqK fun K1 hK1 => awp_reg rfl <| AR.op rfl (aop_field_pp rfl rfl fd24_0 (by decide)) <| AR.op (r := .sl (List.map G.api_Txn.av a_0.Txns)) rfl (aop_load_pp rfl rfl sz22 rfl) <| AR.op rfl (t_len_sl G.api_Txn.av a_0.Txns rfl rfl el22) <| AR.keep [0, 1, 8, 9] rfl <| AR.op rfl (aop_move (.inl rfl) rfl) <| AR.nil ?_
 refine hK1 _ ?_
 refine awp_block <| awp_iter (fun (p : G.graph_Graph × Int) => G.known_So_1__known_laid_1_2_b1 a_0 p.1 p.2) (fun (p : G.graph_Graph × Int) => (⟨[(0, .clo (.func 74) [.ref 0 0 0]), (1, .pp [.sl (List.map G.api_Txn.av a_0.Txns)] 0), (8, .sl (List.map G.api_Txn.av a_0.Txns)), (9, i64 (Sh.len a_0.Txns)), (10, i64 p.2)], ⟨1, [(0, (2, [G.graph_Graph.av p.1]))], []⟩⟩ : St)) h (Weak.kt [0, 1, 8, 9, 10] rfl) ?_
 ·skip
  rintro ⟨c103, v104⟩ o1 h hx1
  replace h : G.known_So_1__known_laid_1_2_b1 a_0 c103 v104 = some o1 := h
  unfold G.known_So_1__known_laid_1_2_b1 at h
  refine awp_seqK fun K2 hK2 => awp_reg rfl <| AR.op rfl (aop_lss rfl rfl rfl) <| AR.nil <| hK2 _ ?_
  refine awp_seqK fun K3 hK3 => awp_cond rfl (fun hb105 => ?_) (fun hb105 => ?_)
  ·replace h := Sh.if_t h hb105
   refine awp_skip <| hK3 _ (AWP.weak (Weak.kt [0, 1, 8, 9, 10] rfl) ?_)
   refine awp_seqJ (fun (p : G.graph_Graph) => (⟨[(0, .clo (.func 74) [.ref 0 0 0]), (1, .pp [.sl (List.map G.api_Txn.av a_0.Txns)] 0), (8, .sl (List.map G.api_Txn.av a_0.Txns)), (9, i64 (Sh.len a_0.Txns)), (10, i64 v104)], ⟨1, [(0, (2, [G.graph_Graph.av p]))], []⟩⟩ : St)) (fun (p : G.graph_Graph) => G.known_So_1__known_laid_1_2_j1 v104 p = some o1) ?_ ?_
   ·rintro v125 h
    replace h : G.known_So_1__known_laid_1_2_j1 v104 v125 = some o1 := h
    unfold G.known_So_1__known_laid_1_2_j1 at h
    refine awp_reg rfl <| AR.op rfl (aop_add rfl rfl rfl rfl) <| AR.op rfl (aop_move (.inl rfl) rfl) <| AR.nil ?_
    replace h := Sh.next_eq h
    exact ⟨_, h, Weak.kt [0, 1, 8, 9, 10] rfl⟩
   ·intro K4 hK4
    refine awp_block <| awp_seqK fun K5 hK5 => awp_reg rfl <| AR.op rfl (aop_move (.inl rfl) rfl) ?_
    obtain ⟨x128, hx128, h⟩ := Sh.bind_some' h
    obtain ⟨k129, hi129, hl129⟩ := Sh.idx_some hx128
    refine AR.op rfl (t_index_sl G.api_Txn.av a_0.Txns hi129 hl129 rfl rfl rfl el22 rfl) <| AR.op (r := G.api_Txn.av x128) rfl (aop_load_pp rfl rfl sz53 rfl) <| AR.keep [0, 1, 8, 9, 10, 12, 14] rfl <| AR.op (r := .ref 1 0 0) rfl (aop_alloc 3 [.agg [i64 0, nilS, nilS]] rfl zr53 (by kernel_rfl) (.inl ⟨rfl, rfl⟩)) <| AR.op rfl (aop_move (.inr rfl) rfl) <| AR.op rfl (aop_store (e' := G.api_Txn.av x128) rfl rfl rfl rfl rfl rfl sz53 rfl dt rfl) <| AR.nil <| hK5 _ (AWP.weak (Weak.re (fr' := [(0, .clo (.func 74) [.ref 0 0 0]), (1, .pp [.sl (List.map G.api_Txn.av a_0.Txns)] 0), (8, .sl (List.map G.api_Txn.av a_0.Txns)), (9, i64 (Sh.len a_0.Txns)), (10, i64 v104), (4, .pp [i64 x128.Session, .sl (List.map i64 x128.Writes), .sl (List.map G.api_Take.av x128.Reads)] 0), (3, i64 v104)]) (H' := ⟨1, [(0, (2, [G.graph_Graph.av c103]))], []⟩) [(0, 0)] [] rfl rfl rfl (.cons rfl rfl (.one (.sm) rfl) dt trivial) ⟨⟨.clo (.func 74) [.ref 0 0 0], rfl, .cl ⟨.ref rfl, trivial⟩⟩, .k, ⟨.sl (List.map G.api_Txn.av a_0.Txns), rfl, .sm⟩, .k, .k, ⟨_, rfl, .frzA rfl rfl rfl rfl (by simp)⟩, .k, trivial⟩) ?_)
    refine awp_seqK fun K6 hK6 => awp_reg rfl <| AR.op rfl (aop_field_pp rfl rfl fd24_0 (by decide)) <| AR.op (r := .sl (List.map G.api_Txn.av a_0.Txns)) rfl (aop_load_pp rfl rfl sz22 rfl) <| AR.op rfl (aop_move (.inl rfl) rfl) <| AR.keep [0, 1, 8, 9, 10, 4, 3, 16, 17] rfl ?_
    obtain ⟨part131, hpart131, h⟩ := Sh.bind_some' h
    refine AR.op (r := .sl (List.map G.api_Txn.av part131)) rfl (t_sub G.api_Txn.av a_0.Txns part131 hpart131 (fun _ => rfl) rfl rfl (.inl rfl) (.inl ⟨rfl, rfl⟩) (.inr ⟨_, _, rfl, rfl⟩) el22) <| AR.op rfl (t_len_sl G.api_Txn.av part131 rfl rfl el22) <| AR.op rfl (aop_move (.inl rfl) rfl) <| AR.nil <| hK6 _ (AWP.weak (Weak.kt [0, 1, 8, 9, 10, 4, 3, 18, 19, 20] rfl) ?_)
    refine awp_block <| awp_iter (fun (p : G.graph_Graph × Int) => G.known_So_1__known_laid_1_2_b2 v104 x128 part131 p.1 p.2) (fun (p : G.graph_Graph × Int) => (⟨[(0, .clo (.func 74) [.ref 0 0 0]), (1, .pp [.sl (List.map G.api_Txn.av a_0.Txns)] 0), (8, .sl (List.map G.api_Txn.av a_0.Txns)), (9, i64 (Sh.len a_0.Txns)), (10, i64 v104), (4, .pp [i64 x128.Session, .sl (List.map i64 x128.Writes), .sl (List.map G.api_Take.av x128.Reads)] 0), (3, i64 v104), (18, .sl (List.map G.api_Txn.av part131)), (19, i64 (Sh.len part131)), (20, i64 p.2)], ⟨1, [(0, (2, [G.graph_Graph.av p.1]))], []⟩⟩ : St)) h (Weak.kt [0, 1, 8, 9, 10, 4, 3, 18, 19, 20] rfl) ?_
    ·skip
     rintro ⟨c142, v143⟩ o2 h hx2
     replace h : G.known_So_1__known_laid_1_2_b2 v104 x128 part131 c142 v143 = some o2 := h
     unfold G.known_So_1__known_laid_1_2_b2 at h
     refine awp_seqK fun K7 hK7 => awp_reg rfl <| AR.op rfl (aop_lss rfl rfl rfl) <| AR.nil <| hK7 _ ?_
     refine awp_seqK fun K8 hK8 => awp_cond rfl (fun hb144 => ?_) (fun hb144 => ?_)
     ·replace h := Sh.if_t h hb144
      refine awp_skip <| hK8 _ (AWP.weak (Weak.kt [0, 1, 8, 9, 10, 4, 3, 18, 19, 20] rfl) ?_)
      refine awp_seqJ (fun (p : G.graph_Graph) => (⟨[(0, .clo (.func 74) [.ref 0 0 0]), (1, .pp [.sl (List.map G.api_Txn.av a_0.Txns)] 0), (8, .sl (List.map G.api_Txn.av a_0.Txns)), (9, i64 (Sh.len a_0.Txns)), (10, i64 v104), (4, .pp [i64 x128.Session, .sl (List.map i64 x128.Writes), .sl (List.map G.api_Take.av x128.Reads)] 0), (3, i64 v104), (18, .sl (List.map G.api_Txn.av part131)), (19, i64 (Sh.len part131)), (20, i64 v143)], ⟨1, [(0, (2, [G.graph_Graph.av p]))], []⟩⟩ : St)) (fun (p : G.graph_Graph) => G.known_So_1__known_laid_1_2_j2 v143 p = some o2) ?_ ?_
      ·rintro c148 h
       replace h : G.known_So_1__known_laid_1_2_j2 v143 c148 = some o2 := h
       unfold G.known_So_1__known_laid_1_2_j2 at h
       refine awp_reg rfl <| AR.op rfl (aop_add rfl rfl rfl rfl) <| AR.op rfl (aop_move (.inl rfl) rfl) <| AR.nil ?_
       replace h := Sh.next_eq h
       exact ⟨_, h, Weak.kt [0, 1, 8, 9, 10, 4, 3, 18, 19, 20] rfl⟩
      ·intro K9 hK9
       refine awp_block <| awp_seqK fun K10 hK10 => awp_reg rfl <| AR.op rfl (aop_move (.inl rfl) rfl) ?_
       obtain ⟨x151, hx151, h⟩ := Sh.bind_some' h
       obtain ⟨k152, hi152, hl152⟩ := Sh.idx_some hx151
       refine AR.op rfl (t_index_sl G.api_Txn.av part131 hi152 hl152 rfl rfl rfl el22 rfl) <| AR.op (r := G.api_Txn.av x151) rfl (aop_load_pp rfl rfl sz53 rfl) <| AR.keep [0, 1, 8, 9, 10, 4, 3, 18, 19, 20, 22, 24] rfl <| AR.op (r := .ref 1 0 0) rfl (aop_alloc 3 [.agg [i64 0, nilS, nilS]] rfl zr53 (by kernel_rfl) (.inl ⟨rfl, rfl⟩)) <| AR.op rfl (aop_move (.inr rfl) rfl) <| AR.op rfl (aop_store (e' := G.api_Txn.av x151) rfl rfl rfl rfl rfl rfl sz53 rfl dt rfl) <| AR.nil <| hK10 _ (AWP.weak (Weak.re (fr' := [(0, .clo (.func 74) [.ref 0 0 0]), (1, .pp [.sl (List.map G.api_Txn.av a_0.Txns)] 0), (8, .sl (List.map G.api_Txn.av a_0.Txns)), (9, i64 (Sh.len a_0.Txns)), (10, i64 v104), (4, .pp [i64 x128.Session, .sl (List.map i64 x128.Writes), .sl (List.map G.api_Take.av x128.Reads)] 0), (3, i64 v104), (18, .sl (List.map G.api_Txn.av part131)), (19, i64 (Sh.len part131)), (20, i64 v143), (6, .pp [i64 x151.Session, .sl (List.map i64 x151.Writes), .sl (List.map G.api_Take.av x151.Reads)] 0), (5, i64 v143)]) (H' := ⟨1, [(0, (2, [G.graph_Graph.av c142]))], []⟩) [(0, 0)] [] rfl rfl rfl (.cons rfl rfl (.one (.sm) rfl) dt trivial) ⟨⟨.clo (.func 74) [.ref 0 0 0], rfl, .cl ⟨.ref rfl, trivial⟩⟩, .k, ⟨.sl (List.map G.api_Txn.av a_0.Txns), rfl, .sm⟩, .k, .k, .k, .k, ⟨.sl (List.map G.api_Txn.av part131), rfl, .sm⟩, .k, .k, ⟨_, rfl, .frzA rfl rfl rfl rfl (by simp)⟩, .k, trivial⟩) ?_)
       refine awp_seqK fun K11 hK11 => awp_reg rfl <| AR.op rfl (aop_field_pp rfl rfl fd53_0 (by decide)) <| AR.op (r := i64 x151.Session) rfl (aop_load_pp rfl rfl sz3 rfl) <| AR.op rfl (aop_field_pp rfl rfl fd53_0 (by decide)) <| AR.keep [0, 1, 8, 9, 10, 4, 3, 18, 19, 20, 5, 26, 27] rfl <| AR.op (r := i64 x128.Session) rfl (aop_load_pp rfl rfl sz3 rfl) <| AR.op (r := bl (decide (x151.Session = x128.Session))) rfl (aop_eql rfl rfl rfl) ?_
       refine AR.nil <| hK11 _ (AWP.weak (Weak.kt [0, 1, 8, 9, 10, 4, 3, 18, 19, 20, 5, 29] rfl) ?_)
       refine awp_cond rfl (fun hb153 => ?_) (fun hb153 => ?_)
       ·replace h := Sh.if_t h hb153
        refine awp_reg rfl <| AR.op rfl (aop_move (.inl rfl) rfl) <| AR.op rfl (aop_move (.inl rfl) rfl) <| AR.op rfl (aop_move (.inl rfl) rfl) <| AR.keep [0, 1, 8, 9, 10, 4, 3, 18, 19, 20, 30, 31, 32] rfl ?_
        obtain ⟨r154, hr154, h⟩ := Sh.bind_some' h
        refine AR.op (r := .tuple []) rfl (aop_call3E (ok := NoId) (ys := [i64 v143, i64 v104, .ref 0 0 0]) (xs := [i64 v143, i64 v104, .ref 0 0 0]) (r' := .tuple []) (Hs := ⟨1, [(0, (2, [G.graph_Graph.av c142]))], []⟩) (H' := ⟨2, [(0, (2, [G.graph_Graph.av r154]))], []⟩) (g := [(0, 0)]) (m := [(0, 0)]) (nw := []) (p := 1) (.clo (ys := [i64 v143, i64 v104]) (caps := [.ref 0 0 0]) rfl rfl rfl (known_laid_1__2_ok hT hr154).call) (known_laid_1__2_ok hT hr154) { next := rfl, part := ⟨rfl, trivial⟩, inj := rfl, lt := rfl, nwf := rfl, gin := rfl, held := .cons rfl rfl (.one (.sm) rfl) dt trivial, seen := ⟨⟨_, rfl, .sm⟩, ⟨_, rfl, .sm⟩, ⟨_, rfl, .ref rfl⟩, trivial⟩, inlps := rfl, ple := rfl, map := rfl, next' := rfl, back := .new 0 rfl rfl (.one ⟨.sm, .sm, trivial⟩) trivial, lps := .inl ⟨rfl, rfl⟩, mode := .inr ⟨fun _ h => h, rfl⟩, ren := .sm } rfl) <| AR.nil ?_
        exact hK9 r154 _ h (Weak.re [(0, 0)] [] rfl rfl rfl (.cons rfl rfl (.one (.sm) rfl) dt trivial) ⟨⟨.clo (.func 74) [.ref 0 0 0], rfl, .cl ⟨.ref rfl, trivial⟩⟩, .k, ⟨.sl (List.map G.api_Txn.av a_0.Txns), rfl, .sm⟩, .k, .k, .k, .k, ⟨.sl (List.map G.api_Txn.av part131), rfl, .sm⟩, .k, .k, trivial⟩)
       ·replace h := Sh.if_f h hb153
        refine awp_skip ?_
        exact hK9 c142 _ h (Weak.kt [0, 1, 8, 9, 10, 4, 3, 18, 19, 20] rfl)
     ·replace h := Sh.if_f h hb144
      refine awp_exit ?_
      replace h := Sh.exit_eq h hx2
      exact hK4 c142 _ h (Weak.kt [0, 1, 8, 9, 10] rfl)
  ·replace h := Sh.if_f h hb105
   refine awp_exit ?_
   replace h := Sh.exit_eq h hx1
   obtain rfl := Option.some.inj h
   refine ⟨.inl rfl, .tuple [], rfl, ?_⟩
   exact Weak.re [(0, 0)] [] rfl rfl rfl (.cons rfl rfl (.one (.sm) rfl) dt trivial) ⟨⟨.tuple [], rfl, .tp trivial⟩, trivial⟩


theorem known_laid__known_So_1_ok0 {W0 : World} (hT : Tab W0) {h_0 : G.api_Hist} {lay_1 : G.api_Hist} {r : G.graph_Graph} (h : G.known_laid__known_So_1 h_0 lay_1 = some r) : Fun2 Tryd.prog W0 62 [G.api_Hist.av h_0, .clo (.func 71) [.pp [.sl (List.map G.api_Txn.av lay_1.Txns)] 0]] (G.graph_Graph.av r) .empty := by
 refine fun2_of_awp Tryd.func62 rfl (by kernel_rfl) Tryd.ntmps62 (by simp) ?_
 unfold G.known_laid__known_So_1 at h
 show AWP _ _ _ _ ⟨[(0, G.api_Hist.av h_0), (1, .clo (.func 71) [.pp [.sl (List.map G.api_Txn.av lay_1.Txns)] 0])], .empty⟩ _
 refine awp_seqK fun K1 hK1 => awp_reg rfl <| AR.op (r := .ref 0 0 0) rfl (aop_box 1 [G.api_Hist.av h_0] rfl rfl rfl (.inl ⟨rfl, rfl⟩)) <| AR.op (r := .ref 1 0 0) rfl (aop_alloc 2 [.agg [i64 0, nilS]] rfl zr34 (by kernel_rfl) (.inl ⟨rfl, rfl⟩)) <| AR.nil <| hK1 _ (AWP.weak (Weak.re (fr' := [(1, .clo (.func 71) [.pp [.sl (List.map G.api_Txn.av lay_1.Txns)] 0]), (2, .pp [.sl (List.map G.api_Txn.av h_0.Txns)] 0), (4, .ref 0 0 0)]) (H' := ⟨1, [(0, (2, [.agg [i64 0, nilS]]))], []⟩) [(0, 1)] [] rfl rfl rfl (.cons rfl rfl (.one (.sm) rfl) dt trivial) ⟨⟨.clo (.func 71) [.pp [.sl (List.map G.api_Txn.av lay_1.Txns)] 0], rfl, .sm⟩, ⟨_, rfl, .frzA rfl rfl rfl rfl (by simp)⟩, ⟨_, rfl, .ref rfl⟩, trivial⟩) ?_)
 refine awp_seqK fun K2 hK2 => awp_seqK fun K3 hK3 => awp_reg rfl <| AR.op (r := G.api_Hist.av h_0) rfl (aop_load_pp rfl rfl sz24 rfl) ?_
 obtain ⟨r6, hr6, h⟩ := Sh.bind_some' h
 refine AR.op (r := bl r6) rfl (aop_call1 rfl rfl (by simp) (hist_Right_ok hT hr6)) <| AR.op (r := bl (!r6)) rfl (aop_not rfl rfl) <| AR.nil <| hK3 _ (AWP.weak (Weak.kt [1, 2, 4, 9] rfl) ?_)
 refine awp_cond rfl (fun hb7 => ?_) (fun hb7 => ?_)
 ·replace h := Sh.if_t h hb7
  refine awp_seqK fun K4 hK4 => awp_reg rfl <| AR.op (r := .agg [i64 0, nilS]) rfl (aop_build rfl bd34 rfl rfl rfl) <| AR.op rfl (aop_store (e' := .agg [i64 0, nilS]) rfl rfl rfl rfl rfl rfl sz34 rfl dt rfl) <| AR.nil <| hK4 _ (AWP.weak (Weak.kt [4] rfl) ?_)
  refine awp_ret ?_
  obtain rfl := Option.some.inj h
  refine ⟨.inr rfl, .agg [i64 0, nilS], rfl, ?_⟩
  exact Weak.e ⟨⟨.agg [i64 0, nilS], rfl, .ag ⟨.sm, .nilsl, trivial⟩⟩, trivial⟩
 ·replace h := Sh.if_f h hb7
  refine awp_skip <| hK2 _ (AWP.weak (Weak.kt [1, 2, 4] rfl) ?_)
  refine awp_seqK fun K5 hK5 => awp_reg rfl <| AR.op rfl (aop_field_pp rfl rfl fd24_0 (by decide)) <| AR.op (r := .sl (List.map G.api_Txn.av h_0.Txns)) rfl (aop_load_pp rfl rfl sz22 rfl) <| AR.op rfl (t_len_sl G.api_Txn.av h_0.Txns rfl rfl el22) <| AR.keep [1, 4, 14] rfl ?_
  obtain ⟨r9, hr9, h⟩ := Sh.bind_some' h
  refine AR.op (r := .tuple [G.graph_Graph.av r9.1, i64 r9.2]) rfl (aop_call1 rfl rfl (by simp) (graph_New_ok hT hr9)) <| AR.op rfl (aop_move (.inl rfl) rfl) <| AR.op (r := G.graph_Graph.av r9.1) rfl (aop_extract rfl rfl rfl) <| AR.keep [1, 4, 11, 16] rfl <| AR.op (r := i64 r9.2) rfl (aop_extract rfl rfl rfl) <| AR.op (r := .ref 1 0 0) rfl (aop_alloc 2 [.agg [i64 0, nilS]] rfl zr34 (by kernel_rfl) (.inl ⟨rfl, rfl⟩)) <| AR.op rfl (aop_store (e' := G.graph_Graph.av r9.1) rfl rfl rfl rfl rfl rfl sz34 rfl dt rfl) <| AR.keep [1, 4, 17, 5] rfl ?_
  refine AR.op rfl (aop_move (.inr rfl) rfl) <| AR.nil <| hK5 _ (AWP.weak (Weak.kt [1, 4, 5] rfl) ?_)
  refine awp_seqK fun K6 hK6 => awp_reg rfl <| AR.op rfl (aop_move (.inl rfl) rfl) <| AR.op (r := .clo (.func 74) [.ref 1 0 0]) rfl (aop_makeFunc rfl rfl) ?_
  obtain ⟨r11, hr11, h⟩ := Sh.bind_some' h
  refine AR.op (r := .tuple []) rfl (aop_call3E (ok := NoId) (ys := [.clo (.func 74) [.ref 1 0 0], .pp [.sl (List.map G.api_Txn.av lay_1.Txns)] 0]) (xs := [.clo (.func 74) [.ref 0 0 0], .pp [.sl (List.map G.api_Txn.av lay_1.Txns)] 0]) (r' := .tuple []) (Hs := ⟨2, [(1, (2, [G.graph_Graph.av r9.1]))], []⟩) (H' := ⟨3, [(0, (2, [.agg [i64 0, nilS]])), (1, (2, [G.graph_Graph.av r11]))], []⟩) (g := [(0, 1)]) (m := [(0, 1)]) (nw := []) (p := 1) (.clo (ys := [.clo (.func 74) [.ref 1 0 0]]) (caps := [.pp [.sl (List.map G.api_Txn.av lay_1.Txns)] 0]) rfl rfl rfl (known_So_1__known_laid_1_2_ok hT hr11).call) (known_So_1__known_laid_1_2_ok hT hr11) { next := rfl, part := ⟨rfl, trivial⟩, inj := rfl, lt := rfl, nwf := rfl, gin := rfl, held := .cons rfl rfl (.one (.sm) rfl) dt trivial, seen := ⟨⟨.clo (.func 74) [.ref 1 0 0], rfl, .cl ⟨.ref rfl, trivial⟩⟩, ⟨_, rfl, .sm⟩, trivial⟩, inlps := rfl, ple := rfl, map := rfl, next' := rfl, back := .kept rfl rfl (.new 0 rfl rfl (.one ⟨.sm, .sm, trivial⟩) trivial), lps := .inl ⟨rfl, rfl⟩, mode := .inr ⟨fun _ h => h, rfl⟩, ren := .sm } rfl) <| AR.nil <| hK6 _ (AWP.weak (Weak.re (fr' := [(4, .ref 0 0 0), (5, .ref 1 0 0)]) (H' := ⟨2, [(0, (2, [.agg [i64 0, nilS]])), (1, (2, [G.graph_Graph.av r11]))], []⟩) [(0, 0), (1, 1)] [] rfl rfl rfl (.cons rfl rfl (.one (.sm) rfl) dt (.cons rfl rfl (.one (.sm) rfl) dt trivial)) ⟨⟨_, rfl, .ref rfl⟩, ⟨_, rfl, .ref rfl⟩, trivial⟩) ?_)
  refine awp_seqK fun K7 hK7 => awp_reg rfl <| AR.op (r := G.graph_Graph.av r11) rfl (aop_load_ref rfl rfl rfl rfl sz34 rfl) <| AR.op rfl (aop_store (e' := G.graph_Graph.av r11) rfl rfl rfl rfl rfl rfl sz34 rfl dt rfl) <| AR.nil <| hK7 _ (AWP.weak (Weak.re (fr' := [(4, .ref 0 0 0)]) (H' := ⟨1, [(0, (2, [G.graph_Graph.av r11]))], []⟩) [(0, 0)] [] rfl rfl rfl (.cons rfl rfl (.one (.sm) rfl) dt trivial) ⟨⟨_, rfl, .ref rfl⟩, trivial⟩) ?_)
  refine awp_ret ?_
  obtain rfl := Option.some.inj h
  refine ⟨.inr rfl, G.graph_Graph.av r11, rfl, ?_⟩
  exact Weak.e ⟨⟨G.graph_Graph.av r11, rfl, .sm⟩, trivial⟩
theorem known_laid__known_So_1_ok {W0 : World} (hT : Tab W0) {h_0 : G.api_Hist} {lay_1 : G.api_Hist} {r : G.graph_Graph} (h : G.known_laid__known_So_1 h_0 lay_1 = some r) : Fun1 Tryd.prog W0 62 [G.api_Hist.av h_0, .clo (.func 71) [.pp [.sl (List.map G.api_Txn.av lay_1.Txns)] 0]] (G.graph_Graph.av r) := Fun1.two (known_laid__known_So_1_ok0 hT h) (by simp)


theorem known_So_ok0 {W0 : World} (hT : Tab W0) {h_0 : G.api_Hist} {r : G.graph_Graph} (h : G.known_So h_0 = some r) : Fun2 Tryd.prog W0 52 [G.api_Hist.av h_0] (G.graph_Graph.av r) .empty := by
 refine fun2_of_awp Tryd.func52 rfl (by kernel_rfl) Tryd.ntmps52 (by simp) ?_
 unfold G.known_So at h
 show AWP _ _ _ _ ⟨[(0, G.api_Hist.av h_0)], .empty⟩ _
 refine awp_seqK fun K1 hK1 => awp_reg rfl <| AR.op (r := .ref 0 0 0) rfl (aop_box 1 [G.api_Hist.av h_0] rfl rfl rfl (.inl ⟨rfl, rfl⟩)) <| AR.op (r := .ref 1 0 0) rfl (aop_alloc 2 [.agg [i64 0, nilS]] rfl zr34 (by kernel_rfl) (.inl ⟨rfl, rfl⟩)) <| AR.nil <| hK1 _ (AWP.weak (Weak.re (fr' := [(1, .pp [.sl (List.map G.api_Txn.av h_0.Txns)] 0), (2, .ref 0 0 0)]) (H' := ⟨1, [(0, (2, [.agg [i64 0, nilS]]))], []⟩) [(0, 1)] [] rfl rfl rfl (.cons rfl rfl (.one (.sm) rfl) dt trivial) ⟨⟨_, rfl, .frzA rfl rfl rfl rfl (by simp)⟩, ⟨_, rfl, .ref rfl⟩, trivial⟩) ?_)
 refine awp_seqK fun K2 hK2 => awp_reg rfl <| AR.op (r := G.api_Hist.av h_0) rfl (aop_load_pp rfl rfl sz24 rfl) <| AR.op (r := .clo (.func 71) [.pp [.sl (List.map G.api_Txn.av h_0.Txns)] 0]) rfl (aop_makeFunc rfl rfl) ?_
 obtain ⟨r3, hr3, h⟩ := Sh.bind_some' h
 refine AR.op (r := G.graph_Graph.av r3) rfl (aop_call1 rfl rfl (by simp) (known_laid__known_So_1_ok hT hr3)) <| AR.keep [2, 5] rfl <| AR.op rfl (aop_store (e' := G.graph_Graph.av r3) rfl rfl rfl rfl rfl rfl sz34 rfl dt rfl) <| AR.nil <| hK2 _ (AWP.weak (Weak.kt [2] rfl) ?_)
 refine awp_ret ?_
 obtain rfl := Option.some.inj h
 refine ⟨.inr rfl, G.graph_Graph.av r3, rfl, ?_⟩
 exact Weak.e ⟨⟨G.graph_Graph.av r3, rfl, .sm⟩, trivial⟩
theorem known_So_ok {W0 : World} (hT : Tab W0) {h_0 : G.api_Hist} {r : G.graph_Graph} (h : G.known_So h_0 = some r) : Fun1 Tryd.prog W0 52 [G.api_Hist.av h_0] (G.graph_Graph.av r) := Fun1.two (known_So_ok0 hT h) (by simp)


theorem known_Wr_1__known_laid_1_2_ok {W0 : World} (hT : Tab W0) {a_0 : G.api_Hist} {c_1 : G.graph_Graph} {r : G.graph_Graph} (h : G.known_Wr_1__known_laid_1_2 a_0 c_1 = some r) : Fun3 Tryd.prog (.pinned W0 1) 72 [.clo (.func 74) [.ref 0 0 0], .pp [.sl (List.map G.api_Txn.av a_0.Txns)] 0] ⟨1, [(0, (2, [G.graph_Graph.av c_1]))], []⟩ (.tuple []) ⟨1, [(0, (2, [G.graph_Graph.av r]))], []⟩ := by
 refine fun3_of_awp rfl Tryd.func72 rfl (by kernel_rfl) Tryd.ntmps72 (by simp) ?_
 unfold G.known_Wr_1__known_laid_1_2 at h
 show AWP _ _ _ _ ⟨[(0, .clo (.func 74) [.ref 0 0 0]), (1, .pp [.sl (List.map G.api_Txn.av a_0.Txns)] 0)], ⟨1, [(0, (2, [G.graph_Graph.av c_1]))], []⟩⟩ _
 refine awp_seqK fun K1 hK1 => awp_reg rfl <| AR.op rfl (aop_field_pp rfl rfl fd24_0 (by decide)) <| AR.op (r := .sl (List.map G.api_Txn.av a_0.Txns)) rfl (aop_load_pp rfl rfl sz22 rfl) <| AR.op rfl (t_len_sl G.api_Txn.av a_0.Txns rfl rfl el22) <| AR.keep [0, 8, 9] rfl <| AR.op rfl (aop_move (.inl rfl) rfl) <| AR.nil ?_
 refine hK1 _ ?_
 refine awp_block <| awp_iter (fun (p : G.graph_Graph × Int) => G.known_Wr_1__known_laid_1_2_b1 a_0 p.1 p.2) (fun (p : G.graph_Graph × Int) => (⟨[(0, .clo (.func 74) [.ref 0 0 0]), (8, .sl (List.map G.api_Txn.av a_0.Txns)), (9, i64 (Sh.len a_0.Txns)), (10, i64 p.2)], ⟨1, [(0, (2, [G.graph_Graph.av p.1]))], []⟩⟩ : St)) h (Weak.kt [0, 8, 9, 10] rfl) ?_
 ·skip
  rintro ⟨c83, v84⟩ o1 h hx1
  replace h : G.known_Wr_1__known_laid_1_2_b1 a_0 c83 v84 = some o1 := h
  unfold G.known_Wr_1__known_laid_1_2_b1 at h
  refine awp_seqK fun K2 hK2 => awp_reg rfl <| AR.op rfl (aop_lss rfl rfl rfl) <| AR.nil <| hK2 _ ?_
  refine awp_seqK fun K3 hK3 => awp_cond rfl (fun hb85 => ?_) (fun hb85 => ?_)
  ·replace h := Sh.if_t h hb85
   refine awp_skip <| hK3 _ (AWP.weak (Weak.kt [0, 8, 9, 10] rfl) ?_)
   refine awp_seqJ (fun (p : G.graph_Graph) => (⟨[(0, .clo (.func 74) [.ref 0 0 0]), (8, .sl (List.map G.api_Txn.av a_0.Txns)), (9, i64 (Sh.len a_0.Txns)), (10, i64 v84)], ⟨1, [(0, (2, [G.graph_Graph.av p]))], []⟩⟩ : St)) (fun (p : G.graph_Graph) => G.known_Wr_1__known_laid_1_2_j1 v84 p = some o1) ?_ ?_
   ·rintro v101 h
    replace h : G.known_Wr_1__known_laid_1_2_j1 v84 v101 = some o1 := h
    unfold G.known_Wr_1__known_laid_1_2_j1 at h
    refine awp_reg rfl <| AR.op rfl (aop_add rfl rfl rfl rfl) <| AR.op rfl (aop_move (.inl rfl) rfl) <| AR.nil ?_
    replace h := Sh.next_eq h
    exact ⟨_, h, Weak.kt [0, 8, 9, 10] rfl⟩
   ·intro K4 hK4
    refine awp_block <| awp_seqK fun K5 hK5 => awp_reg rfl <| AR.op rfl (aop_move (.inl rfl) rfl) ?_
    obtain ⟨x104, hx104, h⟩ := Sh.bind_some' h
    obtain ⟨k105, hi105, hl105⟩ := Sh.idx_some hx104
    refine AR.op rfl (t_index_sl G.api_Txn.av a_0.Txns hi105 hl105 rfl rfl rfl el22 rfl) <| AR.op (r := G.api_Txn.av x104) rfl (aop_load_pp rfl rfl sz53 rfl) <| AR.keep [0, 8, 9, 10, 12, 14] rfl <| AR.op (r := .ref 1 0 0) rfl (aop_alloc 3 [.agg [i64 0, nilS, nilS]] rfl zr53 (by kernel_rfl) (.inl ⟨rfl, rfl⟩)) <| AR.op rfl (aop_move (.inr rfl) rfl) <| AR.op rfl (aop_store (e' := G.api_Txn.av x104) rfl rfl rfl rfl rfl rfl sz53 rfl dt rfl) <| AR.nil <| hK5 _ (AWP.weak (Weak.re (fr' := [(0, .clo (.func 74) [.ref 0 0 0]), (8, .sl (List.map G.api_Txn.av a_0.Txns)), (9, i64 (Sh.len a_0.Txns)), (10, i64 v84), (4, .pp [i64 x104.Session, .sl (List.map i64 x104.Writes), .sl (List.map G.api_Take.av x104.Reads)] 0), (3, i64 v84)]) (H' := ⟨1, [(0, (2, [G.graph_Graph.av c83]))], []⟩) [(0, 0)] [] rfl rfl rfl (.cons rfl rfl (.one (.sm) rfl) dt trivial) ⟨⟨.clo (.func 74) [.ref 0 0 0], rfl, .cl ⟨.ref rfl, trivial⟩⟩, ⟨.sl (List.map G.api_Txn.av a_0.Txns), rfl, .sm⟩, .k, .k, ⟨_, rfl, .frzA rfl rfl rfl rfl (by simp)⟩, .k, trivial⟩) ?_)
    refine awp_seqK fun K6 hK6 => awp_reg rfl <| AR.op rfl (aop_field_pp rfl rfl fd53_2 (by decide)) <| AR.op (r := .sl (List.map G.api_Take.av x104.Reads)) rfl (aop_load_pp rfl rfl sz51 rfl) <| AR.op rfl (t_len_sl G.api_Take.av x104.Reads rfl rfl el51) <| AR.keep [0, 8, 9, 10, 3, 16, 17] rfl <| AR.op rfl (aop_move (.inl rfl) rfl) <| AR.nil ?_
    refine hK6 _ ?_
    refine awp_block <| awp_iter (fun (p : G.graph_Graph × Int) => G.known_Wr_1__known_laid_1_2_b2 v84 x104 p.1 p.2) (fun (p : G.graph_Graph × Int) => (⟨[(0, .clo (.func 74) [.ref 0 0 0]), (8, .sl (List.map G.api_Txn.av a_0.Txns)), (9, i64 (Sh.len a_0.Txns)), (10, i64 v84), (3, i64 v84), (16, .sl (List.map G.api_Take.av x104.Reads)), (17, i64 (Sh.len x104.Reads)), (18, i64 p.2)], ⟨1, [(0, (2, [G.graph_Graph.av p.1]))], []⟩⟩ : St)) h (Weak.kt [0, 8, 9, 10, 3, 16, 17, 18] rfl) ?_
    ·skip
     rintro ⟨c114, v115⟩ o2 h hx2
     replace h : G.known_Wr_1__known_laid_1_2_b2 v84 x104 c114 v115 = some o2 := h
     unfold G.known_Wr_1__known_laid_1_2_b2 at h
     refine awp_seqK fun K7 hK7 => awp_reg rfl <| AR.op rfl (aop_lss rfl rfl rfl) <| AR.nil <| hK7 _ ?_
     refine awp_seqK fun K8 hK8 => awp_cond rfl (fun hb116 => ?_) (fun hb116 => ?_)
     ·replace h := Sh.if_t h hb116
      refine awp_skip <| hK8 _ (AWP.weak (Weak.kt [0, 8, 9, 10, 3, 16, 17, 18] rfl) ?_)
      refine awp_seqK fun K9 hK9 => awp_block <| awp_seqK fun K10 hK10 => awp_reg rfl ?_
      obtain ⟨x122, hx122, h⟩ := Sh.bind_some' h
      obtain ⟨k123, hi123, hl123⟩ := Sh.idx_some hx122
      refine AR.op rfl (t_index_sl G.api_Take.av x104.Reads hi123 hl123 rfl rfl rfl el51 rfl) <| AR.op (r := G.api_Take.av x122) rfl (aop_load_pp rfl rfl sz50 rfl) <| AR.op (r := .ref 1 0 0) rfl (aop_alloc 2 [.agg [i64 0, i64 0]] rfl zr50 (by kernel_rfl) (.inl ⟨rfl, rfl⟩)) <| AR.keep [0, 8, 9, 10, 3, 16, 17, 18, 21, 6] rfl <| AR.op rfl (aop_store (e' := G.api_Take.av x122) rfl rfl rfl rfl rfl rfl sz50 rfl dt rfl) <| AR.nil <| hK10 _ (AWP.weak (Weak.re (fr' := [(0, .clo (.func 74) [.ref 0 0 0]), (8, .sl (List.map G.api_Txn.av a_0.Txns)), (9, i64 (Sh.len a_0.Txns)), (10, i64 v84), (3, i64 v84), (16, .sl (List.map G.api_Take.av x104.Reads)), (17, i64 (Sh.len x104.Reads)), (18, i64 v115), (6, .pp [i64 x122.Key, i64 x122.From] 0)]) (H' := ⟨1, [(0, (2, [G.graph_Graph.av c114]))], []⟩) [(0, 0)] [] rfl rfl rfl (.cons rfl rfl (.one (.sm) rfl) dt trivial) ⟨⟨.clo (.func 74) [.ref 0 0 0], rfl, .cl ⟨.ref rfl, trivial⟩⟩, ⟨.sl (List.map G.api_Txn.av a_0.Txns), rfl, .sm⟩, .k, .k, .k, ⟨.sl (List.map G.api_Take.av x104.Reads), rfl, .sm⟩, .k, .k, ⟨_, rfl, .frzA rfl rfl rfl rfl (by simp)⟩, trivial⟩) ?_)
      refine awp_reg rfl <| AR.op rfl (aop_move (.inl rfl) rfl) <| AR.op rfl (aop_field_pp rfl rfl fd50_1 (by decide)) <| AR.op (r := i64 x122.From) rfl (aop_load_pp rfl rfl sz3 rfl) <| AR.keep [0, 8, 9, 10, 3, 16, 17, 18, 22, 24] rfl <| AR.op rfl (aop_move (.inl rfl) rfl) ?_
      obtain ⟨r124, hr124, h⟩ := Sh.bind_some' h
      refine AR.op (r := .tuple []) rfl (aop_call3E (ok := NoId) (ys := [i64 x122.From, i64 v84, .ref 0 0 0]) (xs := [i64 x122.From, i64 v84, .ref 0 0 0]) (r' := .tuple []) (Hs := ⟨1, [(0, (2, [G.graph_Graph.av c114]))], []⟩) (H' := ⟨2, [(0, (2, [G.graph_Graph.av r124]))], []⟩) (g := [(0, 0)]) (m := [(0, 0)]) (nw := []) (p := 1) (.clo (ys := [i64 x122.From, i64 v84]) (caps := [.ref 0 0 0]) rfl rfl rfl (known_laid_1__2_ok hT hr124).call) (known_laid_1__2_ok hT hr124) { next := rfl, part := ⟨rfl, trivial⟩, inj := rfl, lt := rfl, nwf := rfl, gin := rfl, held := .cons rfl rfl (.one (.sm) rfl) dt trivial, seen := ⟨⟨_, rfl, .sm⟩, ⟨_, rfl, .sm⟩, ⟨_, rfl, .ref rfl⟩, trivial⟩, inlps := rfl, ple := rfl, map := rfl, next' := rfl, back := .new 0 rfl rfl (.one ⟨.sm, .sm, trivial⟩) trivial, lps := .inl ⟨rfl, rfl⟩, mode := .inr ⟨fun _ h => h, rfl⟩, ren := .sm } rfl) <| AR.nil <| hK9 _ (AWP.weak (Weak.re (fr' := [(0, .clo (.func 74) [.ref 0 0 0]), (8, .sl (List.map G.api_Txn.av a_0.Txns)), (9, i64 (Sh.len a_0.Txns)), (10, i64 v84), (3, i64 v84), (16, .sl (List.map G.api_Take.av x104.Reads)), (17, i64 (Sh.len x104.Reads)), (18, i64 v115)]) (H' := ⟨1, [(0, (2, [G.graph_Graph.av r124]))], []⟩) [(0, 0)] [] rfl rfl rfl (.cons rfl rfl (.one (.sm) rfl) dt trivial) ⟨⟨.clo (.func 74) [.ref 0 0 0], rfl, .cl ⟨.ref rfl, trivial⟩⟩, ⟨.sl (List.map G.api_Txn.av a_0.Txns), rfl, .sm⟩, .k, .k, .k, ⟨.sl (List.map G.api_Take.av x104.Reads), rfl, .sm⟩, .k, .k, trivial⟩) ?_)
      refine awp_reg rfl <| AR.op rfl (aop_add rfl rfl rfl rfl) <| AR.op rfl (aop_move (.inl rfl) rfl) <| AR.nil ?_
      replace h := Sh.next_eq h
      exact ⟨_, h, Weak.kt [0, 8, 9, 10, 3, 16, 17, 18] rfl⟩
     ·replace h := Sh.if_f h hb116
      refine awp_exit ?_
      replace h := Sh.exit_eq h hx2
      exact hK4 c114 _ h (Weak.kt [0, 8, 9, 10] rfl)
  ·replace h := Sh.if_f h hb85
   refine awp_exit ?_
   replace h := Sh.exit_eq h hx1
   obtain rfl := Option.some.inj h
   refine ⟨.inl rfl, .tuple [], rfl, ?_⟩
   exact Weak.re [(0, 0)] [] rfl rfl rfl (.cons rfl rfl (.one (.sm) rfl) dt trivial) ⟨⟨.tuple [], rfl, .tp trivial⟩, trivial⟩


theorem known_laid__known_Wr_1_ok0 {W0 : World} (hT : Tab W0) {h_0 : G.api_Hist} {lay_1 : G.api_Hist} {r : G.graph_Graph} (h : G.known_laid__known_Wr_1 h_0 lay_1 = some r) : Fun2 Tryd.prog W0 62 [G.api_Hist.av h_0, .clo (.func 72) [.pp [.sl (List.map G.api_Txn.av lay_1.Txns)] 0]] (G.graph_Graph.av r) .empty := by
 refine fun2_of_awp Tryd.func62 rfl (by kernel_rfl) Tryd.ntmps62 (by simp) ?_
 unfold G.known_laid__known_Wr_1 at h
 show AWP _ _ _ _ ⟨[(0, G.api_Hist.av h_0), (1, .clo (.func 72) [.pp [.sl (List.map G.api_Txn.av lay_1.Txns)] 0])], .empty⟩ _
 refine awp_seqK fun K1 hK1 => awp_reg rfl <| AR.op (r := .ref 0 0 0) rfl (aop_box 1 [G.api_Hist.av h_0] rfl rfl rfl (.inl ⟨rfl, rfl⟩)) <| AR.op (r := .ref 1 0 0) rfl (aop_alloc 2 [.agg [i64 0, nilS]] rfl zr34 (by kernel_rfl) (.inl ⟨rfl, rfl⟩)) <| AR.nil <| hK1 _ (AWP.weak (Weak.re (fr' := [(1, .clo (.func 72) [.pp [.sl (List.map G.api_Txn.av lay_1.Txns)] 0]), (2, .pp [.sl (List.map G.api_Txn.av h_0.Txns)] 0), (4, .ref 0 0 0)]) (H' := ⟨1, [(0, (2, [.agg [i64 0, nilS]]))], []⟩) [(0, 1)] [] rfl rfl rfl (.cons rfl rfl (.one (.sm) rfl) dt trivial) ⟨⟨.clo (.func 72) [.pp [.sl (List.map G.api_Txn.av lay_1.Txns)] 0], rfl, .sm⟩, ⟨_, rfl, .frzA rfl rfl rfl rfl (by simp)⟩, ⟨_, rfl, .ref rfl⟩, trivial⟩) ?_)
 refine awp_seqK fun K2 hK2 => awp_seqK fun K3 hK3 => awp_reg rfl <| AR.op (r := G.api_Hist.av h_0) rfl (aop_load_pp rfl rfl sz24 rfl) ?_
 obtain ⟨r6, hr6, h⟩ := Sh.bind_some' h
 refine AR.op (r := bl r6) rfl (aop_call1 rfl rfl (by simp) (hist_Right_ok hT hr6)) <| AR.op (r := bl (!r6)) rfl (aop_not rfl rfl) <| AR.nil <| hK3 _ (AWP.weak (Weak.kt [1, 2, 4, 9] rfl) ?_)
 refine awp_cond rfl (fun hb7 => ?_) (fun hb7 => ?_)
 ·replace h := Sh.if_t h hb7
  refine awp_seqK fun K4 hK4 => awp_reg rfl <| AR.op (r := .agg [i64 0, nilS]) rfl (aop_build rfl bd34 rfl rfl rfl) <| AR.op rfl (aop_store (e' := .agg [i64 0, nilS]) rfl rfl rfl rfl rfl rfl sz34 rfl dt rfl) <| AR.nil <| hK4 _ (AWP.weak (Weak.kt [4] rfl) ?_)
  refine awp_ret ?_
  obtain rfl := Option.some.inj h
  refine ⟨.inr rfl, .agg [i64 0, nilS], rfl, ?_⟩
  exact Weak.e ⟨⟨.agg [i64 0, nilS], rfl, .ag ⟨.sm, .nilsl, trivial⟩⟩, trivial⟩
 ·replace h := Sh.if_f h hb7
  refine awp_skip <| hK2 _ (AWP.weak (Weak.kt [1, 2, 4] rfl) ?_)
  refine awp_seqK fun K5 hK5 => awp_reg rfl <| AR.op rfl (aop_field_pp rfl rfl fd24_0 (by decide)) <| AR.op (r := .sl (List.map G.api_Txn.av h_0.Txns)) rfl (aop_load_pp rfl rfl sz22 rfl) <| AR.op rfl (t_len_sl G.api_Txn.av h_0.Txns rfl rfl el22) <| AR.keep [1, 4, 14] rfl ?_
  obtain ⟨r9, hr9, h⟩ := Sh.bind_some' h
  refine AR.op (r := .tuple [G.graph_Graph.av r9.1, i64 r9.2]) rfl (aop_call1 rfl rfl (by simp) (graph_New_ok hT hr9)) <| AR.op rfl (aop_move (.inl rfl) rfl) <| AR.op (r := G.graph_Graph.av r9.1) rfl (aop_extract rfl rfl rfl) <| AR.keep [1, 4, 11, 16] rfl <| AR.op (r := i64 r9.2) rfl (aop_extract rfl rfl rfl) <| AR.op (r := .ref 1 0 0) rfl (aop_alloc 2 [.agg [i64 0, nilS]] rfl zr34 (by kernel_rfl) (.inl ⟨rfl, rfl⟩)) <| AR.op rfl (aop_store (e' := G.graph_Graph.av r9.1) rfl rfl rfl rfl rfl rfl sz34 rfl dt rfl) <| AR.keep [1, 4, 17, 5] rfl ?_
  refine AR.op rfl (aop_move (.inr rfl) rfl) <| AR.nil <| hK5 _ (AWP.weak (Weak.kt [1, 4, 5] rfl) ?_)
  refine awp_seqK fun K6 hK6 => awp_reg rfl <| AR.op rfl (aop_move (.inl rfl) rfl) <| AR.op (r := .clo (.func 74) [.ref 1 0 0]) rfl (aop_makeFunc rfl rfl) ?_
  obtain ⟨r11, hr11, h⟩ := Sh.bind_some' h
  refine AR.op (r := .tuple []) rfl (aop_call3E (ok := NoId) (ys := [.clo (.func 74) [.ref 1 0 0], .pp [.sl (List.map G.api_Txn.av lay_1.Txns)] 0]) (xs := [.clo (.func 74) [.ref 0 0 0], .pp [.sl (List.map G.api_Txn.av lay_1.Txns)] 0]) (r' := .tuple []) (Hs := ⟨2, [(1, (2, [G.graph_Graph.av r9.1]))], []⟩) (H' := ⟨3, [(0, (2, [.agg [i64 0, nilS]])), (1, (2, [G.graph_Graph.av r11]))], []⟩) (g := [(0, 1)]) (m := [(0, 1)]) (nw := []) (p := 1) (.clo (ys := [.clo (.func 74) [.ref 1 0 0]]) (caps := [.pp [.sl (List.map G.api_Txn.av lay_1.Txns)] 0]) rfl rfl rfl (known_Wr_1__known_laid_1_2_ok hT hr11).call) (known_Wr_1__known_laid_1_2_ok hT hr11) { next := rfl, part := ⟨rfl, trivial⟩, inj := rfl, lt := rfl, nwf := rfl, gin := rfl, held := .cons rfl rfl (.one (.sm) rfl) dt trivial, seen := ⟨⟨.clo (.func 74) [.ref 1 0 0], rfl, .cl ⟨.ref rfl, trivial⟩⟩, ⟨_, rfl, .sm⟩, trivial⟩, inlps := rfl, ple := rfl, map := rfl, next' := rfl, back := .kept rfl rfl (.new 0 rfl rfl (.one ⟨.sm, .sm, trivial⟩) trivial), lps := .inl ⟨rfl, rfl⟩, mode := .inr ⟨fun _ h => h, rfl⟩, ren := .sm } rfl) <| AR.nil <| hK6 _ (AWP.weak (Weak.re (fr' := [(4, .ref 0 0 0), (5, .ref 1 0 0)]) (H' := ⟨2, [(0, (2, [.agg [i64 0, nilS]])), (1, (2, [G.graph_Graph.av r11]))], []⟩) [(0, 0), (1, 1)] [] rfl rfl rfl (.cons rfl rfl (.one (.sm) rfl) dt (.cons rfl rfl (.one (.sm) rfl) dt trivial)) ⟨⟨_, rfl, .ref rfl⟩, ⟨_, rfl, .ref rfl⟩, trivial⟩) ?_)
  refine awp_seqK fun K7 hK7 => awp_reg rfl <| AR.op (r := G.graph_Graph.av r11) rfl (aop_load_ref rfl rfl rfl rfl sz34 rfl) <| AR.op rfl (aop_store (e' := G.graph_Graph.av r11) rfl rfl rfl rfl rfl rfl sz34 rfl dt rfl) <| AR.nil <| hK7 _ (AWP.weak (Weak.re (fr' := [(4, .ref 0 0 0)]) (H' := ⟨1, [(0, (2, [G.graph_Graph.av r11]))], []⟩) [(0, 0)] [] rfl rfl rfl (.cons rfl rfl (.one (.sm) rfl) dt trivial) ⟨⟨_, rfl, .ref rfl⟩, trivial⟩) ?_)
  refine awp_ret ?_
  obtain rfl := Option.some.inj h
  refine ⟨.inr rfl, G.graph_Graph.av r11, rfl, ?_⟩
  exact Weak.e ⟨⟨G.graph_Graph.av r11, rfl, .sm⟩, trivial⟩
theorem known_laid__known_Wr_1_ok {W0 : World} (hT : Tab W0) {h_0 : G.api_Hist} {lay_1 : G.api_Hist} {r : G.graph_Graph} (h : G.known_laid__known_Wr_1 h_0 lay_1 = some r) : Fun1 Tryd.prog W0 62 [G.api_Hist.av h_0, .clo (.func 72) [.pp [.sl (List.map G.api_Txn.av lay_1.Txns)] 0]] (G.graph_Graph.av r) := Fun1.two (known_laid__known_Wr_1_ok0 hT h) (by simp)


theorem known_Wr_ok0 {W0 : World} (hT : Tab W0) {h_0 : G.api_Hist} {r : G.graph_Graph} (h : G.known_Wr h_0 = some r) : Fun2 Tryd.prog W0 53 [G.api_Hist.av h_0] (G.graph_Graph.av r) .empty := by
 refine fun2_of_awp Tryd.func53 rfl (by kernel_rfl) Tryd.ntmps53 (by simp) ?_
 unfold G.known_Wr at h
 show AWP _ _ _ _ ⟨[(0, G.api_Hist.av h_0)], .empty⟩ _
 refine awp_seqK fun K1 hK1 => awp_reg rfl <| AR.op (r := .ref 0 0 0) rfl (aop_box 1 [G.api_Hist.av h_0] rfl rfl rfl (.inl ⟨rfl, rfl⟩)) <| AR.op (r := .ref 1 0 0) rfl (aop_alloc 2 [.agg [i64 0, nilS]] rfl zr34 (by kernel_rfl) (.inl ⟨rfl, rfl⟩)) <| AR.nil <| hK1 _ (AWP.weak (Weak.re (fr' := [(1, .pp [.sl (List.map G.api_Txn.av h_0.Txns)] 0), (2, .ref 0 0 0)]) (H' := ⟨1, [(0, (2, [.agg [i64 0, nilS]]))], []⟩) [(0, 1)] [] rfl rfl rfl (.cons rfl rfl (.one (.sm) rfl) dt trivial) ⟨⟨_, rfl, .frzA rfl rfl rfl rfl (by simp)⟩, ⟨_, rfl, .ref rfl⟩, trivial⟩) ?_)
 refine awp_seqK fun K2 hK2 => awp_reg rfl <| AR.op (r := G.api_Hist.av h_0) rfl (aop_load_pp rfl rfl sz24 rfl) <| AR.op (r := .clo (.func 72) [.pp [.sl (List.map G.api_Txn.av h_0.Txns)] 0]) rfl (aop_makeFunc rfl rfl) ?_
 obtain ⟨r3, hr3, h⟩ := Sh.bind_some' h
 refine AR.op (r := G.graph_Graph.av r3) rfl (aop_call1 rfl rfl (by simp) (known_laid__known_Wr_1_ok hT hr3)) <| AR.keep [2, 5] rfl <| AR.op rfl (aop_store (e' := G.graph_Graph.av r3) rfl rfl rfl rfl rfl rfl sz34 rfl dt rfl) <| AR.nil <| hK2 _ (AWP.weak (Weak.kt [2] rfl) ?_)
 refine awp_ret ?_
 obtain rfl := Option.some.inj h
 refine ⟨.inr rfl, G.graph_Graph.av r3, rfl, ?_⟩
 exact Weak.e ⟨⟨G.graph_Graph.av r3, rfl, .sm⟩, trivial⟩
theorem known_Wr_ok {W0 : World} (hT : Tab W0) {h_0 : G.api_Hist} {r : G.graph_Graph} (h : G.known_Wr h_0 = some r) : Fun1 Tryd.prog W0 53 [G.api_Hist.av h_0] (G.graph_Graph.av r) := Fun1.two (known_Wr_ok0 hT h) (by simp)


theorem known_Past_ok0 {W0 : World} (hT : Tab W0) {h_0 : G.api_Hist} {r : G.graph_Graph} (h : G.known_Past h_0 = some r) : Fun2 Tryd.prog W0 29 [G.api_Hist.av h_0] (G.graph_Graph.av r) .empty := by
 refine fun2_of_awp Tryd.func29 rfl (by kernel_rfl) Tryd.ntmps29 (by simp) ?_
 unfold G.known_Past at h
 show AWP _ _ _ _ ⟨[(0, G.api_Hist.av h_0)], .empty⟩ _
 refine awp_seqK fun K1 hK1 => awp_reg rfl <| AR.op (r := .ref 0 0 0) rfl (aop_box 1 [G.api_Hist.av h_0] rfl rfl rfl (.inl ⟨rfl, rfl⟩)) <| AR.op (r := .ref 1 0 0) rfl (aop_alloc 2 [.agg [i64 0, nilS]] rfl zr34 (by kernel_rfl) (.inl ⟨rfl, rfl⟩)) <| AR.nil <| hK1 _ (AWP.weak (Weak.re (fr' := [(1, .pp [.sl (List.map G.api_Txn.av h_0.Txns)] 0), (2, .ref 0 0 0)]) (H' := ⟨1, [(0, (2, [.agg [i64 0, nilS]]))], []⟩) [(0, 1)] [] rfl rfl rfl (.cons rfl rfl (.one (.sm) rfl) dt trivial) ⟨⟨_, rfl, .frzA rfl rfl rfl rfl (by simp)⟩, ⟨_, rfl, .ref rfl⟩, trivial⟩) ?_)
 refine awp_seqK fun K2 hK2 => awp_any [(true, false), (true, false), (true, false), (true, false), (true, false), (true, false), (true, false), (true, false), (false, true), (false, true), (true, false)] (by kernel_rfl) (by kernel_rfl) rfl ?_
 refine ARH.dry (r := G.api_Hist.av h_0) rfl (fun _ => aop_load_pp rfl rfl sz24 rfl) ?_
 obtain ⟨r7, hr7, h⟩ := Sh.bind_some' h
 refine ARH.dry (r := G.graph_Graph.av r7) rfl (fun _ => aop_call1 rfl rfl (by simp) (known_So_ok hT hr7)) <| ARH.dry (r := G.api_Hist.av h_0) rfl (fun _ => aop_load_pp rfl rfl sz24 rfl) <| ARH.keep [2, 7, 8] rfl ?_
 obtain ⟨r8, hr8, h⟩ := Sh.bind_some' h
 refine ARH.dry (r := G.graph_Graph.av r8) rfl (fun _ => aop_call1 rfl rfl (by simp) (known_Wr_ok hT hr8)) ?_
 obtain ⟨r9, hr9, h⟩ := Sh.bind_some' h
 refine ARH.dry (r := .tuple [G.graph_Graph.av r9.1, i64 r9.2]) rfl (fun _ => aop_call1 rfl rfl (by simp) (graph_Union_ok hT hr9)) <| ARH.dry rfl (fun _ => aop_move (.inl rfl) rfl) <| ARH.keep [2, 5] rfl <| ARH.dry (r := G.graph_Graph.av r9.1) rfl (fun _ => aop_extract rfl rfl rfl) <| ARH.dry (r := i64 r9.2) rfl (fun _ => aop_extract rfl rfl rfl) <| ARH.loud (r := .ref 1 0 0) rfl rfl (aop_alloc 2 [.agg [i64 0, nilS]] rfl zr34 (by kernel_rfl) (.inl ⟨rfl, rfl⟩)) <| ARH.keep [2, 11, 12, 3] rfl <| ARH.loud rfl rfl (aop_store (e' := G.graph_Graph.av r9.1) rfl rfl rfl rfl rfl rfl sz34 rfl dt rfl) ?_
 refine ARH.dry rfl (fun _ => aop_move (.inr rfl) rfl) <| ARH.nil <| hK2 _ (AWP.weak (Weak.re (fr' := [(2, .ref 0 0 0), (3, .pp [i64 r9.1.N, .sl (List.map u64 r9.1.Rows)] 0)]) (H' := ⟨1, [(0, (2, [.agg [i64 0, nilS]]))], []⟩) [(0, 0)] [] rfl rfl rfl (.cons rfl rfl (.one (.sm) rfl) dt trivial) ⟨⟨_, rfl, .ref rfl⟩, ⟨_, rfl, .frzA rfl rfl rfl rfl (by simp)⟩, trivial⟩) ?_)
 refine awp_seqK fun K3 hK3 => awp_reg rfl <| AR.op (r := G.graph_Graph.av r9.1) rfl (aop_load_pp rfl rfl sz34 rfl) <| AR.op rfl (aop_store (e' := G.graph_Graph.av r9.1) rfl rfl rfl rfl rfl rfl sz34 rfl dt rfl) <| AR.nil <| hK3 _ (AWP.weak (Weak.kt [2] rfl) ?_)
 refine awp_ret ?_
 obtain rfl := Option.some.inj h
 refine ⟨.inr rfl, G.graph_Graph.av r9.1, rfl, ?_⟩
 exact Weak.e ⟨⟨G.graph_Graph.av r9.1, rfl, .sm⟩, trivial⟩
theorem known_Past_ok {W0 : World} (hT : Tab W0) {h_0 : G.api_Hist} {r : G.graph_Graph} (h : G.known_Past h_0 = some r) : Fun1 Tryd.prog W0 29 [G.api_Hist.av h_0] (G.graph_Graph.av r) := Fun1.two (known_Past_ok0 hT h) (by simp)

end Wk
