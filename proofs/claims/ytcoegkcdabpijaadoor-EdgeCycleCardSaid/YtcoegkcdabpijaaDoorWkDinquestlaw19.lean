/- That the functions of a package do what their plain functions say. -/
import Derived.Test.YtcoegkcdabpijaaDoorSh
import Derived.Test.YtcoegkcdabpijaaDoorWkDFacts
import Derived.Test.YtcoegkcdabpijaaDoorWkDchoice
import Derived.Test.YtcoegkcdabpijaaDoorWkDcycle
import Derived.Test.YtcoegkcdabpijaaDoorWkDedge
import Derived.Test.YtcoegkcdabpijaaDoorWkDgraph
import Derived.Test.YtcoegkcdabpijaaDoorWkDinquestref08
open Go Go.Av Go.Proofs
set_option linter.unusedVariables false
set_option maxHeartbeats 8000000
set_option maxRecDepth 20000
namespace Wk
theorem inquestlaw19_awake_ok0 {W0 : World} (hT : Tab W0) {r : Bool} (h : G.inquestlaw19_awake = some r) : Fun2 Tryd.prog W0 6 [] (bl r) .empty := by
 refine fun2_of_awp Tryd.func6 rfl (by kernel_rfl) Tryd.ntmps6 (by simp) ?_
 unfold G.inquestlaw19_awake at h
 show AWP _ _ _ _ ⟨[], .empty⟩ _
 refine awp_seqK fun K1 hK1 => awp_reg rfl <| AR.op rfl (aop_move (.inr rfl) rfl) <| AR.nil <| hK1 _ (AWP.weak (Weak.kt [] rfl) ?_)
 refine awp_seqK fun K2 hK2 => awp_reg rfl <| AR.op (r := .agg [i64 4, i64 1]) rfl (aop_build rfl bd50 rfl rfl rfl) <| AR.op (r := .clip (List.map G.api_Take.av ([(G.api_Take.mk 4 1)] : List G.api_Take))) rfl (aop_buildSlice rfl (xo := [.tmp 3]) rfl rfl rfl (by simp) (by simp) el51 ze51 (by decide)) <| AR.op (r := .agg [i64 1, nilS, .clip (List.map G.api_Take.av ([(G.api_Take.mk 4 1)] : List G.api_Take))]) rfl (aop_build rfl bd53 rfl rfl rfl) <| AR.keep [5] rfl <| AR.op (r := .clip (List.map i64 [4])) rfl (aop_buildSlice rfl (xo := [.const (.int .i64 4)]) rfl rfl rfl (by simp [AV.solid]) (by simp [AV.flat]) el26 ze26 (by decide)) <| AR.op (r := .agg [i64 2, .clip (List.map i64 [4]), nilS]) rfl (aop_build rfl bd53 rfl rfl rfl) ?_
 refine AR.op (r := .clip (List.map i64 [4])) rfl (aop_buildSlice rfl (xo := [.const (.int .i64 4)]) rfl rfl rfl (by simp [AV.solid]) (by simp [AV.flat]) el26 ze26 (by decide)) <| AR.keep [5, 7, 8] rfl <| AR.op (r := .agg [i64 3, .clip (List.map i64 [4]), nilS]) rfl (aop_build rfl bd53 rfl rfl rfl) <| AR.op (r := .clip (List.map G.api_Txn.av ([(G.api_Txn.mk 1 [] ([(G.api_Take.mk 4 1)] : List G.api_Take)), (G.api_Txn.mk 2 [4] []), (G.api_Txn.mk 3 [4] [])] : List G.api_Txn))) rfl ((aop_buildSlice (xs := [.agg [i64 1, nilS, .clip (List.map G.api_Take.av ([(G.api_Take.mk 4 1)] : List G.api_Take))], .agg [i64 2, .clip (List.map i64 [4]), nilS], .agg [i64 3, .clip (List.map i64 [4]), nilS]]) rfl (xo := [.tmp 5, .tmp 7, .tmp 9]) rfl rfl rfl (by simp [AV.solid]) (by simp [AV.flat]) el22 ze22 (by decide)).clipw ⟨⟨.same _, .nil, .clip _, trivial⟩, ⟨.same _, .clip _, .nil, trivial⟩, ⟨.same _, .clip _, .nil, trivial⟩, trivial⟩) <| AR.op (r := .agg [.clip (List.map G.api_Txn.av ([(G.api_Txn.mk 1 [] ([(G.api_Take.mk 4 1)] : List G.api_Take)), (G.api_Txn.mk 2 [4] []), (G.api_Txn.mk 3 [4] [])] : List G.api_Txn))]) rfl (aop_build rfl bd24 rfl rfl rfl) <| AR.keep [11] rfl <| AR.op (r := .ref 0 0 0) rfl (aop_alloc 1 [.agg [nilS]] rfl zr24 (by kernel_rfl) (.inl ⟨rfl, rfl⟩)) <| AR.op rfl (aop_store (e' := .agg [.clip (List.map G.api_Txn.av ([(G.api_Txn.mk 1 [] ([(G.api_Take.mk 4 1)] : List G.api_Take)), (G.api_Txn.mk 2 [4] []), (G.api_Txn.mk 3 [4] [])] : List G.api_Txn))]) rfl rfl rfl rfl rfl rfl sz24 rfl dt rfl) ?_
 refine AR.nil <| hK2 _ (AWP.weak (Weak.e (fr' := [(1, .pp [.clip (List.map G.api_Txn.av ([(G.api_Txn.mk 1 [] ([(G.api_Take.mk 4 1)] : List G.api_Take)), (G.api_Txn.mk 2 [4] []), (G.api_Txn.mk 3 [4] [])] : List G.api_Txn))] 0)]) (H' := .empty) ⟨⟨_, rfl, .frzA rfl rfl rfl rfl (by simp)⟩, trivial⟩) ?_)
 refine awp_seqK fun K3 hK3 => awp_reg rfl <| AR.op (r := .agg [i64 4, i64 1, i64 2]) rfl (aop_build rfl bd55 rfl rfl rfl) <| AR.op (r := .clip (List.map G.api_Choice.av ([(G.api_Choice.mk 4 1 2)] : List G.api_Choice))) rfl (aop_buildSlice rfl (xo := [.tmp 12]) rfl rfl rfl (by simp) (by simp) el25 ze25 (by decide)) <| AR.op rfl (aop_move (.inr rfl) rfl) <| AR.nil <| hK3 _ (AWP.weak (Weak.kt [1, 2] rfl) ?_)
 refine awp_seqK fun K4 hK4 => awp_reg rfl <| AR.op (r := .agg [.clip (List.map G.api_Txn.av ([(G.api_Txn.mk 1 [] ([(G.api_Take.mk 4 1)] : List G.api_Take)), (G.api_Txn.mk 2 [4] []), (G.api_Txn.mk 3 [4] [])] : List G.api_Txn))]) rfl (aop_load_pp rfl rfl sz24 rfl) <| AR.op rfl (aop_move (.inl rfl) rfl) ?_
 obtain ⟨r28, hr28, h⟩ := Sh.bind_some' h
 refine AR.op (r := bl r28) rfl (aop_callN rfl (ys := [.agg [.clip (List.map G.api_Txn.av ([(G.api_Txn.mk 1 [] ([(G.api_Take.mk 4 1)] : List G.api_Take)), (G.api_Txn.mk 2 [4] []), (G.api_Txn.mk 3 [4] [])] : List G.api_Txn))], .clip (List.map G.api_Choice.av ([(G.api_Choice.mk 4 1 2)] : List G.api_Choice)), i64 0, i64 2]) (xs := [G.api_Hist.av (G.api_Hist.mk ([(G.api_Txn.mk 1 [] ([(G.api_Take.mk 4 1)] : List G.api_Take)), (G.api_Txn.mk 2 [4] []), (G.api_Txn.mk 3 [4] [])] : List G.api_Txn)), .sl (List.map G.api_Choice.av ([(G.api_Choice.mk 4 1 2)] : List G.api_Choice)), i64 0, i64 2]) rfl (Weak.e (fr' := argsFr 0 [G.api_Hist.av (G.api_Hist.mk ([(G.api_Txn.mk 1 [] ([(G.api_Take.mk 4 1)] : List G.api_Take)), (G.api_Txn.mk 2 [4] []), (G.api_Txn.mk 3 [4] [])] : List G.api_Txn)), .sl (List.map G.api_Choice.av ([(G.api_Choice.mk 4 1 2)] : List G.api_Choice)), i64 0, i64 2]) (H' := .empty) ⟨⟨.agg [.clip (List.map G.api_Txn.av ([(G.api_Txn.mk 1 [] ([(G.api_Take.mk 4 1)] : List G.api_Take)), (G.api_Txn.mk 2 [4] []), (G.api_Txn.mk 3 [4] [])] : List G.api_Txn))], rfl, .ag ⟨.wide _ (by simp), trivial⟩⟩, ⟨.clip (List.map G.api_Choice.av ([(G.api_Choice.mk 4 1 2)] : List G.api_Choice)), rfl, .wide _ (by simp)⟩, .k, .k, trivial⟩) rfl (by simp) (edge_Anti_ok hT hr28)) <| AR.keep [1, 2, 16] rfl <| AR.op rfl (aop_move (.inl rfl) rfl) ?_
 rcases Bool.eq_false_or_eq_true (r28) with hb29 | hb29
 ·rw [hb29]
  replace h := Sh.if_t h hb29
  refine AR.op (r := .agg [.clip (List.map G.api_Txn.av ([(G.api_Txn.mk 1 [] ([(G.api_Take.mk 4 1)] : List G.api_Take)), (G.api_Txn.mk 2 [4] []), (G.api_Txn.mk 3 [4] [])] : List G.api_Txn))]) rfl (aop_load_pp rfl rfl sz24 rfl) <| AR.op rfl (aop_move (.inl rfl) rfl) <| AR.keep [1, 2, 17, 18, 19] rfl ?_
  obtain ⟨r30, hr30, h⟩ := Sh.bind_some' h
  refine AR.op (r := bl r30) rfl (aop_callN rfl (ys := [.agg [.clip (List.map G.api_Txn.av ([(G.api_Txn.mk 1 [] ([(G.api_Take.mk 4 1)] : List G.api_Take)), (G.api_Txn.mk 2 [4] []), (G.api_Txn.mk 3 [4] [])] : List G.api_Txn))], .clip (List.map G.api_Choice.av ([(G.api_Choice.mk 4 1 2)] : List G.api_Choice)), i64 1, i64 0]) (xs := [G.api_Hist.av (G.api_Hist.mk ([(G.api_Txn.mk 1 [] ([(G.api_Take.mk 4 1)] : List G.api_Take)), (G.api_Txn.mk 2 [4] []), (G.api_Txn.mk 3 [4] [])] : List G.api_Txn)), .sl (List.map G.api_Choice.av ([(G.api_Choice.mk 4 1 2)] : List G.api_Choice)), i64 1, i64 0]) rfl (Weak.e (fr' := argsFr 0 [G.api_Hist.av (G.api_Hist.mk ([(G.api_Txn.mk 1 [] ([(G.api_Take.mk 4 1)] : List G.api_Take)), (G.api_Txn.mk 2 [4] []), (G.api_Txn.mk 3 [4] [])] : List G.api_Txn)), .sl (List.map G.api_Choice.av ([(G.api_Choice.mk 4 1 2)] : List G.api_Choice)), i64 1, i64 0]) (H' := .empty) ⟨⟨.agg [.clip (List.map G.api_Txn.av ([(G.api_Txn.mk 1 [] ([(G.api_Take.mk 4 1)] : List G.api_Take)), (G.api_Txn.mk 2 [4] []), (G.api_Txn.mk 3 [4] [])] : List G.api_Txn))], rfl, .ag ⟨.wide _ (by simp), trivial⟩⟩, ⟨.clip (List.map G.api_Choice.av ([(G.api_Choice.mk 4 1 2)] : List G.api_Choice)), rfl, .wide _ (by simp)⟩, .k, .k, trivial⟩) rfl (by simp) (edge_Direct_ok hT hr30)) <| AR.op rfl (aop_pick rfl rfl rfl) <| AR.op rfl (aop_move (.inl rfl) rfl) <| AR.keep [1, 2, 22] rfl ?_
  rcases Bool.eq_false_or_eq_true (r30) with hb31 | hb31
  ·rw [hb31]
   replace h := Sh.if_t h hb31
   refine AR.op (r := .agg [.clip (List.map G.api_Txn.av ([(G.api_Txn.mk 1 [] ([(G.api_Take.mk 4 1)] : List G.api_Take)), (G.api_Txn.mk 2 [4] []), (G.api_Txn.mk 3 [4] [])] : List G.api_Txn))]) rfl (aop_load_pp rfl rfl sz24 rfl) <| AR.op rfl (aop_move (.inl rfl) rfl) ?_
   obtain ⟨r32, hr32, h⟩ := Sh.bind_some' h
   refine AR.op (r := bl r32) rfl (aop_callN rfl (ys := [.agg [.clip (List.map G.api_Txn.av ([(G.api_Txn.mk 1 [] ([(G.api_Take.mk 4 1)] : List G.api_Take)), (G.api_Txn.mk 2 [4] []), (G.api_Txn.mk 3 [4] [])] : List G.api_Txn))], i64 1, .clip (List.map G.api_Choice.av ([(G.api_Choice.mk 4 1 2)] : List G.api_Choice)), i64 1, i64 2]) (xs := [G.api_Hist.av (G.api_Hist.mk ([(G.api_Txn.mk 1 [] ([(G.api_Take.mk 4 1)] : List G.api_Take)), (G.api_Txn.mk 2 [4] []), (G.api_Txn.mk 3 [4] [])] : List G.api_Txn)), i64 1, .sl (List.map G.api_Choice.av ([(G.api_Choice.mk 4 1 2)] : List G.api_Choice)), i64 1, i64 2]) rfl (Weak.e (fr' := argsFr 0 [G.api_Hist.av (G.api_Hist.mk ([(G.api_Txn.mk 1 [] ([(G.api_Take.mk 4 1)] : List G.api_Take)), (G.api_Txn.mk 2 [4] []), (G.api_Txn.mk 3 [4] [])] : List G.api_Txn)), i64 1, .sl (List.map G.api_Choice.av ([(G.api_Choice.mk 4 1 2)] : List G.api_Choice)), i64 1, i64 2]) (H' := .empty) ⟨⟨.agg [.clip (List.map G.api_Txn.av ([(G.api_Txn.mk 1 [] ([(G.api_Take.mk 4 1)] : List G.api_Take)), (G.api_Txn.mk 2 [4] []), (G.api_Txn.mk 3 [4] [])] : List G.api_Txn))], rfl, .ag ⟨.wide _ (by simp), trivial⟩⟩, .k, ⟨.clip (List.map G.api_Choice.av ([(G.api_Choice.mk 4 1 2)] : List G.api_Choice)), rfl, .wide _ (by simp)⟩, .k, .k, trivial⟩) rfl (by simp) (edge_Is_ok hT hr32)) <| AR.keep [1, 2, 22, 25] rfl <| AR.op rfl (aop_pick rfl rfl rfl) <| AR.op rfl (aop_move (.inl rfl) rfl) ?_
   rcases Bool.eq_false_or_eq_true (r32) with hb33 | hb33
   ·rw [hb33]
    replace h := Sh.if_t h hb33
    refine AR.op (r := .agg [.clip (List.map G.api_Txn.av ([(G.api_Txn.mk 1 [] ([(G.api_Take.mk 4 1)] : List G.api_Take)), (G.api_Txn.mk 2 [4] []), (G.api_Txn.mk 3 [4] [])] : List G.api_Txn))]) rfl (aop_load_pp rfl rfl sz24 rfl) <| AR.keep [1, 2, 27, 28] rfl <| AR.op rfl (aop_move (.inl rfl) rfl) ?_
    obtain ⟨r34, hr34, h⟩ := Sh.bind_some' h
    refine AR.op (r := bl r34) rfl (aop_callN rfl (ys := [.agg [.clip (List.map G.api_Txn.av ([(G.api_Txn.mk 1 [] ([(G.api_Take.mk 4 1)] : List G.api_Take)), (G.api_Txn.mk 2 [4] []), (G.api_Txn.mk 3 [4] [])] : List G.api_Txn))], i64 1, .clip (List.map G.api_Choice.av ([(G.api_Choice.mk 4 1 2)] : List G.api_Choice)), i64 0, i64 2]) (xs := [G.api_Hist.av (G.api_Hist.mk ([(G.api_Txn.mk 1 [] ([(G.api_Take.mk 4 1)] : List G.api_Take)), (G.api_Txn.mk 2 [4] []), (G.api_Txn.mk 3 [4] [])] : List G.api_Txn)), i64 1, .sl (List.map G.api_Choice.av ([(G.api_Choice.mk 4 1 2)] : List G.api_Choice)), i64 0, i64 2]) rfl (Weak.e (fr' := argsFr 0 [G.api_Hist.av (G.api_Hist.mk ([(G.api_Txn.mk 1 [] ([(G.api_Take.mk 4 1)] : List G.api_Take)), (G.api_Txn.mk 2 [4] []), (G.api_Txn.mk 3 [4] [])] : List G.api_Txn)), i64 1, .sl (List.map G.api_Choice.av ([(G.api_Choice.mk 4 1 2)] : List G.api_Choice)), i64 0, i64 2]) (H' := .empty) ⟨⟨.agg [.clip (List.map G.api_Txn.av ([(G.api_Txn.mk 1 [] ([(G.api_Take.mk 4 1)] : List G.api_Take)), (G.api_Txn.mk 2 [4] []), (G.api_Txn.mk 3 [4] [])] : List G.api_Txn))], rfl, .ag ⟨.wide _ (by simp), trivial⟩⟩, .k, ⟨.clip (List.map G.api_Choice.av ([(G.api_Choice.mk 4 1 2)] : List G.api_Choice)), rfl, .wide _ (by simp)⟩, .k, .k, trivial⟩) rfl (by simp) (edge_Is_ok hT hr34)) <| AR.op (r := bl (!r34)) rfl (aop_not rfl rfl) <| AR.keep [1, 2, 27, 31] rfl <| AR.op rfl (aop_pick rfl rfl rfl) <| AR.op rfl (aop_move (.inl rfl) rfl) ?_
    rcases Bool.eq_false_or_eq_true (!r34) with hb35 | hb35
    ·rw [hb35]
     replace h := Sh.if_t h hb35
     refine AR.op (r := .agg [.clip (List.map G.api_Txn.av ([(G.api_Txn.mk 1 [] ([(G.api_Take.mk 4 1)] : List G.api_Take)), (G.api_Txn.mk 2 [4] []), (G.api_Txn.mk 3 [4] [])] : List G.api_Txn))]) rfl (aop_load_pp rfl rfl sz24 rfl) <| AR.keep [1, 2, 33, 34] rfl <| AR.op rfl (aop_move (.inl rfl) rfl) ?_
     obtain ⟨r36, hr36, h⟩ := Sh.bind_some' h
     refine AR.op (r := bl r36) rfl (aop_callN rfl (ys := [.agg [.clip (List.map G.api_Txn.av ([(G.api_Txn.mk 1 [] ([(G.api_Take.mk 4 1)] : List G.api_Take)), (G.api_Txn.mk 2 [4] []), (G.api_Txn.mk 3 [4] [])] : List G.api_Txn))], i64 0, .clip (List.map G.api_Choice.av ([(G.api_Choice.mk 4 1 2)] : List G.api_Choice)), i64 0, i64 2]) (xs := [G.api_Hist.av (G.api_Hist.mk ([(G.api_Txn.mk 1 [] ([(G.api_Take.mk 4 1)] : List G.api_Take)), (G.api_Txn.mk 2 [4] []), (G.api_Txn.mk 3 [4] [])] : List G.api_Txn)), i64 0, .sl (List.map G.api_Choice.av ([(G.api_Choice.mk 4 1 2)] : List G.api_Choice)), i64 0, i64 2]) rfl (Weak.e (fr' := argsFr 0 [G.api_Hist.av (G.api_Hist.mk ([(G.api_Txn.mk 1 [] ([(G.api_Take.mk 4 1)] : List G.api_Take)), (G.api_Txn.mk 2 [4] []), (G.api_Txn.mk 3 [4] [])] : List G.api_Txn)), i64 0, .sl (List.map G.api_Choice.av ([(G.api_Choice.mk 4 1 2)] : List G.api_Choice)), i64 0, i64 2]) (H' := .empty) ⟨⟨.agg [.clip (List.map G.api_Txn.av ([(G.api_Txn.mk 1 [] ([(G.api_Take.mk 4 1)] : List G.api_Take)), (G.api_Txn.mk 2 [4] []), (G.api_Txn.mk 3 [4] [])] : List G.api_Txn))], rfl, .ag ⟨.wide _ (by simp), trivial⟩⟩, .k, ⟨.clip (List.map G.api_Choice.av ([(G.api_Choice.mk 4 1 2)] : List G.api_Choice)), rfl, .wide _ (by simp)⟩, .k, .k, trivial⟩) rfl (by simp) (edge_Is_ok hT hr36)) <| AR.op rfl (aop_pick rfl rfl rfl) <| AR.keep [1, 2, 37] rfl <| AR.op rfl (aop_move (.inl rfl) rfl) ?_
     rcases Bool.eq_false_or_eq_true (r36) with hb37 | hb37
     ·rw [hb37]
      replace h := Sh.if_t h hb37
      refine AR.op (r := .agg [.clip (List.map G.api_Txn.av ([(G.api_Txn.mk 1 [] ([(G.api_Take.mk 4 1)] : List G.api_Take)), (G.api_Txn.mk 2 [4] []), (G.api_Txn.mk 3 [4] [])] : List G.api_Txn))]) rfl (aop_load_pp rfl rfl sz24 rfl) <| AR.op rfl (aop_move (.inl rfl) rfl) <| AR.keep [1, 38, 39, 40] rfl <| AR.op (r := .clip (List.map i64 [0, 1])) rfl (aop_buildSlice rfl (xo := [.const (.int .i64 0), .const (.int .i64 1)]) rfl rfl rfl (by simp [AV.solid]) (by simp [AV.flat]) el26 ze26 (by decide)) ?_
      obtain ⟨r38, hr38, h⟩ := Sh.bind_some' h
      refine AR.op (r := bl r38) rfl (aop_callN rfl (ys := [.agg [.clip (List.map G.api_Txn.av ([(G.api_Txn.mk 1 [] ([(G.api_Take.mk 4 1)] : List G.api_Take)), (G.api_Txn.mk 2 [4] []), (G.api_Txn.mk 3 [4] [])] : List G.api_Txn))], i64 0, .clip (List.map G.api_Choice.av ([(G.api_Choice.mk 4 1 2)] : List G.api_Choice)), .clip (List.map i64 [0, 1])]) (xs := [G.api_Hist.av (G.api_Hist.mk ([(G.api_Txn.mk 1 [] ([(G.api_Take.mk 4 1)] : List G.api_Take)), (G.api_Txn.mk 2 [4] []), (G.api_Txn.mk 3 [4] [])] : List G.api_Txn)), i64 0, .sl (List.map G.api_Choice.av ([(G.api_Choice.mk 4 1 2)] : List G.api_Choice)), .sl (List.map i64 [0, 1])]) rfl (Weak.e (fr' := argsFr 0 [G.api_Hist.av (G.api_Hist.mk ([(G.api_Txn.mk 1 [] ([(G.api_Take.mk 4 1)] : List G.api_Take)), (G.api_Txn.mk 2 [4] []), (G.api_Txn.mk 3 [4] [])] : List G.api_Txn)), i64 0, .sl (List.map G.api_Choice.av ([(G.api_Choice.mk 4 1 2)] : List G.api_Choice)), .sl (List.map i64 [0, 1])]) (H' := .empty) ⟨⟨.agg [.clip (List.map G.api_Txn.av ([(G.api_Txn.mk 1 [] ([(G.api_Take.mk 4 1)] : List G.api_Take)), (G.api_Txn.mk 2 [4] []), (G.api_Txn.mk 3 [4] [])] : List G.api_Txn))], rfl, .ag ⟨.wide _ (by simp), trivial⟩⟩, .k, ⟨.clip (List.map G.api_Choice.av ([(G.api_Choice.mk 4 1 2)] : List G.api_Choice)), rfl, .wide _ (by simp)⟩, ⟨.clip (List.map i64 [0, 1]), rfl, .wide _ (by simp)⟩, trivial⟩) rfl (by simp) (edge_Cycle_ok hT hr38)) <| AR.op (r := bl (!r38)) rfl (aop_not rfl rfl) <| AR.keep [1, 38, 43] rfl <| AR.op rfl (aop_pick rfl rfl rfl) <| AR.op rfl (aop_move (.inl rfl) rfl) ?_
      rcases Bool.eq_false_or_eq_true (!r38) with hb39 | hb39
      ·rw [hb39]
       replace h := Sh.if_t h hb39
       refine AR.op (r := .agg [.clip (List.map G.api_Txn.av ([(G.api_Txn.mk 1 [] ([(G.api_Take.mk 4 1)] : List G.api_Take)), (G.api_Txn.mk 2 [4] []), (G.api_Txn.mk 3 [4] [])] : List G.api_Txn))]) rfl (aop_load_pp rfl rfl sz24 rfl) <| AR.keep [45, 46] rfl <| AR.op (r := .agg [i64 4, i64 1, i64 2]) rfl (aop_build rfl bd55 rfl rfl rfl) <| AR.op (r := .agg [i64 4, i64 2, i64 1]) rfl (aop_build rfl bd55 rfl rfl rfl) <| AR.op (r := .clip (List.map G.api_Choice.av ([(G.api_Choice.mk 4 1 2), (G.api_Choice.mk 4 2 1)] : List G.api_Choice))) rfl (aop_buildSlice rfl (xo := [.tmp 47, .tmp 48]) rfl rfl rfl (by simp) (by simp) el25 ze25 (by decide)) <| AR.keep [45, 46, 49] rfl <| AR.op (r := .clip (List.map i64 [2, 1])) rfl (aop_buildSlice rfl (xo := [.const (.int .i64 2), .const (.int .i64 1)]) rfl rfl rfl (by simp [AV.solid]) (by simp [AV.flat]) el26 ze26 (by decide)) ?_
       obtain ⟨r40, hr40, h⟩ := Sh.bind_some' h
       refine AR.op (r := bl r40) rfl (aop_callN rfl (ys := [.agg [.clip (List.map G.api_Txn.av ([(G.api_Txn.mk 1 [] ([(G.api_Take.mk 4 1)] : List G.api_Take)), (G.api_Txn.mk 2 [4] []), (G.api_Txn.mk 3 [4] [])] : List G.api_Txn))], i64 0, .clip (List.map G.api_Choice.av ([(G.api_Choice.mk 4 1 2), (G.api_Choice.mk 4 2 1)] : List G.api_Choice)), .clip (List.map i64 [2, 1])]) (xs := [G.api_Hist.av (G.api_Hist.mk ([(G.api_Txn.mk 1 [] ([(G.api_Take.mk 4 1)] : List G.api_Take)), (G.api_Txn.mk 2 [4] []), (G.api_Txn.mk 3 [4] [])] : List G.api_Txn)), i64 0, .sl (List.map G.api_Choice.av ([(G.api_Choice.mk 4 1 2), (G.api_Choice.mk 4 2 1)] : List G.api_Choice)), .sl (List.map i64 [2, 1])]) rfl (Weak.e (fr' := argsFr 0 [G.api_Hist.av (G.api_Hist.mk ([(G.api_Txn.mk 1 [] ([(G.api_Take.mk 4 1)] : List G.api_Take)), (G.api_Txn.mk 2 [4] []), (G.api_Txn.mk 3 [4] [])] : List G.api_Txn)), i64 0, .sl (List.map G.api_Choice.av ([(G.api_Choice.mk 4 1 2), (G.api_Choice.mk 4 2 1)] : List G.api_Choice)), .sl (List.map i64 [2, 1])]) (H' := .empty) ⟨⟨.agg [.clip (List.map G.api_Txn.av ([(G.api_Txn.mk 1 [] ([(G.api_Take.mk 4 1)] : List G.api_Take)), (G.api_Txn.mk 2 [4] []), (G.api_Txn.mk 3 [4] [])] : List G.api_Txn))], rfl, .ag ⟨.wide _ (by simp), trivial⟩⟩, .k, ⟨.clip (List.map G.api_Choice.av ([(G.api_Choice.mk 4 1 2), (G.api_Choice.mk 4 2 1)] : List G.api_Choice)), rfl, .wide _ (by simp)⟩, ⟨.clip (List.map i64 [2, 1]), rfl, .wide _ (by simp)⟩, trivial⟩) rfl (by simp) (edge_Cycle_ok hT hr40)) <| AR.op rfl (aop_pick rfl rfl rfl) <| AR.keep [52] rfl <| AR.op rfl (aop_move (.inr rfl) rfl) <| AR.nil <| hK4 _ (AWP.weak (Weak.kt [0] rfl) ?_)
       refine awp_ret ?_
       obtain rfl := Option.some.inj h
       refine ⟨.inr rfl, bl r40, rfl, ?_⟩
       exact Weak.e ⟨.k, trivial⟩
      ·rw [hb39]
       replace h := Sh.if_f h hb39
       refine AR.skip rfl <| AR.keep [45, 46] rfl <| AR.skip rfl <| AR.skip rfl <| AR.skip rfl <| AR.keep [45, 46, 49] rfl <| AR.skip rfl <| AR.skip rfl ?_
       refine AR.op rfl (aop_pick rfl rfl rfl) <| AR.keep [52] rfl <| AR.op rfl (aop_move (.inr rfl) rfl) <| AR.nil <| hK4 _ (AWP.weak (Weak.kt [0] rfl) ?_)
       refine awp_ret ?_
       obtain rfl := Option.some.inj h
       refine ⟨.inr rfl, bl false, rfl, ?_⟩
       exact Weak.e ⟨.k, trivial⟩
     ·rw [hb37]
      replace h := Sh.if_f h hb37
      refine AR.skip rfl <| AR.skip rfl <| AR.keep [1, 38, 39, 40] rfl <| AR.skip rfl <| AR.skip rfl <| AR.skip rfl <| AR.keep [1, 38, 43] rfl <| AR.op rfl (aop_pick rfl rfl rfl) ?_
      refine AR.op rfl (aop_move (.inl rfl) rfl) <| AR.skip rfl <| AR.keep [45, 46] rfl <| AR.skip rfl <| AR.skip rfl <| AR.skip rfl <| AR.keep [45, 46, 49] rfl <| AR.skip rfl ?_
      refine AR.skip rfl <| AR.op rfl (aop_pick rfl rfl rfl) <| AR.keep [52] rfl <| AR.op rfl (aop_move (.inr rfl) rfl) <| AR.nil <| hK4 _ (AWP.weak (Weak.kt [0] rfl) ?_)
      refine awp_ret ?_
      obtain rfl := Option.some.inj h
      refine ⟨.inr rfl, bl false, rfl, ?_⟩
      exact Weak.e ⟨.k, trivial⟩
    ·rw [hb35]
     replace h := Sh.if_f h hb35
     refine AR.skip rfl <| AR.keep [1, 2, 33, 34] rfl <| AR.skip rfl <| AR.skip rfl <| AR.op rfl (aop_pick rfl rfl rfl) <| AR.keep [1, 2, 37] rfl <| AR.op rfl (aop_move (.inl rfl) rfl) <| AR.skip rfl ?_
     refine AR.skip rfl <| AR.keep [1, 38, 39, 40] rfl <| AR.skip rfl <| AR.skip rfl <| AR.skip rfl <| AR.keep [1, 38, 43] rfl <| AR.op rfl (aop_pick rfl rfl rfl) <| AR.op rfl (aop_move (.inl rfl) rfl) ?_
     refine AR.skip rfl <| AR.keep [45, 46] rfl <| AR.skip rfl <| AR.skip rfl <| AR.skip rfl <| AR.keep [45, 46, 49] rfl <| AR.skip rfl <| AR.skip rfl ?_
     refine AR.op rfl (aop_pick rfl rfl rfl) <| AR.keep [52] rfl <| AR.op rfl (aop_move (.inr rfl) rfl) <| AR.nil <| hK4 _ (AWP.weak (Weak.kt [0] rfl) ?_)
     refine awp_ret ?_
     obtain rfl := Option.some.inj h
     refine ⟨.inr rfl, bl false, rfl, ?_⟩
     exact Weak.e ⟨.k, trivial⟩
   ·rw [hb33]
    replace h := Sh.if_f h hb33
    refine AR.skip rfl <| AR.keep [1, 2, 27, 28] rfl <| AR.skip rfl <| AR.skip rfl <| AR.skip rfl <| AR.keep [1, 2, 27, 31] rfl <| AR.op rfl (aop_pick rfl rfl rfl) <| AR.op rfl (aop_move (.inl rfl) rfl) ?_
    refine AR.skip rfl <| AR.keep [1, 2, 33, 34] rfl <| AR.skip rfl <| AR.skip rfl <| AR.op rfl (aop_pick rfl rfl rfl) <| AR.keep [1, 2, 37] rfl <| AR.op rfl (aop_move (.inl rfl) rfl) <| AR.skip rfl ?_
    refine AR.skip rfl <| AR.keep [1, 38, 39, 40] rfl <| AR.skip rfl <| AR.skip rfl <| AR.skip rfl <| AR.keep [1, 38, 43] rfl <| AR.op rfl (aop_pick rfl rfl rfl) <| AR.op rfl (aop_move (.inl rfl) rfl) ?_
    refine AR.skip rfl <| AR.keep [45, 46] rfl <| AR.skip rfl <| AR.skip rfl <| AR.skip rfl <| AR.keep [45, 46, 49] rfl <| AR.skip rfl <| AR.skip rfl ?_
    refine AR.op rfl (aop_pick rfl rfl rfl) <| AR.keep [52] rfl <| AR.op rfl (aop_move (.inr rfl) rfl) <| AR.nil <| hK4 _ (AWP.weak (Weak.kt [0] rfl) ?_)
    refine awp_ret ?_
    obtain rfl := Option.some.inj h
    refine ⟨.inr rfl, bl false, rfl, ?_⟩
    exact Weak.e ⟨.k, trivial⟩
  ·rw [hb31]
   replace h := Sh.if_f h hb31
   refine AR.skip rfl <| AR.skip rfl <| AR.skip rfl <| AR.keep [1, 2, 22, 25] rfl <| AR.op rfl (aop_pick rfl rfl rfl) <| AR.op rfl (aop_move (.inl rfl) rfl) <| AR.skip rfl <| AR.keep [1, 2, 27, 28] rfl ?_
   refine AR.skip rfl <| AR.skip rfl <| AR.skip rfl <| AR.keep [1, 2, 27, 31] rfl <| AR.op rfl (aop_pick rfl rfl rfl) <| AR.op rfl (aop_move (.inl rfl) rfl) <| AR.skip rfl <| AR.keep [1, 2, 33, 34] rfl ?_
   refine AR.skip rfl <| AR.skip rfl <| AR.op rfl (aop_pick rfl rfl rfl) <| AR.keep [1, 2, 37] rfl <| AR.op rfl (aop_move (.inl rfl) rfl) <| AR.skip rfl <| AR.skip rfl <| AR.keep [1, 38, 39, 40] rfl ?_
   refine AR.skip rfl <| AR.skip rfl <| AR.skip rfl <| AR.keep [1, 38, 43] rfl <| AR.op rfl (aop_pick rfl rfl rfl) <| AR.op rfl (aop_move (.inl rfl) rfl) <| AR.skip rfl <| AR.keep [45, 46] rfl ?_
   refine AR.skip rfl <| AR.skip rfl <| AR.skip rfl <| AR.keep [45, 46, 49] rfl <| AR.skip rfl <| AR.skip rfl <| AR.op rfl (aop_pick rfl rfl rfl) <| AR.keep [52] rfl ?_
   refine AR.op rfl (aop_move (.inr rfl) rfl) <| AR.nil <| hK4 _ (AWP.weak (Weak.kt [0] rfl) ?_)
   refine awp_ret ?_
   obtain rfl := Option.some.inj h
   refine ⟨.inr rfl, bl false, rfl, ?_⟩
   exact Weak.e ⟨.k, trivial⟩
 ·rw [hb29]
  replace h := Sh.if_f h hb29
  refine AR.skip rfl <| AR.skip rfl <| AR.keep [1, 2, 17, 18, 19] rfl <| AR.skip rfl <| AR.op rfl (aop_pick rfl rfl rfl) <| AR.op rfl (aop_move (.inl rfl) rfl) <| AR.keep [1, 2, 22] rfl <| AR.skip rfl ?_
  refine AR.skip rfl <| AR.skip rfl <| AR.keep [1, 2, 22, 25] rfl <| AR.op rfl (aop_pick rfl rfl rfl) <| AR.op rfl (aop_move (.inl rfl) rfl) <| AR.skip rfl <| AR.keep [1, 2, 27, 28] rfl <| AR.skip rfl ?_
  refine AR.skip rfl <| AR.skip rfl <| AR.keep [1, 2, 27, 31] rfl <| AR.op rfl (aop_pick rfl rfl rfl) <| AR.op rfl (aop_move (.inl rfl) rfl) <| AR.skip rfl <| AR.keep [1, 2, 33, 34] rfl <| AR.skip rfl ?_
  refine AR.skip rfl <| AR.op rfl (aop_pick rfl rfl rfl) <| AR.keep [1, 2, 37] rfl <| AR.op rfl (aop_move (.inl rfl) rfl) <| AR.skip rfl <| AR.skip rfl <| AR.keep [1, 38, 39, 40] rfl <| AR.skip rfl ?_
  refine AR.skip rfl <| AR.skip rfl <| AR.keep [1, 38, 43] rfl <| AR.op rfl (aop_pick rfl rfl rfl) <| AR.op rfl (aop_move (.inl rfl) rfl) <| AR.skip rfl <| AR.keep [45, 46] rfl <| AR.skip rfl ?_
  refine AR.skip rfl <| AR.skip rfl <| AR.keep [45, 46, 49] rfl <| AR.skip rfl <| AR.skip rfl <| AR.op rfl (aop_pick rfl rfl rfl) <| AR.keep [52] rfl <| AR.op rfl (aop_move (.inr rfl) rfl) ?_
  refine AR.nil <| hK4 _ (AWP.weak (Weak.kt [0] rfl) ?_)
  refine awp_ret ?_
  obtain rfl := Option.some.inj h
  refine ⟨.inr rfl, bl false, rfl, ?_⟩
  exact Weak.e ⟨.k, trivial⟩
theorem inquestlaw19_awake_ok {W0 : World} (hT : Tab W0) {r : Bool} (h : G.inquestlaw19_awake = some r) : Fun1 Tryd.prog W0 6 [] (bl r) := Fun1.two (inquestlaw19_awake_ok0 hT h) (by simp)

end Wk
