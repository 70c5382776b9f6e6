/- That the functions of a package do what their plain functions say. -/
import Derived.Test.YtcnkohookgfpoaaSh
import Derived.Test.YtcnkohookgfpoaaWkEFacts
import Derived.Test.YtcnkohookgfpoaaWkEchoice
import Derived.Test.YtcnkohookgfpoaaWkEedge
import Derived.Test.YtcnkohookgfpoaaWkEinquestref08
import Derived.Test.YtcnkohookgfpoaaWkEinquestref19
open Go Go.Av Go.Proofs
set_option linter.unusedVariables false
namespace Wk
set_option maxHeartbeats 8000000 in
set_option maxRecDepth 20000 in
theorem inquestlaw19_awake_ok0 {W0 : World} (hT : Tab W0) {r : Bool} (h : G.inquestlaw19_awake = some r) : Fun2 Try.prog W0 8 [] (bl r) .empty := by
  refine fun2_of_awp Try.func8 rfl (by kernel_rfl) Try.ntmps8 (by simp) ?_
  unfold G.inquestlaw19_awake at h
  show AWP _ _ _ _ ⟨[], .empty⟩ _
  refine awp_seqK fun K1 hK1 => ?_
  refine awp_reg rfl ?_
  refine AR.op (r := bl false) rfl (aop_move (.inr rfl) rfl) ?_
  refine AR.nil ?_
  refine hK1 _ (AWP.weak (Weak.kp (fr' := []) trivial) ?_)
  clear hK1 K1
  refine awp_seqK fun K2 hK2 => ?_
  refine awp_reg rfl ?_
  refine AR.op (r := .agg [i64 4, i64 1]) rfl (aop_build rfl bd50 rfl rfl rfl) ?_
  refine AR.op (r := .clip (List.map G.api_Take.av ([(G.api_Take.mk 4 1)] : List G.api_Take))) rfl (aop_buildSlice rfl (xo := [.tmp 3]) rfl rfl rfl (by simp) (by simp) el43 ze43 (by decide)) ?_
  refine AR.op (r := .agg [i64 1, nilS, .clip (List.map G.api_Take.av ([(G.api_Take.mk 4 1)] : List G.api_Take))]) rfl (aop_build rfl bd47 rfl rfl rfl) ?_
  refine AR.drop (frx := [(5, _)]) ⟨rfl, trivial⟩ ?_
  refine AR.op (r := .clip (List.map i64 [4])) rfl (aop_buildSlice rfl (xo := [.const (.int .i64 4)]) rfl rfl rfl (by simp [AV.solid]) (by simp [AV.flat]) el26 ze26 (by decide)) ?_
  refine AR.op (r := .agg [i64 2, .clip (List.map i64 [4]), nilS]) rfl (aop_build rfl bd47 rfl rfl rfl) ?_
  refine AR.op (r := .clip (List.map i64 [4])) rfl (aop_buildSlice rfl (xo := [.const (.int .i64 4)]) rfl rfl rfl (by simp [AV.solid]) (by simp [AV.flat]) el26 ze26 (by decide)) ?_
  refine AR.drop (frx := [(5, _), (7, _), (8, _)]) ⟨rfl, rfl, rfl, trivial⟩ ?_
  refine AR.op (r := .agg [i64 3, .clip (List.map i64 [4]), nilS]) rfl (aop_build rfl bd47 rfl rfl rfl) ?_
  refine AR.op (r := .clip (List.map G.api_Txn.av ([(G.api_Txn.mk 1 [] ([(G.api_Take.mk 4 1)] : List G.api_Take)), (G.api_Txn.mk 2 [4] []), (G.api_Txn.mk 3 [4] [])] : List G.api_Txn))) rfl ((aop_buildSlice (xs := [.agg [i64 1, nilS, .clip (List.map G.api_Take.av ([(G.api_Take.mk 4 1)] : List G.api_Take))], .agg [i64 2, .clip (List.map i64 [4]), nilS], .agg [i64 3, .clip (List.map i64 [4]), nilS]]) rfl (xo := [.tmp 5, .tmp 7, .tmp 9]) rfl rfl rfl (by simp [AV.solid]) (by simp [AV.flat]) el22 ze22 (by decide)).clipw ⟨⟨.same _, .nil, .clip _, trivial⟩, ⟨.same _, .clip _, .nil, trivial⟩, ⟨.same _, .clip _, .nil, trivial⟩, trivial⟩) ?_
  refine AR.op (r := .agg [.clip (List.map G.api_Txn.av ([(G.api_Txn.mk 1 [] ([(G.api_Take.mk 4 1)] : List G.api_Take)), (G.api_Txn.mk 2 [4] []), (G.api_Txn.mk 3 [4] [])] : List G.api_Txn))]) rfl (aop_build rfl bd24 rfl rfl rfl) ?_
  refine AR.drop (frx := [(11, _)]) ⟨rfl, trivial⟩ ?_
  refine AR.op (r := .ref 0 0 0) rfl (aop_alloc 1 [.agg [nilS]] rfl zr24 (by kernel_rfl) (.inl ⟨rfl, rfl⟩)) ?_
  refine AR.op rfl (aop_store (e' := .agg [.clip (List.map G.api_Txn.av ([(G.api_Txn.mk 1 [] ([(G.api_Take.mk 4 1)] : List G.api_Take)), (G.api_Txn.mk 2 [4] []), (G.api_Txn.mk 3 [4] [])] : List G.api_Txn))]) rfl rfl rfl rfl rfl rfl sz24 rfl (of_decide_eq_true rfl) rfl) ?_
  refine AR.nil ?_
  refine hK2 _ (AWP.weak (Weak.re (fr' := [(1, .pp [.clip (List.map G.api_Txn.av ([(G.api_Txn.mk 1 [] ([(G.api_Take.mk 4 1)] : List G.api_Take)), (G.api_Txn.mk 2 [4] []), (G.api_Txn.mk 3 [4] [])] : List G.api_Txn))] 0)]) (H' := .empty) [] [] rfl rfl rfl (trivial) ⟨⟨_, rfl, .frzA rfl rfl rfl rfl (by simp)⟩, trivial⟩) ?_)
  clear hK2 K2
  refine awp_seqK fun K3 hK3 => ?_
  refine awp_reg rfl ?_
  refine AR.op (r := .agg [i64 4, i64 1, i64 2]) rfl (aop_build rfl bd35 rfl rfl rfl) ?_
  refine AR.op (r := .clip (List.map G.api_Choice.av ([(G.api_Choice.mk 4 1 2)] : List G.api_Choice))) rfl (aop_buildSlice rfl (xo := [.tmp 12]) rfl rfl rfl (by simp) (by simp) el25 ze25 (by decide)) ?_
  refine AR.op (r := .clip (List.map G.api_Choice.av ([(G.api_Choice.mk 4 1 2)] : List G.api_Choice))) rfl (aop_move (.inr rfl) rfl) ?_
  refine AR.nil ?_
  refine hK3 _ (AWP.weak (Weak.kp (fr' := [(1, .pp [.clip (List.map G.api_Txn.av ([(G.api_Txn.mk 1 [] ([(G.api_Take.mk 4 1)] : List G.api_Take)), (G.api_Txn.mk 2 [4] []), (G.api_Txn.mk 3 [4] [])] : List G.api_Txn))] 0), (2, .clip (List.map G.api_Choice.av ([(G.api_Choice.mk 4 1 2)] : List G.api_Choice)))]) ⟨rfl, rfl, trivial⟩) ?_)
  clear hK3 K3
  refine awp_seqK fun K4 hK4 => ?_
  refine awp_reg rfl ?_
  refine AR.op (r := .agg [.clip (List.map G.api_Txn.av ([(G.api_Txn.mk 1 [] ([(G.api_Take.mk 4 1)] : List G.api_Take)), (G.api_Txn.mk 2 [4] []), (G.api_Txn.mk 3 [4] [])] : List G.api_Txn))]) rfl (aop_load_pp rfl rfl sz24 rfl) ?_
  refine AR.op (r := .clip (List.map G.api_Choice.av ([(G.api_Choice.mk 4 1 2)] : List G.api_Choice))) rfl (aop_move (.inl rfl) rfl) ?_
  obtain ⟨r28, hr28, h⟩ := Sh.bind_some' h
  refine AR.op (r := bl r28) rfl (aop_callN rfl (ys := [.agg [.clip (List.map G.api_Txn.av ([(G.api_Txn.mk 1 [] ([(G.api_Take.mk 4 1)] : List G.api_Take)), (G.api_Txn.mk 2 [4] []), (G.api_Txn.mk 3 [4] [])] : List G.api_Txn))], .clip (List.map G.api_Choice.av ([(G.api_Choice.mk 4 1 2)] : List G.api_Choice)), i64 0, i64 2]) (xs := [G.api_Hist.av (G.api_Hist.mk ([(G.api_Txn.mk 1 [] ([(G.api_Take.mk 4 1)] : List G.api_Take)), (G.api_Txn.mk 2 [4] []), (G.api_Txn.mk 3 [4] [])] : List G.api_Txn)), .sl (List.map G.api_Choice.av ([(G.api_Choice.mk 4 1 2)] : List G.api_Choice)), i64 0, i64 2]) rfl (Weak.re (fr' := argsFr 0 [G.api_Hist.av (G.api_Hist.mk ([(G.api_Txn.mk 1 [] ([(G.api_Take.mk 4 1)] : List G.api_Take)), (G.api_Txn.mk 2 [4] []), (G.api_Txn.mk 3 [4] [])] : List G.api_Txn)), .sl (List.map G.api_Choice.av ([(G.api_Choice.mk 4 1 2)] : List G.api_Choice)), i64 0, i64 2]) (H' := .empty) [] [] rfl rfl rfl trivial ⟨⟨.agg [.clip (List.map G.api_Txn.av ([(G.api_Txn.mk 1 [] ([(G.api_Take.mk 4 1)] : List G.api_Take)), (G.api_Txn.mk 2 [4] []), (G.api_Txn.mk 3 [4] [])] : List G.api_Txn))], rfl, .ag ⟨.wide _ (by simp), trivial⟩⟩, ⟨.clip (List.map G.api_Choice.av ([(G.api_Choice.mk 4 1 2)] : List G.api_Choice)), rfl, .wide _ (by simp)⟩, ⟨_, rfl, .same _ (by simp)⟩, ⟨_, rfl, .same _ (by simp)⟩, trivial⟩) rfl (by simp) (edge_Anti_ok hT hr28)) ?_
  refine AR.drop (frx := [(1, _), (2, _), (16, _)]) ⟨rfl, rfl, rfl, trivial⟩ ?_
  refine AR.op (r := bl r28) rfl (aop_move (.inl rfl) rfl) ?_
  rcases Bool.eq_false_or_eq_true (r28) with hb29 | hb29
  · rw [hb29]
    replace h := Sh.if_t h hb29
    refine AR.op (r := .agg [.clip (List.map G.api_Txn.av ([(G.api_Txn.mk 1 [] ([(G.api_Take.mk 4 1)] : List G.api_Take)), (G.api_Txn.mk 2 [4] []), (G.api_Txn.mk 3 [4] [])] : List G.api_Txn))]) rfl (aop_load_pp rfl rfl sz24 rfl) ?_
    refine AR.op (r := .clip (List.map G.api_Choice.av ([(G.api_Choice.mk 4 1 2)] : List G.api_Choice))) rfl (aop_move (.inl rfl) rfl) ?_
    refine AR.drop (frx := [(1, _), (2, _), (17, _), (18, _), (19, _)]) ⟨rfl, rfl, rfl, rfl, rfl, trivial⟩ ?_
    obtain ⟨r30, hr30, h⟩ := Sh.bind_some' h
    refine AR.op (r := bl r30) rfl (aop_callN rfl (ys := [.agg [.clip (List.map G.api_Txn.av ([(G.api_Txn.mk 1 [] ([(G.api_Take.mk 4 1)] : List G.api_Take)), (G.api_Txn.mk 2 [4] []), (G.api_Txn.mk 3 [4] [])] : List G.api_Txn))], .clip (List.map G.api_Choice.av ([(G.api_Choice.mk 4 1 2)] : List G.api_Choice)), i64 1, i64 0]) (xs := [G.api_Hist.av (G.api_Hist.mk ([(G.api_Txn.mk 1 [] ([(G.api_Take.mk 4 1)] : List G.api_Take)), (G.api_Txn.mk 2 [4] []), (G.api_Txn.mk 3 [4] [])] : List G.api_Txn)), .sl (List.map G.api_Choice.av ([(G.api_Choice.mk 4 1 2)] : List G.api_Choice)), i64 1, i64 0]) rfl (Weak.re (fr' := argsFr 0 [G.api_Hist.av (G.api_Hist.mk ([(G.api_Txn.mk 1 [] ([(G.api_Take.mk 4 1)] : List G.api_Take)), (G.api_Txn.mk 2 [4] []), (G.api_Txn.mk 3 [4] [])] : List G.api_Txn)), .sl (List.map G.api_Choice.av ([(G.api_Choice.mk 4 1 2)] : List G.api_Choice)), i64 1, i64 0]) (H' := .empty) [] [] rfl rfl rfl trivial ⟨⟨.agg [.clip (List.map G.api_Txn.av ([(G.api_Txn.mk 1 [] ([(G.api_Take.mk 4 1)] : List G.api_Take)), (G.api_Txn.mk 2 [4] []), (G.api_Txn.mk 3 [4] [])] : List G.api_Txn))], rfl, .ag ⟨.wide _ (by simp), trivial⟩⟩, ⟨.clip (List.map G.api_Choice.av ([(G.api_Choice.mk 4 1 2)] : List G.api_Choice)), rfl, .wide _ (by simp)⟩, ⟨_, rfl, .same _ (by simp)⟩, ⟨_, rfl, .same _ (by simp)⟩, trivial⟩) rfl (by simp) (edge_Direct_ok hT hr30)) ?_
    refine AR.op (r := bl r30) rfl (aop_pick rfl rfl rfl) ?_
    refine AR.op (r := bl r30) rfl (aop_move (.inl rfl) rfl) ?_
    refine AR.drop (frx := [(1, _), (2, _), (22, _)]) ⟨rfl, rfl, rfl, trivial⟩ ?_
    rcases Bool.eq_false_or_eq_true (r30) with hb31 | hb31
    · rw [hb31]
      replace h := Sh.if_t h hb31
      refine AR.op (r := .agg [.clip (List.map G.api_Txn.av ([(G.api_Txn.mk 1 [] ([(G.api_Take.mk 4 1)] : List G.api_Take)), (G.api_Txn.mk 2 [4] []), (G.api_Txn.mk 3 [4] [])] : List G.api_Txn))]) rfl (aop_load_pp rfl rfl sz24 rfl) ?_
      refine AR.op (r := .clip (List.map G.api_Choice.av ([(G.api_Choice.mk 4 1 2)] : List G.api_Choice))) rfl (aop_move (.inl rfl) rfl) ?_
      obtain ⟨r32, hr32, h⟩ := Sh.bind_some' h
      refine AR.op (r := bl r32) rfl (aop_callN rfl (ys := [.agg [.clip (List.map G.api_Txn.av ([(G.api_Txn.mk 1 [] ([(G.api_Take.mk 4 1)] : List G.api_Take)), (G.api_Txn.mk 2 [4] []), (G.api_Txn.mk 3 [4] [])] : List G.api_Txn))], i64 1, .clip (List.map G.api_Choice.av ([(G.api_Choice.mk 4 1 2)] : List G.api_Choice)), i64 1, i64 2]) (xs := [G.api_Hist.av (G.api_Hist.mk ([(G.api_Txn.mk 1 [] ([(G.api_Take.mk 4 1)] : List G.api_Take)), (G.api_Txn.mk 2 [4] []), (G.api_Txn.mk 3 [4] [])] : List G.api_Txn)), i64 1, .sl (List.map G.api_Choice.av ([(G.api_Choice.mk 4 1 2)] : List G.api_Choice)), i64 1, i64 2]) rfl (Weak.re (fr' := argsFr 0 [G.api_Hist.av (G.api_Hist.mk ([(G.api_Txn.mk 1 [] ([(G.api_Take.mk 4 1)] : List G.api_Take)), (G.api_Txn.mk 2 [4] []), (G.api_Txn.mk 3 [4] [])] : List G.api_Txn)), i64 1, .sl (List.map G.api_Choice.av ([(G.api_Choice.mk 4 1 2)] : List G.api_Choice)), i64 1, i64 2]) (H' := .empty) [] [] rfl rfl rfl trivial ⟨⟨.agg [.clip (List.map G.api_Txn.av ([(G.api_Txn.mk 1 [] ([(G.api_Take.mk 4 1)] : List G.api_Take)), (G.api_Txn.mk 2 [4] []), (G.api_Txn.mk 3 [4] [])] : List G.api_Txn))], rfl, .ag ⟨.wide _ (by simp), trivial⟩⟩, ⟨_, rfl, .same _ (by simp)⟩, ⟨.clip (List.map G.api_Choice.av ([(G.api_Choice.mk 4 1 2)] : List G.api_Choice)), rfl, .wide _ (by simp)⟩, ⟨_, rfl, .same _ (by simp)⟩, ⟨_, rfl, .same _ (by simp)⟩, trivial⟩) rfl (by simp) (edge_Is_ok hT hr32)) ?_
      refine AR.drop (frx := [(1, _), (2, _), (22, _), (25, _)]) ⟨rfl, rfl, rfl, rfl, trivial⟩ ?_
      refine AR.op (r := bl r32) rfl (aop_pick rfl rfl rfl) ?_
      refine AR.op (r := bl r32) rfl (aop_move (.inl rfl) rfl) ?_
      rcases Bool.eq_false_or_eq_true (r32) with hb33 | hb33
      · rw [hb33]
        replace h := Sh.if_t h hb33
        refine AR.op (r := .agg [.clip (List.map G.api_Txn.av ([(G.api_Txn.mk 1 [] ([(G.api_Take.mk 4 1)] : List G.api_Take)), (G.api_Txn.mk 2 [4] []), (G.api_Txn.mk 3 [4] [])] : List G.api_Txn))]) rfl (aop_load_pp rfl rfl sz24 rfl) ?_
        refine AR.drop (frx := [(1, _), (2, _), (27, _), (28, _)]) ⟨rfl, rfl, rfl, rfl, trivial⟩ ?_
        refine AR.op (r := .clip (List.map G.api_Choice.av ([(G.api_Choice.mk 4 1 2)] : List G.api_Choice))) rfl (aop_move (.inl rfl) rfl) ?_
        obtain ⟨r34, hr34, h⟩ := Sh.bind_some' h
        refine AR.op (r := bl r34) rfl (aop_callN rfl (ys := [.agg [.clip (List.map G.api_Txn.av ([(G.api_Txn.mk 1 [] ([(G.api_Take.mk 4 1)] : List G.api_Take)), (G.api_Txn.mk 2 [4] []), (G.api_Txn.mk 3 [4] [])] : List G.api_Txn))], i64 1, .clip (List.map G.api_Choice.av ([(G.api_Choice.mk 4 1 2)] : List G.api_Choice)), i64 0, i64 2]) (xs := [G.api_Hist.av (G.api_Hist.mk ([(G.api_Txn.mk 1 [] ([(G.api_Take.mk 4 1)] : List G.api_Take)), (G.api_Txn.mk 2 [4] []), (G.api_Txn.mk 3 [4] [])] : List G.api_Txn)), i64 1, .sl (List.map G.api_Choice.av ([(G.api_Choice.mk 4 1 2)] : List G.api_Choice)), i64 0, i64 2]) rfl (Weak.re (fr' := argsFr 0 [G.api_Hist.av (G.api_Hist.mk ([(G.api_Txn.mk 1 [] ([(G.api_Take.mk 4 1)] : List G.api_Take)), (G.api_Txn.mk 2 [4] []), (G.api_Txn.mk 3 [4] [])] : List G.api_Txn)), i64 1, .sl (List.map G.api_Choice.av ([(G.api_Choice.mk 4 1 2)] : List G.api_Choice)), i64 0, i64 2]) (H' := .empty) [] [] rfl rfl rfl trivial ⟨⟨.agg [.clip (List.map G.api_Txn.av ([(G.api_Txn.mk 1 [] ([(G.api_Take.mk 4 1)] : List G.api_Take)), (G.api_Txn.mk 2 [4] []), (G.api_Txn.mk 3 [4] [])] : List G.api_Txn))], rfl, .ag ⟨.wide _ (by simp), trivial⟩⟩, ⟨_, rfl, .same _ (by simp)⟩, ⟨.clip (List.map G.api_Choice.av ([(G.api_Choice.mk 4 1 2)] : List G.api_Choice)), rfl, .wide _ (by simp)⟩, ⟨_, rfl, .same _ (by simp)⟩, ⟨_, rfl, .same _ (by simp)⟩, trivial⟩) rfl (by simp) (edge_Is_ok hT hr34)) ?_
        refine AR.op (r := bl (!r34)) rfl (aop_not rfl rfl) ?_
        refine AR.drop (frx := [(1, _), (2, _), (27, _), (31, _)]) ⟨rfl, rfl, rfl, rfl, trivial⟩ ?_
        refine AR.op (r := bl (!r34)) rfl (aop_pick rfl rfl rfl) ?_
        refine AR.op (r := bl (!r34)) rfl (aop_move (.inl rfl) rfl) ?_
        rcases Bool.eq_false_or_eq_true (!r34) with hb35 | hb35
        · rw [hb35]
          replace h := Sh.if_t h hb35
          refine AR.op (r := .agg [.clip (List.map G.api_Txn.av ([(G.api_Txn.mk 1 [] ([(G.api_Take.mk 4 1)] : List G.api_Take)), (G.api_Txn.mk 2 [4] []), (G.api_Txn.mk 3 [4] [])] : List G.api_Txn))]) rfl (aop_load_pp rfl rfl sz24 rfl) ?_
          refine AR.drop (frx := [(1, _), (2, _), (33, _), (34, _)]) ⟨rfl, rfl, rfl, rfl, trivial⟩ ?_
          refine AR.op (r := .clip (List.map G.api_Choice.av ([(G.api_Choice.mk 4 1 2)] : List G.api_Choice))) rfl (aop_move (.inl rfl) rfl) ?_
          obtain ⟨r36, hr36, h⟩ := Sh.bind_some' h
          refine AR.op (r := bl r36) rfl (aop_callN rfl (ys := [.agg [.clip (List.map G.api_Txn.av ([(G.api_Txn.mk 1 [] ([(G.api_Take.mk 4 1)] : List G.api_Take)), (G.api_Txn.mk 2 [4] []), (G.api_Txn.mk 3 [4] [])] : List G.api_Txn))], i64 0, .clip (List.map G.api_Choice.av ([(G.api_Choice.mk 4 1 2)] : List G.api_Choice)), i64 0, i64 2]) (xs := [G.api_Hist.av (G.api_Hist.mk ([(G.api_Txn.mk 1 [] ([(G.api_Take.mk 4 1)] : List G.api_Take)), (G.api_Txn.mk 2 [4] []), (G.api_Txn.mk 3 [4] [])] : List G.api_Txn)), i64 0, .sl (List.map G.api_Choice.av ([(G.api_Choice.mk 4 1 2)] : List G.api_Choice)), i64 0, i64 2]) rfl (Weak.re (fr' := argsFr 0 [G.api_Hist.av (G.api_Hist.mk ([(G.api_Txn.mk 1 [] ([(G.api_Take.mk 4 1)] : List G.api_Take)), (G.api_Txn.mk 2 [4] []), (G.api_Txn.mk 3 [4] [])] : List G.api_Txn)), i64 0, .sl (List.map G.api_Choice.av ([(G.api_Choice.mk 4 1 2)] : List G.api_Choice)), i64 0, i64 2]) (H' := .empty) [] [] rfl rfl rfl trivial ⟨⟨.agg [.clip (List.map G.api_Txn.av ([(G.api_Txn.mk 1 [] ([(G.api_Take.mk 4 1)] : List G.api_Take)), (G.api_Txn.mk 2 [4] []), (G.api_Txn.mk 3 [4] [])] : List G.api_Txn))], rfl, .ag ⟨.wide _ (by simp), trivial⟩⟩, ⟨_, rfl, .same _ (by simp)⟩, ⟨.clip (List.map G.api_Choice.av ([(G.api_Choice.mk 4 1 2)] : List G.api_Choice)), rfl, .wide _ (by simp)⟩, ⟨_, rfl, .same _ (by simp)⟩, ⟨_, rfl, .same _ (by simp)⟩, trivial⟩) rfl (by simp) (edge_Is_ok hT hr36)) ?_
          refine AR.op (r := bl r36) rfl (aop_pick rfl rfl rfl) ?_
          refine AR.drop (frx := [(1, _), (2, _), (37, _)]) ⟨rfl, rfl, rfl, trivial⟩ ?_
          refine AR.op (r := bl r36) rfl (aop_move (.inl rfl) rfl) ?_
          rcases Bool.eq_false_or_eq_true (r36) with hb37 | hb37
          · rw [hb37]
            replace h := Sh.if_t h hb37
            refine AR.op (r := .agg [.clip (List.map G.api_Txn.av ([(G.api_Txn.mk 1 [] ([(G.api_Take.mk 4 1)] : List G.api_Take)), (G.api_Txn.mk 2 [4] []), (G.api_Txn.mk 3 [4] [])] : List G.api_Txn))]) rfl (aop_load_pp rfl rfl sz24 rfl) ?_
            refine AR.op (r := .clip (List.map G.api_Choice.av ([(G.api_Choice.mk 4 1 2)] : List G.api_Choice))) rfl (aop_move (.inl rfl) rfl) ?_
            refine AR.drop (frx := [(1, _), (38, _), (39, _), (40, _)]) ⟨rfl, rfl, rfl, rfl, trivial⟩ ?_
            refine AR.op (r := .clip (List.map i64 [0, 1])) rfl (aop_buildSlice rfl (xo := [.const (.int .i64 0), .const (.int .i64 1)]) rfl rfl rfl (by simp [AV.solid]) (by simp [AV.flat]) el26 ze26 (by decide)) ?_
            obtain ⟨r38, hr38, h⟩ := Sh.bind_some' h
            refine AR.op (r := bl r38) rfl (aop_callN rfl (ys := [.agg [.clip (List.map G.api_Txn.av ([(G.api_Txn.mk 1 [] ([(G.api_Take.mk 4 1)] : List G.api_Take)), (G.api_Txn.mk 2 [4] []), (G.api_Txn.mk 3 [4] [])] : List G.api_Txn))], i64 0, .clip (List.map G.api_Choice.av ([(G.api_Choice.mk 4 1 2)] : List G.api_Choice)), .clip (List.map i64 [0, 1])]) (xs := [G.api_Hist.av (G.api_Hist.mk ([(G.api_Txn.mk 1 [] ([(G.api_Take.mk 4 1)] : List G.api_Take)), (G.api_Txn.mk 2 [4] []), (G.api_Txn.mk 3 [4] [])] : List G.api_Txn)), i64 0, .sl (List.map G.api_Choice.av ([(G.api_Choice.mk 4 1 2)] : List G.api_Choice)), .sl (List.map i64 [0, 1])]) rfl (Weak.re (fr' := argsFr 0 [G.api_Hist.av (G.api_Hist.mk ([(G.api_Txn.mk 1 [] ([(G.api_Take.mk 4 1)] : List G.api_Take)), (G.api_Txn.mk 2 [4] []), (G.api_Txn.mk 3 [4] [])] : List G.api_Txn)), i64 0, .sl (List.map G.api_Choice.av ([(G.api_Choice.mk 4 1 2)] : List G.api_Choice)), .sl (List.map i64 [0, 1])]) (H' := .empty) [] [] rfl rfl rfl trivial ⟨⟨.agg [.clip (List.map G.api_Txn.av ([(G.api_Txn.mk 1 [] ([(G.api_Take.mk 4 1)] : List G.api_Take)), (G.api_Txn.mk 2 [4] []), (G.api_Txn.mk 3 [4] [])] : List G.api_Txn))], rfl, .ag ⟨.wide _ (by simp), trivial⟩⟩, ⟨_, rfl, .same _ (by simp)⟩, ⟨.clip (List.map G.api_Choice.av ([(G.api_Choice.mk 4 1 2)] : List G.api_Choice)), rfl, .wide _ (by simp)⟩, ⟨.clip (List.map i64 [0, 1]), rfl, .wide _ (by simp)⟩, trivial⟩) rfl (by simp) (edge_Cycle_ok hT hr38)) ?_
            refine AR.op (r := bl (!r38)) rfl (aop_not rfl rfl) ?_
            refine AR.drop (frx := [(1, _), (38, _), (43, _)]) ⟨rfl, rfl, rfl, trivial⟩ ?_
            refine AR.op (r := bl (!r38)) rfl (aop_pick rfl rfl rfl) ?_
            refine AR.op (r := bl (!r38)) rfl (aop_move (.inl rfl) rfl) ?_
            rcases Bool.eq_false_or_eq_true (!r38) with hb39 | hb39
            · rw [hb39]
              replace h := Sh.if_t h hb39
              refine AR.op (r := .agg [.clip (List.map G.api_Txn.av ([(G.api_Txn.mk 1 [] ([(G.api_Take.mk 4 1)] : List G.api_Take)), (G.api_Txn.mk 2 [4] []), (G.api_Txn.mk 3 [4] [])] : List G.api_Txn))]) rfl (aop_load_pp rfl rfl sz24 rfl) ?_
              refine AR.drop (frx := [(45, _), (46, _)]) ⟨rfl, rfl, trivial⟩ ?_
              refine AR.op (r := .agg [i64 4, i64 1, i64 2]) rfl (aop_build rfl bd35 rfl rfl rfl) ?_
              refine AR.op (r := .agg [i64 4, i64 2, i64 1]) rfl (aop_build rfl bd35 rfl rfl rfl) ?_
              refine AR.op (r := .clip (List.map G.api_Choice.av ([(G.api_Choice.mk 4 1 2), (G.api_Choice.mk 4 2 1)] : List G.api_Choice))) rfl (aop_buildSlice rfl (xo := [.tmp 47, .tmp 48]) rfl rfl rfl (by simp) (by simp) el25 ze25 (by decide)) ?_
              refine AR.drop (frx := [(45, _), (46, _), (49, _)]) ⟨rfl, rfl, rfl, trivial⟩ ?_
              refine AR.op (r := .clip (List.map i64 [2, 1])) rfl (aop_buildSlice rfl (xo := [.const (.int .i64 2), .const (.int .i64 1)]) rfl rfl rfl (by simp [AV.solid]) (by simp [AV.flat]) el26 ze26 (by decide)) ?_
              obtain ⟨r40, hr40, h⟩ := Sh.bind_some' h
              refine AR.op (r := bl r40) rfl (aop_callN rfl (ys := [.agg [.clip (List.map G.api_Txn.av ([(G.api_Txn.mk 1 [] ([(G.api_Take.mk 4 1)] : List G.api_Take)), (G.api_Txn.mk 2 [4] []), (G.api_Txn.mk 3 [4] [])] : List G.api_Txn))], i64 0, .clip (List.map G.api_Choice.av ([(G.api_Choice.mk 4 1 2), (G.api_Choice.mk 4 2 1)] : List G.api_Choice)), .clip (List.map i64 [2, 1])]) (xs := [G.api_Hist.av (G.api_Hist.mk ([(G.api_Txn.mk 1 [] ([(G.api_Take.mk 4 1)] : List G.api_Take)), (G.api_Txn.mk 2 [4] []), (G.api_Txn.mk 3 [4] [])] : List G.api_Txn)), i64 0, .sl (List.map G.api_Choice.av ([(G.api_Choice.mk 4 1 2), (G.api_Choice.mk 4 2 1)] : List G.api_Choice)), .sl (List.map i64 [2, 1])]) rfl (Weak.re (fr' := argsFr 0 [G.api_Hist.av (G.api_Hist.mk ([(G.api_Txn.mk 1 [] ([(G.api_Take.mk 4 1)] : List G.api_Take)), (G.api_Txn.mk 2 [4] []), (G.api_Txn.mk 3 [4] [])] : List G.api_Txn)), i64 0, .sl (List.map G.api_Choice.av ([(G.api_Choice.mk 4 1 2), (G.api_Choice.mk 4 2 1)] : List G.api_Choice)), .sl (List.map i64 [2, 1])]) (H' := .empty) [] [] rfl rfl rfl trivial ⟨⟨.agg [.clip (List.map G.api_Txn.av ([(G.api_Txn.mk 1 [] ([(G.api_Take.mk 4 1)] : List G.api_Take)), (G.api_Txn.mk 2 [4] []), (G.api_Txn.mk 3 [4] [])] : List G.api_Txn))], rfl, .ag ⟨.wide _ (by simp), trivial⟩⟩, ⟨_, rfl, .same _ (by simp)⟩, ⟨.clip (List.map G.api_Choice.av ([(G.api_Choice.mk 4 1 2), (G.api_Choice.mk 4 2 1)] : List G.api_Choice)), rfl, .wide _ (by simp)⟩, ⟨.clip (List.map i64 [2, 1]), rfl, .wide _ (by simp)⟩, trivial⟩) rfl (by simp) (edge_Cycle_ok hT hr40)) ?_
              refine AR.op (r := bl r40) rfl (aop_pick rfl rfl rfl) ?_
              refine AR.drop (frx := [(52, _)]) ⟨rfl, trivial⟩ ?_
              refine AR.op (r := bl r40) rfl (aop_move (.inr rfl) rfl) ?_
              refine AR.nil ?_
              refine hK4 _ (AWP.weak (Weak.kp (fr' := [(0, bl r40)]) ⟨rfl, trivial⟩) ?_)
              clear hK4 K4
              refine awp_ret ?_
              obtain rfl := Option.some.inj h
              refine ⟨.inr rfl, bl r40, rfl, ?_⟩
              exact Weak.re [] [] rfl rfl rfl (trivial) ⟨⟨_, rfl, .same _ (by simp)⟩, trivial⟩
            · rw [hb39]
              replace h := Sh.if_f h hb39
              refine AR.skip rfl ?_
              refine AR.drop (frx := [(45, _), (46, _)]) ⟨rfl, rfl, trivial⟩ ?_
              refine AR.skip rfl ?_
              refine AR.skip rfl ?_
              refine AR.skip rfl ?_
              refine AR.drop (frx := [(45, _), (46, _), (49, _)]) ⟨rfl, rfl, rfl, trivial⟩ ?_
              refine AR.skip rfl ?_
              refine AR.skip rfl ?_
              refine AR.op (r := bl false) rfl (aop_pick rfl rfl rfl) ?_
              refine AR.drop (frx := [(52, _)]) ⟨rfl, trivial⟩ ?_
              refine AR.op (r := bl false) rfl (aop_move (.inr rfl) rfl) ?_
              refine AR.nil ?_
              refine hK4 _ (AWP.weak (Weak.kp (fr' := [(0, bl false)]) ⟨rfl, trivial⟩) ?_)
              clear hK4 K4
              refine awp_ret ?_
              obtain rfl := Option.some.inj h
              refine ⟨.inr rfl, bl false, rfl, ?_⟩
              exact Weak.re [] [] rfl rfl rfl (trivial) ⟨⟨_, rfl, .same _ (by simp)⟩, trivial⟩
          · rw [hb37]
            replace h := Sh.if_f h hb37
            refine AR.skip rfl ?_
            refine AR.skip rfl ?_
            refine AR.drop (frx := [(1, _), (38, _), (39, _), (40, _)]) ⟨rfl, rfl, rfl, rfl, trivial⟩ ?_
            refine AR.skip rfl ?_
            refine AR.skip rfl ?_
            refine AR.skip rfl ?_
            refine AR.drop (frx := [(1, _), (38, _), (43, _)]) ⟨rfl, rfl, rfl, trivial⟩ ?_
            refine AR.op (r := bl false) rfl (aop_pick rfl rfl rfl) ?_
            refine AR.op (r := bl false) rfl (aop_move (.inl rfl) rfl) ?_
            refine AR.skip rfl ?_
            refine AR.drop (frx := [(45, _), (46, _)]) ⟨rfl, rfl, trivial⟩ ?_
            refine AR.skip rfl ?_
            refine AR.skip rfl ?_
            refine AR.skip rfl ?_
            refine AR.drop (frx := [(45, _), (46, _), (49, _)]) ⟨rfl, rfl, rfl, trivial⟩ ?_
            refine AR.skip rfl ?_
            refine AR.skip rfl ?_
            refine AR.op (r := bl false) rfl (aop_pick rfl rfl rfl) ?_
            refine AR.drop (frx := [(52, _)]) ⟨rfl, trivial⟩ ?_
            refine AR.op (r := bl false) rfl (aop_move (.inr rfl) rfl) ?_
            refine AR.nil ?_
            refine hK4 _ (AWP.weak (Weak.kp (fr' := [(0, bl false)]) ⟨rfl, trivial⟩) ?_)
            clear hK4 K4
            refine awp_ret ?_
            obtain rfl := Option.some.inj h
            refine ⟨.inr rfl, bl false, rfl, ?_⟩
            exact Weak.re [] [] rfl rfl rfl (trivial) ⟨⟨_, rfl, .same _ (by simp)⟩, trivial⟩
        · rw [hb35]
          replace h := Sh.if_f h hb35
          refine AR.skip rfl ?_
          refine AR.drop (frx := [(1, _), (2, _), (33, _), (34, _)]) ⟨rfl, rfl, rfl, rfl, trivial⟩ ?_
          refine AR.skip rfl ?_
          refine AR.skip rfl ?_
          refine AR.op (r := bl false) rfl (aop_pick rfl rfl rfl) ?_
          refine AR.drop (frx := [(1, _), (2, _), (37, _)]) ⟨rfl, rfl, rfl, trivial⟩ ?_
          refine AR.op (r := bl false) rfl (aop_move (.inl rfl) rfl) ?_
          refine AR.skip rfl ?_
          refine AR.skip rfl ?_
          refine AR.drop (frx := [(1, _), (38, _), (39, _), (40, _)]) ⟨rfl, rfl, rfl, rfl, trivial⟩ ?_
          refine AR.skip rfl ?_
          refine AR.skip rfl ?_
          refine AR.skip rfl ?_
          refine AR.drop (frx := [(1, _), (38, _), (43, _)]) ⟨rfl, rfl, rfl, trivial⟩ ?_
          refine AR.op (r := bl false) rfl (aop_pick rfl rfl rfl) ?_
          refine AR.op (r := bl false) rfl (aop_move (.inl rfl) rfl) ?_
          refine AR.skip rfl ?_
          refine AR.drop (frx := [(45, _), (46, _)]) ⟨rfl, rfl, trivial⟩ ?_
          refine AR.skip rfl ?_
          refine AR.skip rfl ?_
          refine AR.skip rfl ?_
          refine AR.drop (frx := [(45, _), (46, _), (49, _)]) ⟨rfl, rfl, rfl, trivial⟩ ?_
          refine AR.skip rfl ?_
          refine AR.skip rfl ?_
          refine AR.op (r := bl false) rfl (aop_pick rfl rfl rfl) ?_
          refine AR.drop (frx := [(52, _)]) ⟨rfl, trivial⟩ ?_
          refine AR.op (r := bl false) rfl (aop_move (.inr rfl) rfl) ?_
          refine AR.nil ?_
          refine hK4 _ (AWP.weak (Weak.kp (fr' := [(0, bl false)]) ⟨rfl, trivial⟩) ?_)
          clear hK4 K4
          refine awp_ret ?_
          obtain rfl := Option.some.inj h
          refine ⟨.inr rfl, bl false, rfl, ?_⟩
          exact Weak.re [] [] rfl rfl rfl (trivial) ⟨⟨_, rfl, .same _ (by simp)⟩, trivial⟩
      · rw [hb33]
        replace h := Sh.if_f h hb33
        refine AR.skip rfl ?_
        refine AR.drop (frx := [(1, _), (2, _), (27, _), (28, _)]) ⟨rfl, rfl, rfl, rfl, trivial⟩ ?_
        refine AR.skip rfl ?_
        refine AR.skip rfl ?_
        refine AR.skip rfl ?_
        refine AR.drop (frx := [(1, _), (2, _), (27, _), (31, _)]) ⟨rfl, rfl, rfl, rfl, trivial⟩ ?_
        refine AR.op (r := bl false) rfl (aop_pick rfl rfl rfl) ?_
        refine AR.op (r := bl false) rfl (aop_move (.inl rfl) rfl) ?_
        refine AR.skip rfl ?_
        refine AR.drop (frx := [(1, _), (2, _), (33, _), (34, _)]) ⟨rfl, rfl, rfl, rfl, trivial⟩ ?_
        refine AR.skip rfl ?_
        refine AR.skip rfl ?_
        refine AR.op (r := bl false) rfl (aop_pick rfl rfl rfl) ?_
        refine AR.drop (frx := [(1, _), (2, _), (37, _)]) ⟨rfl, rfl, rfl, trivial⟩ ?_
        refine AR.op (r := bl false) rfl (aop_move (.inl rfl) rfl) ?_
        refine AR.skip rfl ?_
        refine AR.skip rfl ?_
        refine AR.drop (frx := [(1, _), (38, _), (39, _), (40, _)]) ⟨rfl, rfl, rfl, rfl, trivial⟩ ?_
        refine AR.skip rfl ?_
        refine AR.skip rfl ?_
        refine AR.skip rfl ?_
        refine AR.drop (frx := [(1, _), (38, _), (43, _)]) ⟨rfl, rfl, rfl, trivial⟩ ?_
        refine AR.op (r := bl false) rfl (aop_pick rfl rfl rfl) ?_
        refine AR.op (r := bl false) rfl (aop_move (.inl rfl) rfl) ?_
        refine AR.skip rfl ?_
        refine AR.drop (frx := [(45, _), (46, _)]) ⟨rfl, rfl, trivial⟩ ?_
        refine AR.skip rfl ?_
        refine AR.skip rfl ?_
        refine AR.skip rfl ?_
        refine AR.drop (frx := [(45, _), (46, _), (49, _)]) ⟨rfl, rfl, rfl, trivial⟩ ?_
        refine AR.skip rfl ?_
        refine AR.skip rfl ?_
        refine AR.op (r := bl false) rfl (aop_pick rfl rfl rfl) ?_
        refine AR.drop (frx := [(52, _)]) ⟨rfl, trivial⟩ ?_
        refine AR.op (r := bl false) rfl (aop_move (.inr rfl) rfl) ?_
        refine AR.nil ?_
        refine hK4 _ (AWP.weak (Weak.kp (fr' := [(0, bl false)]) ⟨rfl, trivial⟩) ?_)
        clear hK4 K4
        refine awp_ret ?_
        obtain rfl := Option.some.inj h
        refine ⟨.inr rfl, bl false, rfl, ?_⟩
        exact Weak.re [] [] rfl rfl rfl (trivial) ⟨⟨_, rfl, .same _ (by simp)⟩, trivial⟩
    · rw [hb31]
      replace h := Sh.if_f h hb31
      refine AR.skip rfl ?_
      refine AR.skip rfl ?_
      refine AR.skip rfl ?_
      refine AR.drop (frx := [(1, _), (2, _), (22, _), (25, _)]) ⟨rfl, rfl, rfl, rfl, trivial⟩ ?_
      refine AR.op (r := bl false) rfl (aop_pick rfl rfl rfl) ?_
      refine AR.op (r := bl false) rfl (aop_move (.inl rfl) rfl) ?_
      refine AR.skip rfl ?_
      refine AR.drop (frx := [(1, _), (2, _), (27, _), (28, _)]) ⟨rfl, rfl, rfl, rfl, trivial⟩ ?_
      refine AR.skip rfl ?_
      refine AR.skip rfl ?_
      refine AR.skip rfl ?_
      refine AR.drop (frx := [(1, _), (2, _), (27, _), (31, _)]) ⟨rfl, rfl, rfl, rfl, trivial⟩ ?_
      refine AR.op (r := bl false) rfl (aop_pick rfl rfl rfl) ?_
      refine AR.op (r := bl false) rfl (aop_move (.inl rfl) rfl) ?_
      refine AR.skip rfl ?_
      refine AR.drop (frx := [(1, _), (2, _), (33, _), (34, _)]) ⟨rfl, rfl, rfl, rfl, trivial⟩ ?_
      refine AR.skip rfl ?_
      refine AR.skip rfl ?_
      refine AR.op (r := bl false) rfl (aop_pick rfl rfl rfl) ?_
      refine AR.drop (frx := [(1, _), (2, _), (37, _)]) ⟨rfl, rfl, rfl, trivial⟩ ?_
      refine AR.op (r := bl false) rfl (aop_move (.inl rfl) rfl) ?_
      refine AR.skip rfl ?_
      refine AR.skip rfl ?_
      refine AR.drop (frx := [(1, _), (38, _), (39, _), (40, _)]) ⟨rfl, rfl, rfl, rfl, trivial⟩ ?_
      refine AR.skip rfl ?_
      refine AR.skip rfl ?_
      refine AR.skip rfl ?_
      refine AR.drop (frx := [(1, _), (38, _), (43, _)]) ⟨rfl, rfl, rfl, trivial⟩ ?_
      refine AR.op (r := bl false) rfl (aop_pick rfl rfl rfl) ?_
      refine AR.op (r := bl false) rfl (aop_move (.inl rfl) rfl) ?_
      refine AR.skip rfl ?_
      refine AR.drop (frx := [(45, _), (46, _)]) ⟨rfl, rfl, trivial⟩ ?_
      refine AR.skip rfl ?_
      refine AR.skip rfl ?_
      refine AR.skip rfl ?_
      refine AR.drop (frx := [(45, _), (46, _), (49, _)]) ⟨rfl, rfl, rfl, trivial⟩ ?_
      refine AR.skip rfl ?_
      refine AR.skip rfl ?_
      refine AR.op (r := bl false) rfl (aop_pick rfl rfl rfl) ?_
      refine AR.drop (frx := [(52, _)]) ⟨rfl, trivial⟩ ?_
      refine AR.op (r := bl false) rfl (aop_move (.inr rfl) rfl) ?_
      refine AR.nil ?_
      refine hK4 _ (AWP.weak (Weak.kp (fr' := [(0, bl false)]) ⟨rfl, trivial⟩) ?_)
      clear hK4 K4
      refine awp_ret ?_
      obtain rfl := Option.some.inj h
      refine ⟨.inr rfl, bl false, rfl, ?_⟩
      exact Weak.re [] [] rfl rfl rfl (trivial) ⟨⟨_, rfl, .same _ (by simp)⟩, trivial⟩
  · rw [hb29]
    replace h := Sh.if_f h hb29
    refine AR.skip rfl ?_
    refine AR.skip rfl ?_
    refine AR.drop (frx := [(1, _), (2, _), (17, _), (18, _), (19, _)]) ⟨rfl, rfl, rfl, rfl, rfl, trivial⟩ ?_
    refine AR.skip rfl ?_
    refine AR.op (r := bl false) rfl (aop_pick rfl rfl rfl) ?_
    refine AR.op (r := bl false) rfl (aop_move (.inl rfl) rfl) ?_
    refine AR.drop (frx := [(1, _), (2, _), (22, _)]) ⟨rfl, rfl, rfl, trivial⟩ ?_
    refine AR.skip rfl ?_
    refine AR.skip rfl ?_
    refine AR.skip rfl ?_
    refine AR.drop (frx := [(1, _), (2, _), (22, _), (25, _)]) ⟨rfl, rfl, rfl, rfl, trivial⟩ ?_
    refine AR.op (r := bl false) rfl (aop_pick rfl rfl rfl) ?_
    refine AR.op (r := bl false) rfl (aop_move (.inl rfl) rfl) ?_
    refine AR.skip rfl ?_
    refine AR.drop (frx := [(1, _), (2, _), (27, _), (28, _)]) ⟨rfl, rfl, rfl, rfl, trivial⟩ ?_
    refine AR.skip rfl ?_
    refine AR.skip rfl ?_
    refine AR.skip rfl ?_
    refine AR.drop (frx := [(1, _), (2, _), (27, _), (31, _)]) ⟨rfl, rfl, rfl, rfl, trivial⟩ ?_
    refine AR.op (r := bl false) rfl (aop_pick rfl rfl rfl) ?_
    refine AR.op (r := bl false) rfl (aop_move (.inl rfl) rfl) ?_
    refine AR.skip rfl ?_
    refine AR.drop (frx := [(1, _), (2, _), (33, _), (34, _)]) ⟨rfl, rfl, rfl, rfl, trivial⟩ ?_
    refine AR.skip rfl ?_
    refine AR.skip rfl ?_
    refine AR.op (r := bl false) rfl (aop_pick rfl rfl rfl) ?_
    refine AR.drop (frx := [(1, _), (2, _), (37, _)]) ⟨rfl, rfl, rfl, trivial⟩ ?_
    refine AR.op (r := bl false) rfl (aop_move (.inl rfl) rfl) ?_
    refine AR.skip rfl ?_
    refine AR.skip rfl ?_
    refine AR.drop (frx := [(1, _), (38, _), (39, _), (40, _)]) ⟨rfl, rfl, rfl, rfl, trivial⟩ ?_
    refine AR.skip rfl ?_
    refine AR.skip rfl ?_
    refine AR.skip rfl ?_
    refine AR.drop (frx := [(1, _), (38, _), (43, _)]) ⟨rfl, rfl, rfl, trivial⟩ ?_
    refine AR.op (r := bl false) rfl (aop_pick rfl rfl rfl) ?_
    refine AR.op (r := bl false) rfl (aop_move (.inl rfl) rfl) ?_
    refine AR.skip rfl ?_
    refine AR.drop (frx := [(45, _), (46, _)]) ⟨rfl, rfl, trivial⟩ ?_
    refine AR.skip rfl ?_
    refine AR.skip rfl ?_
    refine AR.skip rfl ?_
    refine AR.drop (frx := [(45, _), (46, _), (49, _)]) ⟨rfl, rfl, rfl, trivial⟩ ?_
    refine AR.skip rfl ?_
    refine AR.skip rfl ?_
    refine AR.op (r := bl false) rfl (aop_pick rfl rfl rfl) ?_
    refine AR.drop (frx := [(52, _)]) ⟨rfl, trivial⟩ ?_
    refine AR.op (r := bl false) rfl (aop_move (.inr rfl) rfl) ?_
    refine AR.nil ?_
    refine hK4 _ (AWP.weak (Weak.kp (fr' := [(0, bl false)]) ⟨rfl, trivial⟩) ?_)
    clear hK4 K4
    refine awp_ret ?_
    obtain rfl := Option.some.inj h
    refine ⟨.inr rfl, bl false, rfl, ?_⟩
    exact Weak.re [] [] rfl rfl rfl (trivial) ⟨⟨_, rfl, .same _ (by simp)⟩, trivial⟩
theorem inquestlaw19_awake_ok {W0 : World} (hT : Tab W0) {r : Bool} (h : G.inquestlaw19_awake = some r) : Fun1 Try.prog W0 8 [] (bl r) := Fun1.two (inquestlaw19_awake_ok0 hT h) (by simp)


set_option maxHeartbeats 8000000 in
set_option maxRecDepth 20000 in
theorem inquestlaw19_few_ok0 {W0 : World} (hT : Tab W0) {a_0 : G.inquestlaw19_At} {r : Bool} (h : G.inquestlaw19_few a_0 = some r) : Fun2 Try.prog W0 9 [G.inquestlaw19_At.av a_0] (bl r) .empty := by
  refine fun2_of_awp Try.func9 rfl (by kernel_rfl) Try.ntmps9 (by simp) ?_
  unfold G.inquestlaw19_few at h
  show AWP _ _ _ _ ⟨[(0, G.inquestlaw19_At.av a_0)], .empty⟩ _
  refine awp_seqK fun K1 hK1 => ?_
  refine awp_reg rfl ?_
  refine AR.op (r := .ref 0 0 0) rfl (aop_box 6 [G.inquestlaw19_At.av a_0] rfl rfl rfl (.inl ⟨rfl, rfl⟩)) ?_
  refine AR.op (r := bl false) rfl (aop_move (.inr rfl) rfl) ?_
  refine AR.nil ?_
  refine hK1 _ (AWP.weak (Weak.re (fr' := [(1, .pp [.sl (List.map G.api_Txn.av a_0.H.Txns), i64 a_0.Level, .sl (List.map G.api_Choice.av a_0.L), i64 a_0.X, i64 a_0.Y, .sl (List.map i64 a_0.Row)] 0)]) (H' := .empty) [] [] rfl rfl rfl (trivial) ⟨⟨_, rfl, .frzA rfl rfl rfl rfl (by simp)⟩, trivial⟩) ?_)
  clear hK1 K1
  refine awp_seqK fun K2 hK2 => ?_
  refine awp_reg rfl ?_
  refine AR.op rfl (aop_field_pp rfl rfl fd28_0 (by decide)) ?_
  refine AR.op (r := G.api_Hist.av a_0.H) rfl (aop_load_pp rfl rfl sz24 rfl) ?_
  obtain ⟨r6, hr6, h⟩ := Sh.bind_some' h
  refine AR.op (r := bl r6) rfl (aop_call1 rfl rfl (by simp) (inquestref08_Few_ok hT hr6)) ?_
  refine AR.drop (frx := [(1, _), (6, _)]) ⟨rfl, rfl, trivial⟩ ?_
  refine AR.op (r := bl r6) rfl (aop_move (.inr rfl) rfl) ?_
  refine AR.nil ?_
  refine hK2 _ (AWP.weak (Weak.kp (fr' := [(1, .pp [.sl (List.map G.api_Txn.av a_0.H.Txns), i64 a_0.Level, .sl (List.map G.api_Choice.av a_0.L), i64 a_0.X, i64 a_0.Y, .sl (List.map i64 a_0.Row)] 0), (3, bl r6)]) ⟨rfl, rfl, trivial⟩) ?_)
  clear hK2 K2
  refine awp_seqK fun K3 hK3 => ?_
  refine awp_reg rfl ?_
  refine AR.op (r := bl r6) rfl (aop_move (.inl rfl) rfl) ?_
  refine AR.op (r := bl r6) rfl (aop_move (.inl rfl) rfl) ?_
  rcases Bool.eq_false_or_eq_true (r6) with hb9 | hb9
  · rw [hb9]
    replace h := Sh.if_t h hb9
    refine AR.op rfl (aop_field_pp rfl rfl fd28_2 (by decide)) ?_
    refine AR.drop (frx := [(1, _), (8, _), (9, _)]) ⟨rfl, rfl, rfl, trivial⟩ ?_
    refine AR.op (r := .sl (List.map G.api_Choice.av a_0.L)) rfl (aop_load_pp rfl rfl sz25 rfl) ?_
    refine AR.op (r := i64 (Sh.len a_0.L)) rfl (t_len_sl G.api_Choice.av a_0.L rfl rfl el25) ?_
    refine AR.op (r := bl (decide ((Sh.len a_0.L) ≤ 40))) rfl (aop_leq rfl rfl rfl) ?_
    refine AR.drop (frx := [(1, _), (8, _), (12, _)]) ⟨rfl, rfl, rfl, trivial⟩ ?_
    refine AR.op (r := bl (decide ((Sh.len a_0.L) ≤ 40))) rfl (aop_pick rfl rfl rfl) ?_
    refine AR.op (r := bl (decide ((Sh.len a_0.L) ≤ 40))) rfl (aop_move (.inl rfl) rfl) ?_
    rcases Bool.eq_false_or_eq_true (decide ((Sh.len a_0.L) ≤ 40)) with hb10 | hb10
    · rw [hb10]
      replace h := Sh.if_t h hb10
      refine AR.op rfl (aop_field_pp rfl rfl fd28_5 (by decide)) ?_
      refine AR.drop (frx := [(14, _), (15, _)]) ⟨rfl, rfl, trivial⟩ ?_
      refine AR.op (r := .sl (List.map i64 a_0.Row)) rfl (aop_load_pp rfl rfl sz26 rfl) ?_
      refine AR.op (r := i64 (Sh.len a_0.Row)) rfl (t_len_sl i64 a_0.Row rfl rfl el26) ?_
      refine AR.op (r := bl (decide ((Sh.len a_0.Row) ≤ 14))) rfl (aop_leq rfl rfl rfl) ?_
      refine AR.drop (frx := [(14, _), (18, _)]) ⟨rfl, rfl, trivial⟩ ?_
      refine AR.op (r := bl (decide ((Sh.len a_0.Row) ≤ 14))) rfl (aop_pick rfl rfl rfl) ?_
      refine AR.op (r := bl (decide ((Sh.len a_0.Row) ≤ 14))) rfl (aop_move (.inr rfl) rfl) ?_
      refine AR.nil ?_
      refine hK3 _ (AWP.weak (Weak.kp (fr' := [(2, bl (decide ((Sh.len a_0.Row) ≤ 14)))]) ⟨rfl, trivial⟩) ?_)
      clear hK3 K3
      refine awp_ret ?_
      obtain rfl := Option.some.inj h
      refine ⟨.inr rfl, bl (decide ((Sh.len a_0.Row) ≤ 14)), rfl, ?_⟩
      exact Weak.re [] [] rfl rfl rfl (trivial) ⟨⟨_, rfl, .same _ (by simp)⟩, trivial⟩
    · rw [hb10]
      replace h := Sh.if_f h hb10
      refine AR.skip rfl ?_
      refine AR.drop (frx := [(14, _), (15, _)]) ⟨rfl, rfl, trivial⟩ ?_
      refine AR.skip rfl ?_
      refine AR.skip rfl ?_
      refine AR.skip rfl ?_
      refine AR.drop (frx := [(14, _), (18, _)]) ⟨rfl, rfl, trivial⟩ ?_
      refine AR.op (r := bl false) rfl (aop_pick rfl rfl rfl) ?_
      refine AR.op (r := bl false) rfl (aop_move (.inr rfl) rfl) ?_
      refine AR.nil ?_
      refine hK3 _ (AWP.weak (Weak.kp (fr' := [(2, bl false)]) ⟨rfl, trivial⟩) ?_)
      clear hK3 K3
      refine awp_ret ?_
      obtain rfl := Option.some.inj h
      refine ⟨.inr rfl, bl false, rfl, ?_⟩
      exact Weak.re [] [] rfl rfl rfl (trivial) ⟨⟨_, rfl, .same _ (by simp)⟩, trivial⟩
  · rw [hb9]
    replace h := Sh.if_f h hb9
    refine AR.skip rfl ?_
    refine AR.drop (frx := [(1, _), (8, _), (9, _)]) ⟨rfl, rfl, rfl, trivial⟩ ?_
    refine AR.skip rfl ?_
    refine AR.skip rfl ?_
    refine AR.skip rfl ?_
    refine AR.drop (frx := [(1, _), (8, _), (12, _)]) ⟨rfl, rfl, rfl, trivial⟩ ?_
    refine AR.op (r := bl false) rfl (aop_pick rfl rfl rfl) ?_
    refine AR.op (r := bl false) rfl (aop_move (.inl rfl) rfl) ?_
    refine AR.skip rfl ?_
    refine AR.drop (frx := [(14, _), (15, _)]) ⟨rfl, rfl, trivial⟩ ?_
    refine AR.skip rfl ?_
    refine AR.skip rfl ?_
    refine AR.skip rfl ?_
    refine AR.drop (frx := [(14, _), (18, _)]) ⟨rfl, rfl, trivial⟩ ?_
    refine AR.op (r := bl false) rfl (aop_pick rfl rfl rfl) ?_
    refine AR.op (r := bl false) rfl (aop_move (.inr rfl) rfl) ?_
    refine AR.nil ?_
    refine hK3 _ (AWP.weak (Weak.kp (fr' := [(2, bl false)]) ⟨rfl, trivial⟩) ?_)
    clear hK3 K3
    refine awp_ret ?_
    obtain rfl := Option.some.inj h
    refine ⟨.inr rfl, bl false, rfl, ?_⟩
    exact Weak.re [] [] rfl rfl rfl (trivial) ⟨⟨_, rfl, .same _ (by simp)⟩, trivial⟩
theorem inquestlaw19_few_ok {W0 : World} (hT : Tab W0) {a_0 : G.inquestlaw19_At} {r : Bool} (h : G.inquestlaw19_few a_0 = some r) : Fun1 Try.prog W0 9 [G.inquestlaw19_At.av a_0] (bl r) := Fun1.two (inquestlaw19_few_ok0 hT h) (by simp)

end Wk
