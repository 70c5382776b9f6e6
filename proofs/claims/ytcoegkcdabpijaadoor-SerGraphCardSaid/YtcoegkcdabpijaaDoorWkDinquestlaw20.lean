/- That the functions of a package do what their plain functions say. -/
import Derived.Test.YtcoegkcdabpijaaDoorSh
import Derived.Test.YtcoegkcdabpijaaDoorWkDFacts
import Derived.Test.YtcoegkcdabpijaaDoorWkDchoice
import Derived.Test.YtcoegkcdabpijaaDoorWkDinquestref08
import Derived.Test.YtcoegkcdabpijaaDoorWkDinquestref18
import Derived.Test.YtcoegkcdabpijaaDoorWkDinquestref20
import Derived.Test.YtcoegkcdabpijaaDoorWkDser
import Derived.Test.YtcoegkcdabpijaaDoorWkDtopo
open Go Go.Av Go.Proofs
set_option linter.unusedVariables false
set_option maxHeartbeats 8000000
set_option maxRecDepth 20000
namespace Wk
theorem inquestlaw20_awake_ok0 {W0 : World} (hT : Tab W0) {r : Bool} (h : G.inquestlaw20_awake = some r) : Fun2 Tryd.prog W0 14 [] (bl r) .empty := by
 refine fun2_of_awp Tryd.func14 rfl (by kernel_rfl) Tryd.ntmps14 (by simp) ?_
 unfold G.inquestlaw20_awake at h
 show AWP _ _ _ _ ⟨[], .empty⟩ _
 refine awp_seqK fun K1 hK1 => awp_reg rfl <| AR.op rfl (aop_move (.inr rfl) rfl) <| AR.nil <| hK1 _ (AWP.weak (Weak.kt [] rfl) ?_)
 refine awp_seqK fun K2 hK2 => awp_reg rfl <| AR.op (r := .clip (List.map i64 [1])) rfl (aop_buildSlice rfl (xo := [.const (.int .i64 1)]) rfl rfl rfl (by simp [AV.solid]) (by simp [AV.flat]) el26 ze26 (by decide)) <| AR.op (r := .agg [i64 0, .clip (List.map i64 [1]), nilS]) rfl (aop_build rfl bd53 rfl rfl rfl) <| AR.op (r := .agg [i64 1, i64 0]) rfl (aop_build rfl bd50 rfl rfl rfl) <| AR.keep [4, 5] rfl <| AR.op (r := .clip (List.map G.api_Take.av ([(G.api_Take.mk 1 0)] : List G.api_Take))) rfl (aop_buildSlice rfl (xo := [.tmp 5]) rfl rfl rfl (by simp) (by simp) el51 ze51 (by decide)) <| AR.op (r := .agg [i64 1, nilS, .clip (List.map G.api_Take.av ([(G.api_Take.mk 1 0)] : List G.api_Take))]) rfl (aop_build rfl bd53 rfl rfl rfl) ?_
 refine AR.op (r := .clip (List.map G.api_Txn.av ([(G.api_Txn.mk 0 [1] []), (G.api_Txn.mk 1 [] ([(G.api_Take.mk 1 0)] : List G.api_Take))] : List G.api_Txn))) rfl ((aop_buildSlice (xs := [.agg [i64 0, .clip (List.map i64 [1]), nilS], .agg [i64 1, nilS, .clip (List.map G.api_Take.av ([(G.api_Take.mk 1 0)] : List G.api_Take))]]) rfl (xo := [.tmp 4, .tmp 7]) rfl rfl rfl (by simp [AV.solid]) (by simp [AV.flat]) el22 ze22 (by decide)).clipw ⟨⟨.same _, .clip _, .nil, trivial⟩, ⟨.same _, .nil, .clip _, trivial⟩, trivial⟩) <| AR.keep [8] rfl <| AR.op (r := .agg [.clip (List.map G.api_Txn.av ([(G.api_Txn.mk 0 [1] []), (G.api_Txn.mk 1 [] ([(G.api_Take.mk 1 0)] : List G.api_Take))] : List G.api_Txn))]) rfl (aop_build rfl bd24 rfl rfl rfl) <| AR.op (r := .ref 0 0 0) rfl (aop_alloc 1 [.agg [nilS]] rfl zr24 (by kernel_rfl) (.inl ⟨rfl, rfl⟩)) <| AR.op rfl (aop_store (e' := .agg [.clip (List.map G.api_Txn.av ([(G.api_Txn.mk 0 [1] []), (G.api_Txn.mk 1 [] ([(G.api_Take.mk 1 0)] : List G.api_Take))] : List G.api_Txn))]) rfl rfl rfl rfl rfl rfl sz24 rfl dt rfl) <| AR.nil <| hK2 _ (AWP.weak (Weak.e (fr' := [(1, .pp [.clip (List.map G.api_Txn.av ([(G.api_Txn.mk 0 [1] []), (G.api_Txn.mk 1 [] ([(G.api_Take.mk 1 0)] : List G.api_Take))] : List G.api_Txn))] 0)]) (H' := .empty) ⟨⟨_, rfl, .frzA rfl rfl rfl rfl (by simp)⟩, trivial⟩) ?_)
 refine awp_seqK fun K3 hK3 => awp_reg rfl <| AR.op (r := .agg [.clip (List.map G.api_Txn.av ([(G.api_Txn.mk 0 [1] []), (G.api_Txn.mk 1 [] ([(G.api_Take.mk 1 0)] : List G.api_Take))] : List G.api_Txn))]) rfl (aop_load_pp rfl rfl sz24 rfl) <| AR.op (r := .clip (List.map i64 [1, 0])) rfl (aop_buildSlice rfl (xo := [.const (.int .i64 1), .const (.int .i64 0)]) rfl rfl rfl (by simp [AV.solid]) (by simp [AV.flat]) el26 ze26 (by decide)) ?_
 obtain ⟨r11, hr11, h⟩ := Sh.bind_some' h
 refine AR.op (r := .sl (List.map (slA G.api_Take.av) r11)) rfl (aop_callN rfl (ys := [.agg [.clip (List.map G.api_Txn.av ([(G.api_Txn.mk 0 [1] []), (G.api_Txn.mk 1 [] ([(G.api_Take.mk 1 0)] : List G.api_Take))] : List G.api_Txn))], .clip (List.map i64 [1, 0])]) (xs := [G.api_Hist.av (G.api_Hist.mk ([(G.api_Txn.mk 0 [1] []), (G.api_Txn.mk 1 [] ([(G.api_Take.mk 1 0)] : List G.api_Take))] : List G.api_Txn)), .sl (List.map i64 [1, 0])]) rfl (Weak.e (fr' := argsFr 0 [G.api_Hist.av (G.api_Hist.mk ([(G.api_Txn.mk 0 [1] []), (G.api_Txn.mk 1 [] ([(G.api_Take.mk 1 0)] : List G.api_Take))] : List G.api_Txn)), .sl (List.map i64 [1, 0])]) (H' := .empty) ⟨⟨.agg [.clip (List.map G.api_Txn.av ([(G.api_Txn.mk 0 [1] []), (G.api_Txn.mk 1 [] ([(G.api_Take.mk 1 0)] : List G.api_Take))] : List G.api_Txn))], rfl, .ag ⟨.wide _ (by simp), trivial⟩⟩, ⟨.clip (List.map i64 [1, 0]), rfl, .wide _ (by simp)⟩, trivial⟩) rfl (by simp) (ser_Play_ok hT hr11)) <| AR.keep [1, 12] rfl <| AR.op rfl (aop_move (.inr rfl) rfl) <| AR.nil <| hK3 _ (AWP.weak (Weak.kt [1, 2] rfl) ?_)
 refine awp_seqK fun K4 hK4 => awp_seqK fun K5 hK5 => awp_reg rfl <| AR.op rfl (aop_move (.inl rfl) rfl) <| AR.op rfl (t_len_sl (slA G.api_Take.av) r11 rfl rfl el70) <| AR.op (r := bl (decide ((Sh.len r11) ≠ 2))) rfl (aop_neq rfl rfl rfl) <| AR.nil <| hK5 _ (AWP.weak (Weak.kt [1, 2, 15] rfl) ?_)
 refine awp_cond rfl (fun hb12 => ?_) (fun hb12 => ?_)
 ·replace h := Sh.if_t h hb12
  refine awp_seqK fun K6 hK6 => awp_reg rfl <| AR.op rfl (aop_move (.inr rfl) rfl) <| AR.nil <| hK6 _ (AWP.weak (Weak.kt [0] rfl) ?_)
  refine awp_ret ?_
  obtain rfl := Option.some.inj h
  refine ⟨.inr rfl, bl false, rfl, ?_⟩
  exact Weak.e ⟨.k, trivial⟩
 ·replace h := Sh.if_f h hb12
  refine awp_skip <| hK4 _ (AWP.weak (Weak.kt [1, 2] rfl) ?_)
  refine awp_seqK fun K7 hK7 => awp_reg rfl <| AR.op (r := .agg [.clip (List.map G.api_Txn.av ([(G.api_Txn.mk 0 [1] []), (G.api_Txn.mk 1 [] ([(G.api_Take.mk 1 0)] : List G.api_Take))] : List G.api_Txn))]) rfl (aop_load_pp rfl rfl sz24 rfl) <| AR.op (r := .clip (List.map i64 [0, 1])) rfl (aop_buildSlice rfl (xo := [.const (.int .i64 0), .const (.int .i64 1)]) rfl rfl rfl (by simp [AV.solid]) (by simp [AV.flat]) el26 ze26 (by decide)) ?_
  obtain ⟨r20, hr20, h⟩ := Sh.bind_some' h
  refine AR.op (r := bl r20) rfl (aop_callN rfl (ys := [.agg [.clip (List.map G.api_Txn.av ([(G.api_Txn.mk 0 [1] []), (G.api_Txn.mk 1 [] ([(G.api_Take.mk 1 0)] : List G.api_Take))] : List G.api_Txn))], .clip (List.map i64 [0, 1])]) (xs := [G.api_Hist.av (G.api_Hist.mk ([(G.api_Txn.mk 0 [1] []), (G.api_Txn.mk 1 [] ([(G.api_Take.mk 1 0)] : List G.api_Take))] : List G.api_Txn)), .sl (List.map i64 [0, 1])]) rfl (Weak.e (fr' := argsFr 0 [G.api_Hist.av (G.api_Hist.mk ([(G.api_Txn.mk 0 [1] []), (G.api_Txn.mk 1 [] ([(G.api_Take.mk 1 0)] : List G.api_Take))] : List G.api_Txn)), .sl (List.map i64 [0, 1])]) (H' := .empty) ⟨⟨.agg [.clip (List.map G.api_Txn.av ([(G.api_Txn.mk 0 [1] []), (G.api_Txn.mk 1 [] ([(G.api_Take.mk 1 0)] : List G.api_Take))] : List G.api_Txn))], rfl, .ag ⟨.wide _ (by simp), trivial⟩⟩, ⟨.clip (List.map i64 [0, 1]), rfl, .wide _ (by simp)⟩, trivial⟩) rfl (by simp) (ser_Check_ok hT hr20)) <| AR.keep [1, 2, 18] rfl <| AR.op rfl (aop_move (.inl rfl) rfl) ?_
  rcases Bool.eq_false_or_eq_true (r20) with hb21 | hb21
  ·rw [hb21]
   replace h := Sh.if_t h hb21
   refine AR.op (r := .agg [.clip (List.map G.api_Txn.av ([(G.api_Txn.mk 0 [1] []), (G.api_Txn.mk 1 [] ([(G.api_Take.mk 1 0)] : List G.api_Take))] : List G.api_Txn))]) rfl (aop_load_pp rfl rfl sz24 rfl) <| AR.op (r := .clip (List.map i64 [1, 0])) rfl (aop_buildSlice rfl (xo := [.const (.int .i64 1), .const (.int .i64 0)]) rfl rfl rfl (by simp [AV.solid]) (by simp [AV.flat]) el26 ze26 (by decide)) <| AR.keep [2, 19, 20, 21] rfl ?_
   obtain ⟨r22, hr22, h⟩ := Sh.bind_some' h
   refine AR.op (r := bl r22) rfl (aop_callN rfl (ys := [.agg [.clip (List.map G.api_Txn.av ([(G.api_Txn.mk 0 [1] []), (G.api_Txn.mk 1 [] ([(G.api_Take.mk 1 0)] : List G.api_Take))] : List G.api_Txn))], .clip (List.map i64 [1, 0])]) (xs := [G.api_Hist.av (G.api_Hist.mk ([(G.api_Txn.mk 0 [1] []), (G.api_Txn.mk 1 [] ([(G.api_Take.mk 1 0)] : List G.api_Take))] : List G.api_Txn)), .sl (List.map i64 [1, 0])]) rfl (Weak.e (fr' := argsFr 0 [G.api_Hist.av (G.api_Hist.mk ([(G.api_Txn.mk 0 [1] []), (G.api_Txn.mk 1 [] ([(G.api_Take.mk 1 0)] : List G.api_Take))] : List G.api_Txn)), .sl (List.map i64 [1, 0])]) (H' := .empty) ⟨⟨.agg [.clip (List.map G.api_Txn.av ([(G.api_Txn.mk 0 [1] []), (G.api_Txn.mk 1 [] ([(G.api_Take.mk 1 0)] : List G.api_Take))] : List G.api_Txn))], rfl, .ag ⟨.wide _ (by simp), trivial⟩⟩, ⟨.clip (List.map i64 [1, 0]), rfl, .wide _ (by simp)⟩, trivial⟩) rfl (by simp) (ser_Check_ok hT hr22)) <| AR.op (r := bl (!r22)) rfl (aop_not rfl rfl) <| AR.op rfl (aop_pick rfl rfl rfl) <| AR.keep [2, 24] rfl <| AR.op rfl (aop_move (.inl rfl) rfl) ?_
   rcases Bool.eq_false_or_eq_true (!r22) with hb23 | hb23
   ·rw [hb23]
    replace h := Sh.if_t h hb23
    refine AR.op rfl (aop_move (.inl rfl) rfl) ?_
    obtain ⟨x24, hx24, h⟩ := Sh.bind_some' h
    obtain ⟨k25, hi25, hl25⟩ := Sh.idx_some hx24
    refine AR.op rfl (t_index_sl (slA G.api_Take.av) r11 hi25 hl25 rfl rfl rfl el70 rfl) <| AR.keep [25, 27] rfl <| AR.op (r := .sl (List.map G.api_Take.av x24)) rfl (aop_load_pp rfl rfl sz51 rfl) <| AR.op (r := .agg [i64 1, i64 (-1)]) rfl (aop_build rfl bd50 rfl rfl rfl) <| AR.op (r := .clip (List.map G.api_Take.av ([(G.api_Take.mk 1 (-1))] : List G.api_Take))) rfl (aop_buildSlice rfl (xo := [.tmp 29]) rfl rfl rfl (by simp) (by simp) el51 ze51 (by decide)) <| AR.keep [25, 28, 30] rfl ?_
    obtain ⟨r26, hr26, h⟩ := Sh.bind_some' h
    refine AR.op (r := bl r26) rfl (aop_callN rfl (ys := [.sl (List.map G.api_Take.av x24), .clip (List.map G.api_Take.av ([(G.api_Take.mk 1 (-1))] : List G.api_Take))]) (xs := [.sl (List.map G.api_Take.av x24), .sl (List.map G.api_Take.av ([(G.api_Take.mk 1 (-1))] : List G.api_Take))]) rfl (Weak.e (fr' := argsFr 0 [.sl (List.map G.api_Take.av x24), .sl (List.map G.api_Take.av ([(G.api_Take.mk 1 (-1))] : List G.api_Take))]) (H' := .empty) ⟨⟨.sl (List.map G.api_Take.av x24), rfl, .sm⟩, ⟨.clip (List.map G.api_Take.av ([(G.api_Take.mk 1 (-1))] : List G.api_Take)), rfl, .wide _ (by simp)⟩, trivial⟩) rfl (by simp) (inquestref20_Takes_ok hT hr26)) <| AR.op rfl (aop_pick rfl rfl rfl) <| AR.op rfl (aop_move (.inr rfl) rfl) <| AR.nil <| hK7 _ (AWP.weak (Weak.kt [0] rfl) ?_)
    refine awp_ret ?_
    obtain rfl := Option.some.inj h
    refine ⟨.inr rfl, bl r26, rfl, ?_⟩
    exact Weak.e ⟨.k, trivial⟩
   ·rw [hb23]
    replace h := Sh.if_f h hb23
    refine AR.skip rfl <| AR.skip rfl <| AR.keep [25, 27] rfl <| AR.skip rfl <| AR.skip rfl <| AR.skip rfl <| AR.keep [25, 28, 30] rfl <| AR.skip rfl ?_
    refine AR.op rfl (aop_pick rfl rfl rfl) <| AR.op rfl (aop_move (.inr rfl) rfl) <| AR.nil <| hK7 _ (AWP.weak (Weak.kt [0] rfl) ?_)
    refine awp_ret ?_
    obtain rfl := Option.some.inj h
    refine ⟨.inr rfl, bl false, rfl, ?_⟩
    exact Weak.e ⟨.k, trivial⟩
  ·rw [hb21]
   replace h := Sh.if_f h hb21
   refine AR.skip rfl <| AR.skip rfl <| AR.keep [2, 19, 20, 21] rfl <| AR.skip rfl <| AR.skip rfl <| AR.op rfl (aop_pick rfl rfl rfl) <| AR.keep [2, 24] rfl <| AR.op rfl (aop_move (.inl rfl) rfl) ?_
   refine AR.skip rfl <| AR.skip rfl <| AR.keep [25, 27] rfl <| AR.skip rfl <| AR.skip rfl <| AR.skip rfl <| AR.keep [25, 28, 30] rfl <| AR.skip rfl ?_
   refine AR.op rfl (aop_pick rfl rfl rfl) <| AR.op rfl (aop_move (.inr rfl) rfl) <| AR.nil <| hK7 _ (AWP.weak (Weak.kt [0] rfl) ?_)
   refine awp_ret ?_
   obtain rfl := Option.some.inj h
   refine ⟨.inr rfl, bl false, rfl, ?_⟩
   exact Weak.e ⟨.k, trivial⟩
theorem inquestlaw20_awake_ok {W0 : World} (hT : Tab W0) {r : Bool} (h : G.inquestlaw20_awake = some r) : Fun1 Tryd.prog W0 14 [] (bl r) := Fun1.two (inquestlaw20_awake_ok0 hT h) (by simp)

end Wk
