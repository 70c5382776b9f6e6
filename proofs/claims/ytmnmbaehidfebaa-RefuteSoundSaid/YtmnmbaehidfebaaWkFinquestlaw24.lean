/- That the functions of a package do what their plain functions say. -/
import Derived.Test.YtmnmbaehidfebaaSh
import Derived.Test.YtmnmbaehidfebaaWkFFacts
import Derived.Test.YtmnmbaehidfebaaWkFinquestref08
import Derived.Test.YtmnmbaehidfebaaWkFinquestref18
import Derived.Test.YtmnmbaehidfebaaWkFinquestref21
import Derived.Test.YtmnmbaehidfebaaWkFinquestref22
import Derived.Test.YtmnmbaehidfebaaWkFinquestref24
import Derived.Test.YtmnmbaehidfebaaWkFrefute
open Go Go.Av Go.Proofs
set_option linter.unusedVariables false
set_option maxHeartbeats 8000000
set_option maxRecDepth 20000
namespace Wk
theorem inquestlaw24_awake_ok0 {W0 : World} (hT : Tab W0) {r : Bool} (h : G.inquestlaw24_awake = some r) : Fun2 Try.prog W0 11 [] (bl r) .empty := by
 refine fun2_of_awp Try.func11 rfl (by kernel_rfl) Try.ntmps11 (by simp) ?_
 unfold G.inquestlaw24_awake at h
 show AWP _ _ _ _ ⟨[], .empty⟩ _
 refine awp_seqK fun K1 hK1 => awp_reg rfl <| AR.op rfl (aop_move (.inr rfl) rfl) <| AR.nil <| hK1 _ (AWP.weak (Weak.kt [] rfl) ?_)
 refine awp_seqK fun K2 hK2 => awp_reg rfl <| AR.op (r := .clip (List.map i64 [0])) rfl (aop_buildSlice rfl (xo := [.const (.int .i64 0)]) rfl rfl rfl (by simp [AV.solid]) (by simp [AV.flat]) el44 ze44 (by decide)) <| AR.op (r := .agg [i64 0, i64 (-1)]) rfl (aop_build rfl bd70 rfl rfl rfl) <| AR.op (r := .clip (List.map G.api_Take.av ([(G.api_Take.mk 0 (-1))] : List G.api_Take))) rfl (aop_buildSlice rfl (xo := [.tmp 10]) rfl rfl rfl (by simp) (by simp) el71 ze71 (by decide)) <| AR.keep [9, 11] rfl <| AR.op (r := .agg [i64 0, .clip (List.map i64 [0]), .clip (List.map G.api_Take.av ([(G.api_Take.mk 0 (-1))] : List G.api_Take))]) rfl (aop_build rfl bd73 rfl rfl rfl) <| AR.op (r := .clip (List.map i64 [0])) rfl (aop_buildSlice rfl (xo := [.const (.int .i64 0)]) rfl rfl rfl (by simp [AV.solid]) (by simp [AV.flat]) el44 ze44 (by decide)) ?_
 refine AR.op (r := .agg [i64 0, i64 (-1)]) rfl (aop_build rfl bd70 rfl rfl rfl) <| AR.keep [12, 13, 14] rfl <| AR.op (r := .clip (List.map G.api_Take.av ([(G.api_Take.mk 0 (-1))] : List G.api_Take))) rfl (aop_buildSlice rfl (xo := [.tmp 14]) rfl rfl rfl (by simp) (by simp) el71 ze71 (by decide)) <| AR.op (r := .agg [i64 1, .clip (List.map i64 [0]), .clip (List.map G.api_Take.av ([(G.api_Take.mk 0 (-1))] : List G.api_Take))]) rfl (aop_build rfl bd73 rfl rfl rfl) <| AR.op (r := .clip (List.map G.api_Txn.av ([(G.api_Txn.mk 0 [0] ([(G.api_Take.mk 0 (-1))] : List G.api_Take)), (G.api_Txn.mk 1 [0] ([(G.api_Take.mk 0 (-1))] : List G.api_Take))] : List G.api_Txn))) rfl ((aop_buildSlice (xs := [.agg [i64 0, .clip (List.map i64 [0]), .clip (List.map G.api_Take.av ([(G.api_Take.mk 0 (-1))] : List G.api_Take))], .agg [i64 1, .clip (List.map i64 [0]), .clip (List.map G.api_Take.av ([(G.api_Take.mk 0 (-1))] : List G.api_Take))]]) rfl (xo := [.tmp 12, .tmp 16]) rfl rfl rfl (by simp [AV.solid]) (by simp [AV.flat]) el22 ze22 (by decide)).clipw ⟨⟨.same _, .clip _, .clip _, trivial⟩, ⟨.same _, .clip _, .clip _, trivial⟩, trivial⟩) <| AR.keep [17] rfl <| AR.op (r := .agg [.clip (List.map G.api_Txn.av ([(G.api_Txn.mk 0 [0] ([(G.api_Take.mk 0 (-1))] : List G.api_Take)), (G.api_Txn.mk 1 [0] ([(G.api_Take.mk 0 (-1))] : List G.api_Take))] : List G.api_Txn))]) rfl (aop_build rfl bd24 rfl rfl rfl) <| AR.op (r := .ref 0 0 0) rfl (aop_alloc 1 [.agg [nilS]] rfl zr24 (by kernel_rfl) (.inl ⟨rfl, rfl⟩)) ?_
 refine AR.op rfl (aop_store (e' := .agg [.clip (List.map G.api_Txn.av ([(G.api_Txn.mk 0 [0] ([(G.api_Take.mk 0 (-1))] : List G.api_Take)), (G.api_Txn.mk 1 [0] ([(G.api_Take.mk 0 (-1))] : List G.api_Take))] : List G.api_Txn))]) rfl rfl rfl rfl rfl rfl sz24 rfl dt rfl) <| AR.nil <| hK2 _ (AWP.weak (Weak.e (fr' := [(1, .pp [.clip (List.map G.api_Txn.av ([(G.api_Txn.mk 0 [0] ([(G.api_Take.mk 0 (-1))] : List G.api_Take)), (G.api_Txn.mk 1 [0] ([(G.api_Take.mk 0 (-1))] : List G.api_Take))] : List G.api_Txn))] 0)]) (H' := .empty) ⟨⟨_, rfl, .frzA rfl rfl rfl rfl (by simp)⟩, trivial⟩) ?_)
 refine awp_seqK fun K3 hK3 => awp_reg rfl <| AR.op (r := .agg [i64 0, i64 0, i64 1]) rfl (aop_build rfl bd42 rfl rfl rfl) <| AR.op (r := .agg [i64 0, i64 0, i64 1, nilS]) rfl (aop_build rfl bd46 rfl rfl rfl) <| AR.op (r := .clip (List.map i64 [0, 1])) rfl (aop_buildSlice rfl (xo := [.const (.int .i64 0), .const (.int .i64 1)]) rfl rfl rfl (by simp [AV.solid]) (by simp [AV.flat]) el44 ze44 (by decide)) <| AR.keep [1, 20, 21] rfl <| AR.op (r := .agg [i64 0, i64 0, i64 0, .clip (List.map i64 [0, 1])]) rfl (aop_build rfl bd46 rfl rfl rfl) <| AR.op (r := .clip (List.map i64 [0, 1])) rfl (aop_buildSlice rfl (xo := [.const (.int .i64 0), .const (.int .i64 1)]) rfl rfl rfl (by simp [AV.solid]) (by simp [AV.flat]) el44 ze44 (by decide)) ?_
 refine AR.op (r := .agg [i64 0, i64 0, i64 0, .clip (List.map i64 [0, 1])]) rfl (aop_build rfl bd46 rfl rfl rfl) <| AR.keep [1, 20, 22, 24] rfl <| AR.op (r := .clip (List.map G.refute_Node.av ([(G.refute_Node.mk (G.api_Choice.mk 0 0 1) []), (G.refute_Node.mk (G.api_Choice.mk 0 0 0) [0, 1]), (G.refute_Node.mk (G.api_Choice.mk 0 0 0) [0, 1])] : List G.refute_Node))) rfl ((aop_buildSlice (xs := [.agg [i64 0, i64 0, i64 1, nilS], .agg [i64 0, i64 0, i64 0, .clip (List.map i64 [0, 1])], .agg [i64 0, i64 0, i64 0, .clip (List.map i64 [0, 1])]]) rfl (xo := [.tmp 20, .tmp 22, .tmp 24]) rfl rfl rfl (by simp [AV.solid]) (by simp [AV.flat]) el26 ze26 (by decide)).clipw ⟨⟨.same _, .same _, .same _, .nil, trivial⟩, ⟨.same _, .same _, .same _, .clip _, trivial⟩, ⟨.same _, .same _, .same _, .clip _, trivial⟩, trivial⟩) <| AR.op rfl (aop_move (.inr rfl) rfl) <| AR.nil <| hK3 _ (AWP.weak (Weak.kt [1, 2] rfl) ?_)
 refine awp_seqK fun K4 hK4 => awp_reg rfl <| AR.op rfl (aop_move (.inl rfl) rfl) ?_
 obtain ⟨r15, hr15, h⟩ := Sh.bind_some' h
 refine AR.op (r := .tuple [i64 r15.1, i64 r15.2.1, bl r15.2.2]) rfl (aop_callN rfl (ys := [.clip (List.map G.refute_Node.av ([(G.refute_Node.mk (G.api_Choice.mk 0 0 1) []), (G.refute_Node.mk (G.api_Choice.mk 0 0 0) [0, 1]), (G.refute_Node.mk (G.api_Choice.mk 0 0 0) [0, 1])] : List G.refute_Node))]) (xs := [.sl (List.map G.refute_Node.av ([(G.refute_Node.mk (G.api_Choice.mk 0 0 1) []), (G.refute_Node.mk (G.api_Choice.mk 0 0 0) [0, 1]), (G.refute_Node.mk (G.api_Choice.mk 0 0 0) [0, 1])] : List G.refute_Node))]) rfl (Weak.e (fr' := argsFr 0 [.sl (List.map G.refute_Node.av ([(G.refute_Node.mk (G.api_Choice.mk 0 0 1) []), (G.refute_Node.mk (G.api_Choice.mk 0 0 0) [0, 1]), (G.refute_Node.mk (G.api_Choice.mk 0 0 0) [0, 1])] : List G.refute_Node))]) (H' := .empty) ⟨⟨.clip (List.map G.refute_Node.av ([(G.refute_Node.mk (G.api_Choice.mk 0 0 1) []), (G.refute_Node.mk (G.api_Choice.mk 0 0 0) [0, 1]), (G.refute_Node.mk (G.api_Choice.mk 0 0 0) [0, 1])] : List G.refute_Node)), rfl, .wide _ (by simp)⟩, trivial⟩) rfl (by simp) (refute_Shape_ok hT hr15)) <| AR.op rfl (aop_move (.inl rfl) rfl) <| AR.keep [1, 2, 26] rfl <| AR.op (r := i64 r15.1) rfl (aop_extract rfl rfl rfl) <| AR.op (r := i64 r15.2.1) rfl (aop_extract rfl rfl rfl) <| AR.op (r := bl r15.2.2) rfl (aop_extract rfl rfl rfl) <| AR.keep [1, 2, 29, 30, 31] rfl <| AR.op rfl (aop_move (.inr rfl) rfl) ?_
 refine AR.op rfl (aop_move (.inr rfl) rfl) <| AR.op rfl (aop_move (.inr rfl) rfl) <| AR.nil <| hK4 _ (AWP.weak (Weak.kt [1, 2, 3, 4, 5] rfl) ?_)
 refine awp_seqK fun K5 hK5 => awp_reg rfl <| AR.op rfl (aop_move (.inl rfl) rfl) ?_
 obtain ⟨part18, hpart18, h⟩ := Sh.bind_some' h
 refine AR.op (r := .sl (List.map G.refute_Node.av part18)) rfl (t_sub G.refute_Node.av ([(G.refute_Node.mk (G.api_Choice.mk 0 0 1) []), (G.refute_Node.mk (G.api_Choice.mk 0 0 0) [0, 1]), (G.refute_Node.mk (G.api_Choice.mk 0 0 0) [0, 1])] : List G.refute_Node) part18 hpart18 (fun _ => rfl) rfl rfl (.inr rfl) (.inl ⟨rfl, rfl⟩) (.inr ⟨_, _, rfl, rfl⟩) el26) ?_
 obtain ⟨r19, hr19, h⟩ := Sh.bind_some' h
 refine AR.op (r := .tuple [i64 r19.1, i64 r19.2.1, bl r19.2.2]) rfl (aop_call1 rfl rfl (by simp) (refute_Shape_ok hT hr19)) <| AR.keep [1, 2, 3, 4, 5, 35] rfl <| AR.op rfl (aop_move (.inl rfl) rfl) <| AR.op (r := i64 r19.1) rfl (aop_extract rfl rfl rfl) <| AR.op (r := i64 r19.2.1) rfl (aop_extract rfl rfl rfl) <| AR.keep [1, 2, 3, 4, 5, 32, 36, 37] rfl <| AR.op (r := bl r19.2.2) rfl (aop_extract rfl rfl rfl) <| AR.op rfl (aop_move (.inr rfl) rfl) ?_
 refine AR.op rfl (aop_move (.inr rfl) rfl) <| AR.keep [1, 2, 3, 4, 5, 38] rfl <| AR.op rfl (aop_move (.inr rfl) rfl) <| AR.nil <| hK5 _ (AWP.weak (Weak.kt [1, 2, 3, 4, 5, 8] rfl) ?_)
 refine awp_seqK fun K6 hK6 => awp_reg rfl <| AR.op rfl (aop_move (.inl rfl) rfl) <| AR.op (r := bl (decide (r15.1 = 2))) rfl (aop_eql rfl rfl rfl) <| AR.op rfl (aop_move (.inl rfl) rfl) <| AR.keep [1, 2, 4, 5, 8, 41] rfl ?_
 rcases Bool.eq_false_or_eq_true (decide (r15.1 = 2)) with hb29 | hb29
 ·rw [hb29]
  replace h := Sh.if_t h hb29
  refine AR.op rfl (aop_move (.inl rfl) rfl) <| AR.op (r := bl (decide (r15.2.1 = 1))) rfl (aop_eql rfl rfl rfl) <| AR.op rfl (aop_pick rfl rfl rfl) <| AR.keep [1, 2, 5, 8, 44] rfl <| AR.op rfl (aop_move (.inl rfl) rfl) ?_
  rcases Bool.eq_false_or_eq_true (decide (r15.2.1 = 1)) with hb30 | hb30
  ·rw [hb30]
   replace h := Sh.if_t h hb30
   refine AR.op rfl (aop_move (.inl rfl) rfl) <| AR.op rfl (aop_pick rfl rfl rfl) <| AR.keep [1, 2, 8, 47] rfl <| AR.op rfl (aop_move (.inl rfl) rfl) ?_
   rcases Bool.eq_false_or_eq_true (r15.2.2) with hb31 | hb31
   ·rw [hb31]
    replace h := Sh.if_t h hb31
    refine AR.op rfl (aop_move (.inl rfl) rfl) <| AR.op (r := bl (!r19.2.2)) rfl (aop_not rfl rfl) <| AR.keep [1, 2, 48, 50] rfl <| AR.op rfl (aop_pick rfl rfl rfl) <| AR.op rfl (aop_move (.inl rfl) rfl) ?_
    rcases Bool.eq_false_or_eq_true (!r19.2.2) with hb32 | hb32
    ·rw [hb32]
     replace h := Sh.if_t h hb32
     refine AR.op (r := .agg [.clip (List.map G.api_Txn.av ([(G.api_Txn.mk 0 [0] ([(G.api_Take.mk 0 (-1))] : List G.api_Take)), (G.api_Txn.mk 1 [0] ([(G.api_Take.mk 0 (-1))] : List G.api_Take))] : List G.api_Txn))]) rfl (aop_load_pp rfl rfl sz24 rfl) <| AR.keep [1, 2, 52, 53] rfl <| AR.op rfl (aop_move (.inl rfl) rfl) ?_
     obtain ⟨r33, hr33, h⟩ := Sh.bind_some' h
     refine AR.op (r := bl r33) rfl (aop_callN rfl (ys := [.agg [.clip (List.map G.api_Txn.av ([(G.api_Txn.mk 0 [0] ([(G.api_Take.mk 0 (-1))] : List G.api_Take)), (G.api_Txn.mk 1 [0] ([(G.api_Take.mk 0 (-1))] : List G.api_Take))] : List G.api_Txn))], i64 0, nilS, .clip (List.map G.refute_Node.av ([(G.refute_Node.mk (G.api_Choice.mk 0 0 1) []), (G.refute_Node.mk (G.api_Choice.mk 0 0 0) [0, 1]), (G.refute_Node.mk (G.api_Choice.mk 0 0 0) [0, 1])] : List G.refute_Node))]) (xs := [G.api_Hist.av (G.api_Hist.mk ([(G.api_Txn.mk 0 [0] ([(G.api_Take.mk 0 (-1))] : List G.api_Take)), (G.api_Txn.mk 1 [0] ([(G.api_Take.mk 0 (-1))] : List G.api_Take))] : List G.api_Txn)), i64 0, .sl (List.map G.api_Choice.av []), .sl (List.map G.refute_Node.av ([(G.refute_Node.mk (G.api_Choice.mk 0 0 1) []), (G.refute_Node.mk (G.api_Choice.mk 0 0 0) [0, 1]), (G.refute_Node.mk (G.api_Choice.mk 0 0 0) [0, 1])] : List G.refute_Node))]) rfl (Weak.e (fr' := argsFr 0 [G.api_Hist.av (G.api_Hist.mk ([(G.api_Txn.mk 0 [0] ([(G.api_Take.mk 0 (-1))] : List G.api_Take)), (G.api_Txn.mk 1 [0] ([(G.api_Take.mk 0 (-1))] : List G.api_Take))] : List G.api_Txn)), i64 0, .sl (List.map G.api_Choice.av []), .sl (List.map G.refute_Node.av ([(G.refute_Node.mk (G.api_Choice.mk 0 0 1) []), (G.refute_Node.mk (G.api_Choice.mk 0 0 0) [0, 1]), (G.refute_Node.mk (G.api_Choice.mk 0 0 0) [0, 1])] : List G.refute_Node))]) (H' := .empty) ⟨⟨.agg [.clip (List.map G.api_Txn.av ([(G.api_Txn.mk 0 [0] ([(G.api_Take.mk 0 (-1))] : List G.api_Take)), (G.api_Txn.mk 1 [0] ([(G.api_Take.mk 0 (-1))] : List G.api_Take))] : List G.api_Txn))], rfl, .ag ⟨.wide _ (by simp), trivial⟩⟩, .k, ⟨_, rfl, .nilsl⟩, ⟨.clip (List.map G.refute_Node.av ([(G.refute_Node.mk (G.api_Choice.mk 0 0 1) []), (G.refute_Node.mk (G.api_Choice.mk 0 0 0) [0, 1]), (G.refute_Node.mk (G.api_Choice.mk 0 0 0) [0, 1])] : List G.refute_Node)), rfl, .wide _ (by simp)⟩, trivial⟩) rfl (by simp) (refute_Check_ok hT hr33)) <| AR.op rfl (aop_pick rfl rfl rfl) <| AR.keep [1, 2, 56] rfl <| AR.op rfl (aop_move (.inl rfl) rfl) ?_
     rcases Bool.eq_false_or_eq_true (r33) with hb34 | hb34
     ·rw [hb34]
      replace h := Sh.if_t h hb34
      refine AR.op (r := .agg [.clip (List.map G.api_Txn.av ([(G.api_Txn.mk 0 [0] ([(G.api_Take.mk 0 (-1))] : List G.api_Take)), (G.api_Txn.mk 1 [0] ([(G.api_Take.mk 0 (-1))] : List G.api_Take))] : List G.api_Txn))]) rfl (aop_load_pp rfl rfl sz24 rfl) <| AR.op (r := .clip (List.map i64 [0])) rfl (aop_buildSlice rfl (xo := [.const (.int .i64 0)]) rfl rfl rfl (by simp [AV.solid]) (by simp [AV.flat]) el44 ze44 (by decide)) <| AR.keep [1, 2, 57, 58, 59] rfl <| AR.op (r := .agg [i64 0, i64 0, i64 0, .clip (List.map i64 [0])]) rfl (aop_build rfl bd46 rfl rfl rfl) <| AR.op (r := .clip (List.map G.refute_Node.av ([(G.refute_Node.mk (G.api_Choice.mk 0 0 0) [0])] : List G.refute_Node))) rfl ((aop_buildSlice (xs := [.agg [i64 0, i64 0, i64 0, .clip (List.map i64 [0])]]) rfl (xo := [.tmp 60]) rfl rfl rfl (by simp [AV.solid]) (by simp [AV.flat]) el26 ze26 (by decide)).clipw ⟨⟨.same _, .same _, .same _, .clip _, trivial⟩, trivial⟩) ?_
      obtain ⟨r35, hr35, h⟩ := Sh.bind_some' h
      refine AR.op (r := bl r35) rfl (aop_callN rfl (ys := [.agg [.clip (List.map G.api_Txn.av ([(G.api_Txn.mk 0 [0] ([(G.api_Take.mk 0 (-1))] : List G.api_Take)), (G.api_Txn.mk 1 [0] ([(G.api_Take.mk 0 (-1))] : List G.api_Take))] : List G.api_Txn))], i64 0, nilS, .clip (List.map G.refute_Node.av ([(G.refute_Node.mk (G.api_Choice.mk 0 0 0) [0])] : List G.refute_Node))]) (xs := [G.api_Hist.av (G.api_Hist.mk ([(G.api_Txn.mk 0 [0] ([(G.api_Take.mk 0 (-1))] : List G.api_Take)), (G.api_Txn.mk 1 [0] ([(G.api_Take.mk 0 (-1))] : List G.api_Take))] : List G.api_Txn)), i64 0, .sl (List.map G.api_Choice.av []), .sl (List.map G.refute_Node.av ([(G.refute_Node.mk (G.api_Choice.mk 0 0 0) [0])] : List G.refute_Node))]) rfl (Weak.e (fr' := argsFr 0 [G.api_Hist.av (G.api_Hist.mk ([(G.api_Txn.mk 0 [0] ([(G.api_Take.mk 0 (-1))] : List G.api_Take)), (G.api_Txn.mk 1 [0] ([(G.api_Take.mk 0 (-1))] : List G.api_Take))] : List G.api_Txn)), i64 0, .sl (List.map G.api_Choice.av []), .sl (List.map G.refute_Node.av ([(G.refute_Node.mk (G.api_Choice.mk 0 0 0) [0])] : List G.refute_Node))]) (H' := .empty) ⟨⟨.agg [.clip (List.map G.api_Txn.av ([(G.api_Txn.mk 0 [0] ([(G.api_Take.mk 0 (-1))] : List G.api_Take)), (G.api_Txn.mk 1 [0] ([(G.api_Take.mk 0 (-1))] : List G.api_Take))] : List G.api_Txn))], rfl, .ag ⟨.wide _ (by simp), trivial⟩⟩, .k, ⟨_, rfl, .nilsl⟩, ⟨.clip (List.map G.refute_Node.av ([(G.refute_Node.mk (G.api_Choice.mk 0 0 0) [0])] : List G.refute_Node)), rfl, .wide _ (by simp)⟩, trivial⟩) rfl (by simp) (refute_Check_ok hT hr35)) <| AR.keep [1, 2, 57, 62] rfl <| AR.op (r := bl (!r35)) rfl (aop_not rfl rfl) <| AR.op rfl (aop_pick rfl rfl rfl) <| AR.op rfl (aop_move (.inl rfl) rfl) <| AR.keep [1, 2, 65] rfl ?_
      rcases Bool.eq_false_or_eq_true (!r35) with hb36 | hb36
      ·rw [hb36]
       replace h := Sh.if_t h hb36
       refine AR.op (r := .agg [.clip (List.map G.api_Txn.av ([(G.api_Txn.mk 0 [0] ([(G.api_Take.mk 0 (-1))] : List G.api_Take)), (G.api_Txn.mk 1 [0] ([(G.api_Take.mk 0 (-1))] : List G.api_Take))] : List G.api_Txn))]) rfl (aop_load_pp rfl rfl sz24 rfl) <| AR.op rfl (aop_move (.inl rfl) rfl) ?_
       obtain ⟨r37, hr37, h⟩ := Sh.bind_some' h
       refine AR.op (r := bl r37) rfl (aop_callN rfl (ys := [.agg [.clip (List.map G.api_Txn.av ([(G.api_Txn.mk 0 [0] ([(G.api_Take.mk 0 (-1))] : List G.api_Take)), (G.api_Txn.mk 1 [0] ([(G.api_Take.mk 0 (-1))] : List G.api_Take))] : List G.api_Txn))], i64 2, nilS, .clip (List.map G.refute_Node.av ([(G.refute_Node.mk (G.api_Choice.mk 0 0 1) []), (G.refute_Node.mk (G.api_Choice.mk 0 0 0) [0, 1]), (G.refute_Node.mk (G.api_Choice.mk 0 0 0) [0, 1])] : List G.refute_Node))]) (xs := [G.api_Hist.av (G.api_Hist.mk ([(G.api_Txn.mk 0 [0] ([(G.api_Take.mk 0 (-1))] : List G.api_Take)), (G.api_Txn.mk 1 [0] ([(G.api_Take.mk 0 (-1))] : List G.api_Take))] : List G.api_Txn)), i64 2, .sl (List.map G.api_Choice.av []), .sl (List.map G.refute_Node.av ([(G.refute_Node.mk (G.api_Choice.mk 0 0 1) []), (G.refute_Node.mk (G.api_Choice.mk 0 0 0) [0, 1]), (G.refute_Node.mk (G.api_Choice.mk 0 0 0) [0, 1])] : List G.refute_Node))]) rfl (Weak.e (fr' := argsFr 0 [G.api_Hist.av (G.api_Hist.mk ([(G.api_Txn.mk 0 [0] ([(G.api_Take.mk 0 (-1))] : List G.api_Take)), (G.api_Txn.mk 1 [0] ([(G.api_Take.mk 0 (-1))] : List G.api_Take))] : List G.api_Txn)), i64 2, .sl (List.map G.api_Choice.av []), .sl (List.map G.refute_Node.av ([(G.refute_Node.mk (G.api_Choice.mk 0 0 1) []), (G.refute_Node.mk (G.api_Choice.mk 0 0 0) [0, 1]), (G.refute_Node.mk (G.api_Choice.mk 0 0 0) [0, 1])] : List G.refute_Node))]) (H' := .empty) ⟨⟨.agg [.clip (List.map G.api_Txn.av ([(G.api_Txn.mk 0 [0] ([(G.api_Take.mk 0 (-1))] : List G.api_Take)), (G.api_Txn.mk 1 [0] ([(G.api_Take.mk 0 (-1))] : List G.api_Take))] : List G.api_Txn))], rfl, .ag ⟨.wide _ (by simp), trivial⟩⟩, .k, ⟨_, rfl, .nilsl⟩, ⟨.clip (List.map G.refute_Node.av ([(G.refute_Node.mk (G.api_Choice.mk 0 0 1) []), (G.refute_Node.mk (G.api_Choice.mk 0 0 0) [0, 1]), (G.refute_Node.mk (G.api_Choice.mk 0 0 0) [0, 1])] : List G.refute_Node)), rfl, .wide _ (by simp)⟩, trivial⟩) rfl (by simp) (refute_Check_ok hT hr37)) <| AR.keep [65, 68] rfl <| AR.op (r := bl (!r37)) rfl (aop_not rfl rfl) <| AR.op rfl (aop_pick rfl rfl rfl) <| AR.op rfl (aop_move (.inr rfl) rfl) <| AR.nil <| hK6 _ (AWP.weak (Weak.kt [0] rfl) ?_)
       refine awp_ret ?_
       obtain rfl := Option.some.inj h
       refine ⟨.inr rfl, bl (!r37), rfl, ?_⟩
       exact Weak.e ⟨.k, trivial⟩
      ·rw [hb36]
       replace h := Sh.if_f h hb36
       refine AR.skip rfl <| AR.skip rfl <| AR.skip rfl <| AR.keep [65, 68] rfl <| AR.skip rfl <| AR.op rfl (aop_pick rfl rfl rfl) <| AR.op rfl (aop_move (.inr rfl) rfl) <| AR.nil ?_
       refine hK6 _ (AWP.weak (Weak.kt [0] rfl) ?_)
       refine awp_ret ?_
       obtain rfl := Option.some.inj h
       refine ⟨.inr rfl, bl false, rfl, ?_⟩
       exact Weak.e ⟨.k, trivial⟩
     ·rw [hb34]
      replace h := Sh.if_f h hb34
      refine AR.skip rfl <| AR.skip rfl <| AR.keep [1, 2, 57, 58, 59] rfl <| AR.skip rfl <| AR.skip rfl <| AR.skip rfl <| AR.keep [1, 2, 57, 62] rfl <| AR.skip rfl ?_
      refine AR.op rfl (aop_pick rfl rfl rfl) <| AR.op rfl (aop_move (.inl rfl) rfl) <| AR.keep [1, 2, 65] rfl <| AR.skip rfl <| AR.skip rfl <| AR.skip rfl <| AR.keep [65, 68] rfl <| AR.skip rfl ?_
      refine AR.op rfl (aop_pick rfl rfl rfl) <| AR.op rfl (aop_move (.inr rfl) rfl) <| AR.nil <| hK6 _ (AWP.weak (Weak.kt [0] rfl) ?_)
      refine awp_ret ?_
      obtain rfl := Option.some.inj h
      refine ⟨.inr rfl, bl false, rfl, ?_⟩
      exact Weak.e ⟨.k, trivial⟩
    ·rw [hb32]
     replace h := Sh.if_f h hb32
     refine AR.skip rfl <| AR.keep [1, 2, 52, 53] rfl <| AR.skip rfl <| AR.skip rfl <| AR.op rfl (aop_pick rfl rfl rfl) <| AR.keep [1, 2, 56] rfl <| AR.op rfl (aop_move (.inl rfl) rfl) <| AR.skip rfl ?_
     refine AR.skip rfl <| AR.keep [1, 2, 57, 58, 59] rfl <| AR.skip rfl <| AR.skip rfl <| AR.skip rfl <| AR.keep [1, 2, 57, 62] rfl <| AR.skip rfl <| AR.op rfl (aop_pick rfl rfl rfl) ?_
     refine AR.op rfl (aop_move (.inl rfl) rfl) <| AR.keep [1, 2, 65] rfl <| AR.skip rfl <| AR.skip rfl <| AR.skip rfl <| AR.keep [65, 68] rfl <| AR.skip rfl <| AR.op rfl (aop_pick rfl rfl rfl) ?_
     refine AR.op rfl (aop_move (.inr rfl) rfl) <| AR.nil <| hK6 _ (AWP.weak (Weak.kt [0] rfl) ?_)
     refine awp_ret ?_
     obtain rfl := Option.some.inj h
     refine ⟨.inr rfl, bl false, rfl, ?_⟩
     exact Weak.e ⟨.k, trivial⟩
   ·rw [hb31]
    replace h := Sh.if_f h hb31
    refine AR.skip rfl <| AR.skip rfl <| AR.keep [1, 2, 48, 50] rfl <| AR.op rfl (aop_pick rfl rfl rfl) <| AR.op rfl (aop_move (.inl rfl) rfl) <| AR.skip rfl <| AR.keep [1, 2, 52, 53] rfl <| AR.skip rfl ?_
    refine AR.skip rfl <| AR.op rfl (aop_pick rfl rfl rfl) <| AR.keep [1, 2, 56] rfl <| AR.op rfl (aop_move (.inl rfl) rfl) <| AR.skip rfl <| AR.skip rfl <| AR.keep [1, 2, 57, 58, 59] rfl <| AR.skip rfl ?_
    refine AR.skip rfl <| AR.skip rfl <| AR.keep [1, 2, 57, 62] rfl <| AR.skip rfl <| AR.op rfl (aop_pick rfl rfl rfl) <| AR.op rfl (aop_move (.inl rfl) rfl) <| AR.keep [1, 2, 65] rfl <| AR.skip rfl ?_
    refine AR.skip rfl <| AR.skip rfl <| AR.keep [65, 68] rfl <| AR.skip rfl <| AR.op rfl (aop_pick rfl rfl rfl) <| AR.op rfl (aop_move (.inr rfl) rfl) <| AR.nil <| hK6 _ (AWP.weak (Weak.kt [0] rfl) ?_)
    refine awp_ret ?_
    obtain rfl := Option.some.inj h
    refine ⟨.inr rfl, bl false, rfl, ?_⟩
    exact Weak.e ⟨.k, trivial⟩
  ·rw [hb30]
   replace h := Sh.if_f h hb30
   refine AR.skip rfl <| AR.op rfl (aop_pick rfl rfl rfl) <| AR.keep [1, 2, 8, 47] rfl <| AR.op rfl (aop_move (.inl rfl) rfl) <| AR.skip rfl <| AR.skip rfl <| AR.keep [1, 2, 48, 50] rfl <| AR.op rfl (aop_pick rfl rfl rfl) ?_
   refine AR.op rfl (aop_move (.inl rfl) rfl) <| AR.skip rfl <| AR.keep [1, 2, 52, 53] rfl <| AR.skip rfl <| AR.skip rfl <| AR.op rfl (aop_pick rfl rfl rfl) <| AR.keep [1, 2, 56] rfl <| AR.op rfl (aop_move (.inl rfl) rfl) ?_
   refine AR.skip rfl <| AR.skip rfl <| AR.keep [1, 2, 57, 58, 59] rfl <| AR.skip rfl <| AR.skip rfl <| AR.skip rfl <| AR.keep [1, 2, 57, 62] rfl <| AR.skip rfl ?_
   refine AR.op rfl (aop_pick rfl rfl rfl) <| AR.op rfl (aop_move (.inl rfl) rfl) <| AR.keep [1, 2, 65] rfl <| AR.skip rfl <| AR.skip rfl <| AR.skip rfl <| AR.keep [65, 68] rfl <| AR.skip rfl ?_
   refine AR.op rfl (aop_pick rfl rfl rfl) <| AR.op rfl (aop_move (.inr rfl) rfl) <| AR.nil <| hK6 _ (AWP.weak (Weak.kt [0] rfl) ?_)
   refine awp_ret ?_
   obtain rfl := Option.some.inj h
   refine ⟨.inr rfl, bl false, rfl, ?_⟩
   exact Weak.e ⟨.k, trivial⟩
 ·rw [hb29]
  replace h := Sh.if_f h hb29
  refine AR.skip rfl <| AR.skip rfl <| AR.op rfl (aop_pick rfl rfl rfl) <| AR.keep [1, 2, 5, 8, 44] rfl <| AR.op rfl (aop_move (.inl rfl) rfl) <| AR.skip rfl <| AR.op rfl (aop_pick rfl rfl rfl) <| AR.keep [1, 2, 8, 47] rfl ?_
  refine AR.op rfl (aop_move (.inl rfl) rfl) <| AR.skip rfl <| AR.skip rfl <| AR.keep [1, 2, 48, 50] rfl <| AR.op rfl (aop_pick rfl rfl rfl) <| AR.op rfl (aop_move (.inl rfl) rfl) <| AR.skip rfl <| AR.keep [1, 2, 52, 53] rfl ?_
  refine AR.skip rfl <| AR.skip rfl <| AR.op rfl (aop_pick rfl rfl rfl) <| AR.keep [1, 2, 56] rfl <| AR.op rfl (aop_move (.inl rfl) rfl) <| AR.skip rfl <| AR.skip rfl <| AR.keep [1, 2, 57, 58, 59] rfl ?_
  refine AR.skip rfl <| AR.skip rfl <| AR.skip rfl <| AR.keep [1, 2, 57, 62] rfl <| AR.skip rfl <| AR.op rfl (aop_pick rfl rfl rfl) <| AR.op rfl (aop_move (.inl rfl) rfl) <| AR.keep [1, 2, 65] rfl ?_
  refine AR.skip rfl <| AR.skip rfl <| AR.skip rfl <| AR.keep [65, 68] rfl <| AR.skip rfl <| AR.op rfl (aop_pick rfl rfl rfl) <| AR.op rfl (aop_move (.inr rfl) rfl) <| AR.nil ?_
  refine hK6 _ (AWP.weak (Weak.kt [0] rfl) ?_)
  refine awp_ret ?_
  obtain rfl := Option.some.inj h
  refine ⟨.inr rfl, bl false, rfl, ?_⟩
  exact Weak.e ⟨.k, trivial⟩
theorem inquestlaw24_awake_ok {W0 : World} (hT : Tab W0) {r : Bool} (h : G.inquestlaw24_awake = some r) : Fun1 Try.prog W0 11 [] (bl r) := Fun1.two (inquestlaw24_awake_ok0 hT h) (by simp)


theorem inquestlaw24_few_ok0 {W0 : World} (hT : Tab W0) {x_0 : G.inquestlaw24_Case} {txns_1 : Int} {nodes_2 : Int} {r : Bool} (h : G.inquestlaw24_few x_0 txns_1 nodes_2 = some r) : Fun2 Try.prog W0 12 [G.inquestlaw24_Case.av x_0, i64 txns_1, i64 nodes_2] (bl r) .empty := by
 refine fun2_of_awp Try.func12 rfl (by kernel_rfl) Try.ntmps12 (by simp) ?_
 unfold G.inquestlaw24_few at h
 show AWP _ _ _ _ ⟨[(0, G.inquestlaw24_Case.av x_0), (1, i64 txns_1), (2, i64 nodes_2)], .empty⟩ _
 refine awp_seqK fun K1 hK1 => awp_reg rfl <| AR.op (r := .ref 0 0 0) rfl (aop_box 4 [G.inquestlaw24_Case.av x_0] rfl rfl rfl (.inl ⟨rfl, rfl⟩)) <| AR.op rfl (aop_move (.inr rfl) rfl) <| AR.nil <| hK1 _ (AWP.weak (Weak.e (fr' := [(1, i64 txns_1), (2, i64 nodes_2), (3, .pp [.sl (List.map G.api_Txn.av x_0.H.Txns), i64 x_0.Level, .sl (List.map G.api_Choice.av x_0.L), .sl (List.map G.refute_Node.av x_0.Tree)] 0)]) (H' := .empty) ⟨.k, .k, ⟨_, rfl, .frzA rfl rfl rfl rfl (by simp)⟩, trivial⟩) ?_)
 refine awp_seqK fun K2 hK2 => awp_reg rfl <| AR.op rfl (aop_field_pp rfl rfl fd28_0 (by decide)) <| AR.op (r := G.api_Hist.av x_0.H) rfl (aop_load_pp rfl rfl sz24 rfl) <| AR.op rfl (aop_move (.inl rfl) rfl) <| AR.keep [2, 3, 10, 11] rfl ?_
 obtain ⟨r14, hr14, h⟩ := Sh.bind_some' h
 refine AR.op (r := bl r14) rfl (aop_call1 rfl rfl (by simp) (inquestref08_Few_ok hT hr14)) <| AR.op rfl (aop_move (.inr rfl) rfl) <| AR.nil <| hK2 _ (AWP.weak (Weak.kt [2, 3, 7] rfl) ?_)
 refine awp_seqK fun K3 hK3 => awp_seqJ (fun (p : Bool) => (⟨[(3, .pp [.sl (List.map G.api_Txn.av x_0.H.Txns), i64 x_0.Level, .sl (List.map G.api_Choice.av x_0.L), .sl (List.map G.refute_Node.av x_0.Tree)] 0), (27, bl p)], .empty⟩ : St)) (fun (p : Bool) => G.inquestlaw24_few_j1 x_0 p = some r) ?_ ?_
 ·rintro v20 h
  replace h : G.inquestlaw24_few_j1 x_0 v20 = some r := h
  unfold G.inquestlaw24_few_j1 at h
  refine awp_cond rfl (fun hb21 => ?_) (fun hb21 => ?_)
  ·replace h := Sh.if_t h hb21
   refine awp_seqK fun K4 hK4 => awp_reg rfl <| AR.op rfl (aop_move (.inr rfl) rfl) <| AR.nil <| hK4 _ (AWP.weak (Weak.kt [6] rfl) ?_)
   refine awp_ret ?_
   obtain rfl := Option.some.inj h
   refine ⟨.inr rfl, bl false, rfl, ?_⟩
   exact Weak.e ⟨.k, trivial⟩
  ·replace h := Sh.if_f h hb21
   refine awp_skip <| hK3 _ (AWP.weak (Weak.kt [3] rfl) ?_)
   refine awp_seqJ (fun (p : Unit) => (⟨[], .empty⟩ : St)) (fun (p : Unit) => G.inquestlaw24_few_j2 = some r) ?_ ?_
   ·rintro ⟨⟩ h
    replace h : G.inquestlaw24_few_j2 = some r := h
    unfold G.inquestlaw24_few_j2 at h
    refine awp_seqK fun K5 hK5 => awp_reg rfl <| AR.op rfl (aop_move (.inr rfl) rfl) <| AR.nil <| hK5 _ ?_
    refine awp_ret ?_
    obtain rfl := Option.some.inj h
    refine ⟨.inr rfl, bl true, rfl, ?_⟩
    exact Weak.e ⟨.k, trivial⟩
   ·intro K6 hK6
    refine awp_seqK fun K7 hK7 => awp_reg rfl <| AR.op rfl (aop_move (.inr rfl) rfl) <| AR.nil <| hK7 _ ?_
    refine awp_block <| awp_iter (fun (p : Int) => G.inquestlaw24_few_b1 x_0 p) (fun (p : Int) => (⟨[(3, .pp [.sl (List.map G.api_Txn.av x_0.H.Txns), i64 x_0.Level, .sl (List.map G.api_Choice.av x_0.L), .sl (List.map G.refute_Node.av x_0.Tree)] 0), (8, i64 p)], .empty⟩ : St)) h (Weak.kt [3, 8] rfl) ?_
    ·skip
     rintro i35 o1 h hx1
     replace h : G.inquestlaw24_few_b1 x_0 i35 = some o1 := h
     unfold G.inquestlaw24_few_b1 at h
     refine awp_seqK fun K8 hK8 => awp_seqK fun K9 hK9 => awp_reg rfl <| AR.op rfl (aop_move (.inl rfl) rfl) <| AR.op rfl (aop_field_pp rfl rfl fd28_3 (by decide)) <| AR.op (r := .sl (List.map G.refute_Node.av x_0.Tree)) rfl (aop_load_pp rfl rfl sz26 rfl) <| AR.keep [3, 8, 28, 30] rfl <| AR.op rfl (t_len_sl G.refute_Node.av x_0.Tree rfl rfl el26) ?_
     refine AR.op rfl (aop_lss rfl rfl rfl) <| AR.nil <| hK9 _ (AWP.weak (Weak.kt [3, 8, 32] rfl) ?_)
     refine awp_cond rfl (fun hb36 => ?_) (fun hb36 => ?_)
     ·replace h := Sh.if_t h hb36
      refine awp_skip <| hK8 _ (AWP.weak (Weak.kt [3, 8] rfl) ?_)
      refine awp_seqK fun K10 hK10 => awp_block <| awp_seqK fun K11 hK11 => awp_reg rfl <| AR.op rfl (aop_field_pp rfl rfl fd28_3 (by decide)) <| AR.op (r := .sl (List.map G.refute_Node.av x_0.Tree)) rfl (aop_load_pp rfl rfl sz26 rfl) <| AR.op rfl (aop_move (.inl rfl) rfl) <| AR.keep [3, 8, 36, 37] rfl ?_
      obtain ⟨x41, hx41, h⟩ := Sh.bind_some' h
      obtain ⟨k42, hi42, hl42⟩ := Sh.idx_some hx41
      refine AR.op rfl (t_index_sl G.refute_Node.av x_0.Tree hi42 hl42 rfl rfl rfl el26 rfl) <| AR.op rfl (aop_field_pp rfl rfl fd46_1 (by decide)) <| AR.op (r := .sl (List.map i64 x41.Cycle)) rfl (aop_load_pp rfl rfl sz44 rfl) <| AR.keep [3, 8, 40] rfl <| AR.op rfl (t_len_sl i64 x41.Cycle rfl rfl el44) <| AR.op rfl (aop_gtr rfl rfl rfl) <| AR.nil <| hK11 _ (AWP.weak (Weak.kt [3, 8, 42] rfl) ?_)
      refine awp_cond rfl (fun hb43 => ?_) (fun hb43 => ?_)
      ·replace h := Sh.if_t h hb43
       refine awp_seqK fun K12 hK12 => awp_reg rfl <| AR.op rfl (aop_move (.inr rfl) rfl) <| AR.nil <| hK12 _ (AWP.weak (Weak.kt [6] rfl) ?_)
       refine awp_ret ?_
       replace h := Sh.exit_eq h hx1
       obtain rfl := Option.some.inj h
       refine ⟨.inr rfl, bl false, rfl, ?_⟩
       exact Weak.e ⟨.k, trivial⟩
      ·replace h := Sh.if_f h hb43
       refine awp_skip <| hK10 _ (AWP.weak (Weak.kt [3, 8] rfl) ?_)
       refine awp_reg rfl <| AR.op rfl (aop_move (.inl rfl) rfl) <| AR.op rfl (aop_add rfl rfl rfl rfl) <| AR.op rfl (aop_move (.inr rfl) rfl) <| AR.nil ?_
       replace h := Sh.next_eq h
       exact ⟨_, h, Weak.kt [3, 8] rfl⟩
     ·replace h := Sh.if_f h hb36
      refine awp_exit ?_
      replace h := Sh.exit_eq h hx1
      exact hK6 () _ h (Weak.kt [] rfl)
 ·intro K13 hK13
  refine awp_reg rfl <| AR.op rfl (aop_move (.inl rfl) rfl) <| AR.op (r := bl (!r14)) rfl (aop_not rfl rfl) <| AR.op rfl (aop_move (.inl rfl) rfl) <| AR.keep [2, 3, 15] rfl ?_
  rcases Bool.eq_false_or_eq_true (!r14) with hb44 | hb44
  ·rw [hb44]
   replace h := Sh.if_t h hb44
   refine AR.skip rfl <| AR.skip rfl <| AR.skip rfl <| AR.keep [2, 3, 15, 18] rfl <| AR.skip rfl <| AR.op rfl (aop_pick rfl rfl rfl) <| AR.op rfl (aop_move (.inl rfl) rfl) <| AR.keep [2, 3, 21] rfl ?_
   refine AR.skip rfl <| AR.skip rfl <| AR.skip rfl <| AR.keep [2, 3, 21, 24] rfl <| AR.skip rfl <| AR.skip rfl <| AR.op rfl (aop_pick rfl rfl rfl) <| AR.nil ?_
   exact hK13 true _ h (Weak.kt [3, 27] rfl)
  ·rw [hb44]
   replace h := Sh.if_f h hb44
   refine AR.op rfl (aop_field_pp rfl rfl fd28_2 (by decide)) <| AR.op (r := .sl (List.map G.api_Choice.av x_0.L)) rfl (aop_load_pp rfl rfl sz25 rfl) <| AR.op rfl (t_len_sl G.api_Choice.av x_0.L rfl rfl el25) <| AR.keep [2, 3, 15, 18] rfl <| AR.op rfl (aop_gtr rfl rfl rfl) <| AR.op rfl (aop_pick rfl rfl rfl) <| AR.op rfl (aop_move (.inl rfl) rfl) <| AR.keep [2, 3, 21] rfl ?_
   rcases Bool.eq_false_or_eq_true (decide ((40 : Int) < (Sh.len x_0.L))) with hb45 | hb45
   ·rw [hb45]
    replace h := Sh.if_t h hb45
    refine AR.skip rfl <| AR.skip rfl <| AR.skip rfl <| AR.keep [2, 3, 21, 24] rfl <| AR.skip rfl <| AR.skip rfl <| AR.op rfl (aop_pick rfl rfl rfl) <| AR.nil ?_
    exact hK13 true _ h (Weak.kt [3, 27] rfl)
   ·rw [hb45]
    replace h := Sh.if_f h hb45
    refine AR.op rfl (aop_field_pp rfl rfl fd28_3 (by decide)) <| AR.op (r := .sl (List.map G.refute_Node.av x_0.Tree)) rfl (aop_load_pp rfl rfl sz26 rfl) <| AR.op rfl (t_len_sl G.refute_Node.av x_0.Tree rfl rfl el26) <| AR.keep [2, 3, 21, 24] rfl <| AR.op rfl (aop_move (.inl rfl) rfl) <| AR.op rfl (aop_gtr rfl rfl rfl) <| AR.op rfl (aop_pick rfl rfl rfl) <| AR.nil ?_
    exact hK13 (decide (nodes_2 < (Sh.len x_0.Tree))) _ h (Weak.kt [3, 27] rfl)
theorem inquestlaw24_few_ok {W0 : World} (hT : Tab W0) {x_0 : G.inquestlaw24_Case} {txns_1 : Int} {nodes_2 : Int} {r : Bool} (h : G.inquestlaw24_few x_0 txns_1 nodes_2 = some r) : Fun1 Try.prog W0 12 [G.inquestlaw24_Case.av x_0, i64 txns_1, i64 nodes_2] (bl r) := Fun1.two (inquestlaw24_few_ok0 hT h) (by simp)


end Wk
