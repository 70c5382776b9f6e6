/- That the functions of a package do what their plain functions say. -/
import Derived.Test.YtnbabpgakdefjaaSh
import Derived.Test.YtnbabpgakdefjaaWkFFacts
import Derived.Test.YtnbabpgakdefjaaWkFfact
import Derived.Test.YtnbabpgakdefjaaWkFinquestref08
import Derived.Test.YtnbabpgakdefjaaWkFinquestref09
import Derived.Test.YtnbabpgakdefjaaWkFinquestref22
open Go Go.Av Go.Proofs
set_option linter.unusedVariables false
set_option maxHeartbeats 8000000
set_option maxRecDepth 20000
namespace Wk
theorem inquestlaw22_awake_ok0 {W0 : World} (hT : Tab W0) {r : Bool} (h : G.inquestlaw22_awake = some r) : Fun2 Try.prog W0 11 [] (bl r) .empty := by
 refine fun2_of_awp Try.func11 rfl (by kernel_rfl) Try.ntmps11 (by simp) ?_
 unfold G.inquestlaw22_awake at h
 show AWP _ _ _ _ ⟨[], .empty⟩ _
 refine awp_seqK fun K1 hK1 => awp_reg rfl <| AR.op rfl (aop_move (.inr rfl) rfl) <| AR.nil <| hK1 _ (AWP.weak (Weak.kt [] rfl) ?_)
 refine awp_seqK fun K2 hK2 => awp_reg rfl <| AR.op (r := .clip (List.map i64 [2])) rfl (aop_buildSlice rfl (xo := [.const (.int .i64 2)]) rfl rfl rfl (by simp [AV.solid]) (by simp [AV.flat]) el28 ze28 (by decide)) <| AR.op (r := .agg [i64 0, .clip (List.map i64 [2]), nilS]) rfl (aop_build rfl bd71 rfl rfl rfl) <| AR.op (r := .clip (List.map i64 [2])) rfl (aop_buildSlice rfl (xo := [.const (.int .i64 2)]) rfl rfl rfl (by simp [AV.solid]) (by simp [AV.flat]) el28 ze28 (by decide)) <| AR.keep [5, 6] rfl <| AR.op (r := .agg [i64 0, .clip (List.map i64 [2]), nilS]) rfl (aop_build rfl bd71 rfl rfl rfl) <| AR.op (r := .clip (List.map i64 [2])) rfl (aop_buildSlice rfl (xo := [.const (.int .i64 2)]) rfl rfl rfl (by simp [AV.solid]) (by simp [AV.flat]) el28 ze28 (by decide)) ?_
 refine AR.op (r := .agg [i64 2, i64 1]) rfl (aop_build rfl bd73 rfl rfl rfl) <| AR.keep [5, 7, 8, 9] rfl <| AR.op (r := .clip (List.map G.api_Take.av ([(G.api_Take.mk 2 1)] : List G.api_Take))) rfl (aop_buildSlice rfl (xo := [.tmp 9]) rfl rfl rfl (by simp) (by simp) el69 ze69 (by decide)) <| AR.op (r := .agg [i64 1, .clip (List.map i64 [2]), .clip (List.map G.api_Take.av ([(G.api_Take.mk 2 1)] : List G.api_Take))]) rfl (aop_build rfl bd71 rfl rfl rfl) <| AR.op (r := .clip (List.map G.api_Txn.av ([(G.api_Txn.mk 0 [2] []), (G.api_Txn.mk 0 [2] []), (G.api_Txn.mk 1 [2] ([(G.api_Take.mk 2 1)] : List G.api_Take))] : List G.api_Txn))) rfl ((aop_buildSlice (xs := [.agg [i64 0, .clip (List.map i64 [2]), nilS], .agg [i64 0, .clip (List.map i64 [2]), nilS], .agg [i64 1, .clip (List.map i64 [2]), .clip (List.map G.api_Take.av ([(G.api_Take.mk 2 1)] : List G.api_Take))]]) rfl (xo := [.tmp 5, .tmp 7, .tmp 11]) rfl rfl rfl (by simp [AV.solid]) (by simp [AV.flat]) el22 ze22 (by decide)).clipw ⟨⟨.same _, .clip _, .nil, trivial⟩, ⟨.same _, .clip _, .nil, trivial⟩, ⟨.same _, .clip _, .clip _, trivial⟩, trivial⟩) <| AR.keep [12] rfl <| AR.op (r := .agg [.clip (List.map G.api_Txn.av ([(G.api_Txn.mk 0 [2] []), (G.api_Txn.mk 0 [2] []), (G.api_Txn.mk 1 [2] ([(G.api_Take.mk 2 1)] : List G.api_Take))] : List G.api_Txn))]) rfl (aop_build rfl bd24 rfl rfl rfl) <| AR.op (r := .ref 0 0 0) rfl (aop_alloc 1 [.agg [nilS]] rfl zr24 (by kernel_rfl) (.inl ⟨rfl, rfl⟩)) ?_
 refine AR.op rfl (aop_store (e' := .agg [.clip (List.map G.api_Txn.av ([(G.api_Txn.mk 0 [2] []), (G.api_Txn.mk 0 [2] []), (G.api_Txn.mk 1 [2] ([(G.api_Take.mk 2 1)] : List G.api_Take))] : List G.api_Txn))]) rfl rfl rfl rfl rfl rfl sz24 rfl dt rfl) <| AR.nil <| hK2 _ (AWP.weak (Weak.e (fr' := [(1, .pp [.clip (List.map G.api_Txn.av ([(G.api_Txn.mk 0 [2] []), (G.api_Txn.mk 0 [2] []), (G.api_Txn.mk 1 [2] ([(G.api_Take.mk 2 1)] : List G.api_Take))] : List G.api_Txn))] 0)]) (H' := .empty) ⟨⟨_, rfl, .frzA rfl rfl rfl rfl (by simp)⟩, trivial⟩) ?_)
 refine awp_seqK fun K3 hK3 => awp_reg rfl <| AR.op (r := .agg [i64 2, i64 0, i64 1]) rfl (aop_build rfl bd27 rfl rfl rfl) <| AR.op (r := .agg [i64 2, i64 0, i64 1, i64 1, i64 0, i64 0, nilS]) rfl (aop_build rfl bd30 rfl rfl rfl) <| AR.op (r := .agg [i64 2, i64 1, i64 2]) rfl (aop_build rfl bd27 rfl rfl rfl) <| AR.keep [1, 15, 16] rfl <| AR.op (r := .agg [i64 2, i64 1, i64 2, i64 1, i64 0, i64 0, nilS]) rfl (aop_build rfl bd30 rfl rfl rfl) <| AR.op (r := .agg [i64 2, i64 0, i64 2]) rfl (aop_build rfl bd27 rfl rfl rfl) ?_
 refine AR.op (r := .agg [i64 2, i64 0, i64 2, i64 2, i64 0, i64 1, nilS]) rfl (aop_build rfl bd30 rfl rfl rfl) <| AR.keep [1, 15, 17, 19] rfl <| AR.op (r := .clip (List.map G.fact_Fact.av ([(G.fact_Fact.mk (G.api_Choice.mk 2 0 1) 1 0 0 []), (G.fact_Fact.mk (G.api_Choice.mk 2 1 2) 1 0 0 []), (G.fact_Fact.mk (G.api_Choice.mk 2 0 2) 2 0 1 [])] : List G.fact_Fact))) rfl ((aop_buildSlice (xs := [.agg [i64 2, i64 0, i64 1, i64 1, i64 0, i64 0, nilS], .agg [i64 2, i64 1, i64 2, i64 1, i64 0, i64 0, nilS], .agg [i64 2, i64 0, i64 2, i64 2, i64 0, i64 1, nilS]]) rfl (xo := [.tmp 15, .tmp 17, .tmp 19]) rfl rfl rfl (by simp [AV.solid]) (by simp [AV.flat]) el25 ze25 (by decide)).clipw ⟨⟨.same _, .same _, .same _, .same _, .same _, .same _, .nil, trivial⟩, ⟨.same _, .same _, .same _, .same _, .same _, .same _, .nil, trivial⟩, ⟨.same _, .same _, .same _, .same _, .same _, .same _, .nil, trivial⟩, trivial⟩) <| AR.op rfl (aop_move (.inr rfl) rfl) <| AR.nil <| hK3 _ (AWP.weak (Weak.kt [1, 2] rfl) ?_)
 refine awp_seqK fun K4 hK4 => awp_reg rfl <| AR.op (r := .agg [i64 2, i64 0, i64 2]) rfl (aop_build rfl bd27 rfl rfl rfl) <| AR.op (r := .clip (List.map i64 [0, 1, 2])) rfl (aop_buildSlice rfl (xo := [.const (.int .i64 0), .const (.int .i64 1), .const (.int .i64 2)]) rfl rfl rfl (by simp [AV.solid]) (by simp [AV.flat]) el28 ze28 (by decide)) <| AR.op (r := .agg [i64 2, i64 0, i64 2, i64 4, i64 0, i64 0, .clip (List.map i64 [0, 1, 2])]) rfl (aop_build rfl bd30 rfl rfl rfl) <| AR.keep [1, 2, 23] rfl <| AR.op (r := .ref 0 0 0) rfl (aop_alloc 7 [.agg [i64 0, i64 0, i64 0, i64 0, i64 0, i64 0, nilS]] rfl zr30 (by kernel_rfl) (.inl ⟨rfl, rfl⟩)) <| AR.op rfl (aop_store (e' := .agg [i64 2, i64 0, i64 2, i64 4, i64 0, i64 0, .clip (List.map i64 [0, 1, 2])]) rfl rfl rfl rfl rfl rfl sz30 rfl dt rfl) ?_
 refine AR.nil <| hK4 _ (AWP.weak (Weak.e (fr' := [(1, .pp [.clip (List.map G.api_Txn.av ([(G.api_Txn.mk 0 [2] []), (G.api_Txn.mk 0 [2] []), (G.api_Txn.mk 1 [2] ([(G.api_Take.mk 2 1)] : List G.api_Take))] : List G.api_Txn))] 0), (2, .clip (List.map G.fact_Fact.av ([(G.fact_Fact.mk (G.api_Choice.mk 2 0 1) 1 0 0 []), (G.fact_Fact.mk (G.api_Choice.mk 2 1 2) 1 0 0 []), (G.fact_Fact.mk (G.api_Choice.mk 2 0 2) 2 0 1 [])] : List G.fact_Fact))), (3, .pp [i64 2, i64 0, i64 2, i64 4, i64 0, i64 0, .clip (List.map i64 [0, 1, 2])] 0)]) (H' := .empty) ⟨.k, ⟨.clip (List.map G.fact_Fact.av ([(G.fact_Fact.mk (G.api_Choice.mk 2 0 1) 1 0 0 []), (G.fact_Fact.mk (G.api_Choice.mk 2 1 2) 1 0 0 []), (G.fact_Fact.mk (G.api_Choice.mk 2 0 2) 2 0 1 [])] : List G.fact_Fact)), rfl, .sm⟩, ⟨_, rfl, .frzA rfl rfl rfl rfl (by simp)⟩, trivial⟩) ?_)
 refine awp_seqK fun K5 hK5 => awp_any [(true, false), (true, false), (true, false), (true, false), (true, false), (true, false), (true, false), (true, false), (true, false), (true, false), (true, false), (true, false), (true, false), (true, false), (true, false), (true, false), (true, false), (true, false), (true, false), (true, false), (true, false), (true, false), (true, false), (true, false)] (by kernel_rfl) (by kernel_rfl) rfl ?_
 refine ARH.dry (r := .agg [.clip (List.map G.api_Txn.av ([(G.api_Txn.mk 0 [2] []), (G.api_Txn.mk 0 [2] []), (G.api_Txn.mk 1 [2] ([(G.api_Take.mk 2 1)] : List G.api_Take))] : List G.api_Txn))]) rfl (fun _ => aop_load_pp rfl rfl sz24 rfl) <| ARH.dry rfl (fun _ => aop_move (.inl rfl) rfl) ?_
 obtain ⟨r18, hr18, h⟩ := Sh.bind_some' h
 refine ARH.dry (r := bl r18) rfl (fun _ => aop_callN rfl (ys := [.agg [.clip (List.map G.api_Txn.av ([(G.api_Txn.mk 0 [2] []), (G.api_Txn.mk 0 [2] []), (G.api_Txn.mk 1 [2] ([(G.api_Take.mk 2 1)] : List G.api_Take))] : List G.api_Txn))], i64 0, .clip (List.map G.fact_Fact.av ([(G.fact_Fact.mk (G.api_Choice.mk 2 0 1) 1 0 0 []), (G.fact_Fact.mk (G.api_Choice.mk 2 1 2) 1 0 0 []), (G.fact_Fact.mk (G.api_Choice.mk 2 0 2) 2 0 1 [])] : List G.fact_Fact))]) (xs := [G.api_Hist.av (G.api_Hist.mk ([(G.api_Txn.mk 0 [2] []), (G.api_Txn.mk 0 [2] []), (G.api_Txn.mk 1 [2] ([(G.api_Take.mk 2 1)] : List G.api_Take))] : List G.api_Txn)), i64 0, .sl (List.map G.fact_Fact.av ([(G.fact_Fact.mk (G.api_Choice.mk 2 0 1) 1 0 0 []), (G.fact_Fact.mk (G.api_Choice.mk 2 1 2) 1 0 0 []), (G.fact_Fact.mk (G.api_Choice.mk 2 0 2) 2 0 1 [])] : List G.fact_Fact))]) rfl (Weak.e (fr' := argsFr 0 [G.api_Hist.av (G.api_Hist.mk ([(G.api_Txn.mk 0 [2] []), (G.api_Txn.mk 0 [2] []), (G.api_Txn.mk 1 [2] ([(G.api_Take.mk 2 1)] : List G.api_Take))] : List G.api_Txn)), i64 0, .sl (List.map G.fact_Fact.av ([(G.fact_Fact.mk (G.api_Choice.mk 2 0 1) 1 0 0 []), (G.fact_Fact.mk (G.api_Choice.mk 2 1 2) 1 0 0 []), (G.fact_Fact.mk (G.api_Choice.mk 2 0 2) 2 0 1 [])] : List G.fact_Fact))]) (H' := .empty) ⟨⟨.agg [.clip (List.map G.api_Txn.av ([(G.api_Txn.mk 0 [2] []), (G.api_Txn.mk 0 [2] []), (G.api_Txn.mk 1 [2] ([(G.api_Take.mk 2 1)] : List G.api_Take))] : List G.api_Txn))], rfl, .ag ⟨.wide _ (by simp), trivial⟩⟩, .k, ⟨.clip (List.map G.fact_Fact.av ([(G.fact_Fact.mk (G.api_Choice.mk 2 0 1) 1 0 0 []), (G.fact_Fact.mk (G.api_Choice.mk 2 1 2) 1 0 0 []), (G.fact_Fact.mk (G.api_Choice.mk 2 0 2) 2 0 1 [])] : List G.fact_Fact)), rfl, .wide _ (by simp)⟩, trivial⟩) rfl (by simp) (fact_Replay_ok hT hr18)) <| ARH.keep [1, 2, 3, 26] rfl <| ARH.dry rfl (fun _ => aop_move (.inl rfl) rfl) ?_
 rcases Bool.eq_false_or_eq_true (r18) with hb19 | hb19
 ·rw [hb19]
  replace h := Sh.if_t h hb19
  refine ARH.dry (r := .agg [.clip (List.map G.api_Txn.av ([(G.api_Txn.mk 0 [2] []), (G.api_Txn.mk 0 [2] []), (G.api_Txn.mk 1 [2] ([(G.api_Take.mk 2 1)] : List G.api_Take))] : List G.api_Txn))]) rfl (fun _ => aop_load_pp rfl rfl sz24 rfl) <| ARH.dry rfl (fun _ => aop_move (.inl rfl) rfl) <| ARH.keep [1, 2, 3, 27, 28, 29] rfl ?_
  obtain ⟨part20, hpart20, h⟩ := Sh.bind_some' h
  refine ARH.dry (r := .sl (List.map G.fact_Fact.av part20)) rfl (fun _ => t_sub G.fact_Fact.av ([(G.fact_Fact.mk (G.api_Choice.mk 2 0 1) 1 0 0 []), (G.fact_Fact.mk (G.api_Choice.mk 2 1 2) 1 0 0 []), (G.fact_Fact.mk (G.api_Choice.mk 2 0 2) 2 0 1 [])] : List G.fact_Fact) part20 hpart20 (fun _ => rfl) rfl rfl (.inr rfl) (.inl ⟨rfl, rfl⟩) (.inr ⟨_, _, rfl, rfl⟩) el25) <| ARH.dry (r := .agg [i64 2, i64 0, i64 2, i64 4, i64 0, i64 0, .clip (List.map i64 [0, 1, 2])]) rfl (fun _ => aop_load_pp rfl rfl sz30 rfl) ?_
  obtain ⟨r21, hr21, h⟩ := Sh.bind_some' h
  refine ARH.dry (r := bl r21) rfl (fun _ => aop_callN rfl (ys := [.agg [.clip (List.map G.api_Txn.av ([(G.api_Txn.mk 0 [2] []), (G.api_Txn.mk 0 [2] []), (G.api_Txn.mk 1 [2] ([(G.api_Take.mk 2 1)] : List G.api_Take))] : List G.api_Txn))], i64 1, .sl (List.map G.fact_Fact.av part20), .agg [i64 2, i64 0, i64 2, i64 4, i64 0, i64 0, .clip (List.map i64 [0, 1, 2])]]) (xs := [G.api_Hist.av (G.api_Hist.mk ([(G.api_Txn.mk 0 [2] []), (G.api_Txn.mk 0 [2] []), (G.api_Txn.mk 1 [2] ([(G.api_Take.mk 2 1)] : List G.api_Take))] : List G.api_Txn)), i64 1, .sl (List.map G.fact_Fact.av part20), G.fact_Fact.av (G.fact_Fact.mk (G.api_Choice.mk 2 0 2) 4 0 0 [0, 1, 2])]) rfl (Weak.e (fr' := argsFr 0 [G.api_Hist.av (G.api_Hist.mk ([(G.api_Txn.mk 0 [2] []), (G.api_Txn.mk 0 [2] []), (G.api_Txn.mk 1 [2] ([(G.api_Take.mk 2 1)] : List G.api_Take))] : List G.api_Txn)), i64 1, .sl (List.map G.fact_Fact.av part20), G.fact_Fact.av (G.fact_Fact.mk (G.api_Choice.mk 2 0 2) 4 0 0 [0, 1, 2])]) (H' := .empty) ⟨⟨.agg [.clip (List.map G.api_Txn.av ([(G.api_Txn.mk 0 [2] []), (G.api_Txn.mk 0 [2] []), (G.api_Txn.mk 1 [2] ([(G.api_Take.mk 2 1)] : List G.api_Take))] : List G.api_Txn))], rfl, .ag ⟨.wide _ (by simp), trivial⟩⟩, .k, ⟨.sl (List.map G.fact_Fact.av part20), rfl, .sm⟩, ⟨.agg [i64 2, i64 0, i64 2, i64 4, i64 0, i64 0, .clip (List.map i64 [0, 1, 2])], rfl, .ag ⟨.sm, .sm, .sm, .sm, .sm, .sm, .wide _ (by simp), trivial⟩⟩, trivial⟩) rfl (by simp) (fact_Holds_ok hT hr21)) <| ARH.keep [1, 2, 27, 32] rfl <| ARH.dry rfl (fun _ => aop_pick rfl rfl rfl) <| ARH.dry rfl (fun _ => aop_move (.inl rfl) rfl) ?_
  rcases Bool.eq_false_or_eq_true (r21) with hb22 | hb22
  ·rw [hb22]
   replace h := Sh.if_t h hb22
   refine ARH.dry (r := .agg [.clip (List.map G.api_Txn.av ([(G.api_Txn.mk 0 [2] []), (G.api_Txn.mk 0 [2] []), (G.api_Txn.mk 1 [2] ([(G.api_Take.mk 2 1)] : List G.api_Take))] : List G.api_Txn))]) rfl (fun _ => aop_load_pp rfl rfl sz24 rfl) <| ARH.keep [2, 34, 35] rfl <| ARH.dry (r := .agg [i64 2, i64 1, i64 0]) rfl (fun _ => aop_build rfl bd27 rfl rfl rfl) <| ARH.dry (r := .agg [i64 2, i64 1, i64 0, i64 1, i64 0, i64 0, nilS]) rfl (fun _ => aop_build rfl bd30 rfl rfl rfl) ?_
   obtain ⟨r23, hr23, h⟩ := Sh.bind_some' h
   refine ARH.dry (r := bl r23) rfl (fun _ => aop_callN rfl (ys := [.agg [.clip (List.map G.api_Txn.av ([(G.api_Txn.mk 0 [2] []), (G.api_Txn.mk 0 [2] []), (G.api_Txn.mk 1 [2] ([(G.api_Take.mk 2 1)] : List G.api_Take))] : List G.api_Txn))], i64 1, nilS, .agg [i64 2, i64 1, i64 0, i64 1, i64 0, i64 0, nilS]]) (xs := [G.api_Hist.av (G.api_Hist.mk ([(G.api_Txn.mk 0 [2] []), (G.api_Txn.mk 0 [2] []), (G.api_Txn.mk 1 [2] ([(G.api_Take.mk 2 1)] : List G.api_Take))] : List G.api_Txn)), i64 1, .sl (List.map G.fact_Fact.av []), G.fact_Fact.av (G.fact_Fact.mk (G.api_Choice.mk 2 1 0) 1 0 0 [])]) rfl (Weak.e (fr' := argsFr 0 [G.api_Hist.av (G.api_Hist.mk ([(G.api_Txn.mk 0 [2] []), (G.api_Txn.mk 0 [2] []), (G.api_Txn.mk 1 [2] ([(G.api_Take.mk 2 1)] : List G.api_Take))] : List G.api_Txn)), i64 1, .sl (List.map G.fact_Fact.av []), G.fact_Fact.av (G.fact_Fact.mk (G.api_Choice.mk 2 1 0) 1 0 0 [])]) (H' := .empty) ⟨⟨.agg [.clip (List.map G.api_Txn.av ([(G.api_Txn.mk 0 [2] []), (G.api_Txn.mk 0 [2] []), (G.api_Txn.mk 1 [2] ([(G.api_Take.mk 2 1)] : List G.api_Take))] : List G.api_Txn))], rfl, .ag ⟨.wide _ (by simp), trivial⟩⟩, .k, ⟨_, rfl, .nilsl⟩, ⟨.agg [i64 2, i64 1, i64 0, i64 1, i64 0, i64 0, nilS], rfl, .ag ⟨.sm, .sm, .sm, .sm, .sm, .sm, .nilsl, trivial⟩⟩, trivial⟩) rfl (by simp) (fact_Holds_ok hT hr23)) <| ARH.keep [2, 34, 38] rfl <| ARH.dry (r := bl (!r23)) rfl (fun _ => aop_not rfl rfl) <| ARH.dry rfl (fun _ => aop_pick rfl rfl rfl) <| ARH.dry rfl (fun _ => aop_move (.inl rfl) rfl) <| ARH.keep [2, 41] rfl ?_
   rcases Bool.eq_false_or_eq_true (!r23) with hb24 | hb24
   ·rw [hb24]
    replace h := Sh.if_t h hb24
    refine ARH.dry rfl (fun _ => aop_move (.inl rfl) rfl) ?_
    obtain ⟨r25, hr25, h⟩ := Sh.bind_some' h
    refine ARH.dry (r := .sl (List.map G.api_Choice.av r25)) rfl (fun _ => aop_callN rfl (ys := [.clip (List.map G.fact_Fact.av ([(G.fact_Fact.mk (G.api_Choice.mk 2 0 1) 1 0 0 []), (G.fact_Fact.mk (G.api_Choice.mk 2 1 2) 1 0 0 []), (G.fact_Fact.mk (G.api_Choice.mk 2 0 2) 2 0 1 [])] : List G.fact_Fact))]) (xs := [.sl (List.map G.fact_Fact.av ([(G.fact_Fact.mk (G.api_Choice.mk 2 0 1) 1 0 0 []), (G.fact_Fact.mk (G.api_Choice.mk 2 1 2) 1 0 0 []), (G.fact_Fact.mk (G.api_Choice.mk 2 0 2) 2 0 1 [])] : List G.fact_Fact))]) rfl (Weak.e (fr' := argsFr 0 [.sl (List.map G.fact_Fact.av ([(G.fact_Fact.mk (G.api_Choice.mk 2 0 1) 1 0 0 []), (G.fact_Fact.mk (G.api_Choice.mk 2 1 2) 1 0 0 []), (G.fact_Fact.mk (G.api_Choice.mk 2 0 2) 2 0 1 [])] : List G.fact_Fact))]) (H' := .empty) ⟨⟨.clip (List.map G.fact_Fact.av ([(G.fact_Fact.mk (G.api_Choice.mk 2 0 1) 1 0 0 []), (G.fact_Fact.mk (G.api_Choice.mk 2 1 2) 1 0 0 []), (G.fact_Fact.mk (G.api_Choice.mk 2 0 2) 2 0 1 [])] : List G.fact_Fact)), rfl, .wide _ (by simp)⟩, trivial⟩) rfl (by simp) (fact_Choices_ok hT hr25)) <| ARH.dry rfl (fun _ => t_len_sl G.api_Choice.av r25 rfl rfl el43) <| ARH.keep [41, 44] rfl <| ARH.dry (r := bl (decide ((Sh.len r25) = 3))) rfl (fun _ => aop_eql rfl rfl rfl) <| ARH.dry rfl (fun _ => aop_pick rfl rfl rfl) <| ARH.dry rfl (fun _ => aop_move (.inr rfl) rfl) <| ARH.nil <| hK5 _ (AWP.weak (Weak.kt [0] rfl) ?_)
    refine awp_ret ?_
    obtain rfl := Option.some.inj h
    refine ⟨.inr rfl, bl (decide ((Sh.len r25) = 3)), rfl, ?_⟩
    exact Weak.e ⟨.k, trivial⟩
   ·rw [hb24]
    replace h := Sh.if_f h hb24
    refine ARH.skip rfl <| ARH.skip rfl <| ARH.skip rfl <| ARH.keep [41, 44] rfl <| ARH.skip rfl <| ARH.dry rfl (fun _ => aop_pick rfl rfl rfl) <| ARH.dry rfl (fun _ => aop_move (.inr rfl) rfl) <| ARH.nil ?_
    refine hK5 _ (AWP.weak (Weak.kt [0] rfl) ?_)
    refine awp_ret ?_
    obtain rfl := Option.some.inj h
    refine ⟨.inr rfl, bl false, rfl, ?_⟩
    exact Weak.e ⟨.k, trivial⟩
  ·rw [hb22]
   replace h := Sh.if_f h hb22
   refine ARH.skip rfl <| ARH.keep [2, 34, 35] rfl <| ARH.skip rfl <| ARH.skip rfl <| ARH.skip rfl <| ARH.keep [2, 34, 38] rfl <| ARH.skip rfl <| ARH.dry rfl (fun _ => aop_pick rfl rfl rfl) ?_
   refine ARH.dry rfl (fun _ => aop_move (.inl rfl) rfl) <| ARH.keep [2, 41] rfl <| ARH.skip rfl <| ARH.skip rfl <| ARH.skip rfl <| ARH.keep [41, 44] rfl <| ARH.skip rfl <| ARH.dry rfl (fun _ => aop_pick rfl rfl rfl) ?_
   refine ARH.dry rfl (fun _ => aop_move (.inr rfl) rfl) <| ARH.nil <| hK5 _ (AWP.weak (Weak.kt [0] rfl) ?_)
   refine awp_ret ?_
   obtain rfl := Option.some.inj h
   refine ⟨.inr rfl, bl false, rfl, ?_⟩
   exact Weak.e ⟨.k, trivial⟩
 ·rw [hb19]
  replace h := Sh.if_f h hb19
  refine ARH.skip rfl <| ARH.skip rfl <| ARH.keep [1, 2, 3, 27, 28, 29] rfl <| ARH.skip rfl <| ARH.skip rfl <| ARH.skip rfl <| ARH.keep [1, 2, 27, 32] rfl <| ARH.dry rfl (fun _ => aop_pick rfl rfl rfl) ?_
  refine ARH.dry rfl (fun _ => aop_move (.inl rfl) rfl) <| ARH.skip rfl <| ARH.keep [2, 34, 35] rfl <| ARH.skip rfl <| ARH.skip rfl <| ARH.skip rfl <| ARH.keep [2, 34, 38] rfl <| ARH.skip rfl ?_
  refine ARH.dry rfl (fun _ => aop_pick rfl rfl rfl) <| ARH.dry rfl (fun _ => aop_move (.inl rfl) rfl) <| ARH.keep [2, 41] rfl <| ARH.skip rfl <| ARH.skip rfl <| ARH.skip rfl <| ARH.keep [41, 44] rfl <| ARH.skip rfl ?_
  refine ARH.dry rfl (fun _ => aop_pick rfl rfl rfl) <| ARH.dry rfl (fun _ => aop_move (.inr rfl) rfl) <| ARH.nil <| hK5 _ (AWP.weak (Weak.kt [0] rfl) ?_)
  refine awp_ret ?_
  obtain rfl := Option.some.inj h
  refine ⟨.inr rfl, bl false, rfl, ?_⟩
  exact Weak.e ⟨.k, trivial⟩
theorem inquestlaw22_awake_ok {W0 : World} (hT : Tab W0) {r : Bool} (h : G.inquestlaw22_awake = some r) : Fun1 Try.prog W0 11 [] (bl r) := Fun1.two (inquestlaw22_awake_ok0 hT h) (by simp)


theorem inquestlaw22_few_ok0 {W0 : World} (hT : Tab W0) {x_0 : G.inquestlaw22_Case} {txns_1 : Int} {r : Bool} (h : G.inquestlaw22_few x_0 txns_1 = some r) : Fun2 Try.prog W0 12 [G.inquestlaw22_Case.av x_0, i64 txns_1] (bl r) .empty := by
 refine fun2_of_awp Try.func12 rfl (by kernel_rfl) Try.ntmps12 (by simp) ?_
 unfold G.inquestlaw22_few at h
 show AWP _ _ _ _ ⟨[(0, G.inquestlaw22_Case.av x_0), (1, i64 txns_1)], .empty⟩ _
 refine awp_seqK fun K1 hK1 => awp_reg rfl <| AR.op (r := .ref 0 0 0) rfl (aop_box 10 [G.inquestlaw22_Case.av x_0] rfl rfl rfl (.inl ⟨rfl, rfl⟩)) <| AR.op rfl (aop_move (.inr rfl) rfl) <| AR.nil <| hK1 _ (AWP.weak (Weak.e (fr' := [(1, i64 txns_1), (2, .pp [.sl (List.map G.api_Txn.av x_0.H.Txns), i64 x_0.Level, .sl (List.map G.fact_Fact.av x_0.L), i64 x_0.F.C.Key, i64 x_0.F.C.A, i64 x_0.F.C.B, i64 x_0.F.Kind, i64 x_0.F.I, i64 x_0.F.J, .sl (List.map i64 x_0.F.Cycle)] 0)]) (H' := .empty) ⟨.k, ⟨_, rfl, .frzA rfl rfl rfl rfl (by simp)⟩, trivial⟩) ?_)
 refine awp_seqK fun K2 hK2 => awp_reg rfl <| AR.op rfl (aop_field_pp rfl rfl fd32_0 (by decide)) <| AR.op (r := G.api_Hist.av x_0.H) rfl (aop_load_pp rfl rfl sz24 rfl) <| AR.op rfl (aop_move (.inl rfl) rfl) <| AR.keep [2, 8, 9] rfl ?_
 obtain ⟨r14, hr14, h⟩ := Sh.bind_some' h
 refine AR.op (r := bl r14) rfl (aop_call1 rfl rfl (by simp) (inquestref08_Few_ok hT hr14)) <| AR.op rfl (aop_move (.inr rfl) rfl) <| AR.nil <| hK2 _ (AWP.weak (Weak.kt [2, 5] rfl) ?_)
 refine awp_seqK fun K3 hK3 => awp_seqJ (fun (p : Bool) => (⟨[(2, .pp [.sl (List.map G.api_Txn.av x_0.H.Txns), i64 x_0.Level, .sl (List.map G.fact_Fact.av x_0.L), i64 x_0.F.C.Key, i64 x_0.F.C.A, i64 x_0.F.C.B, i64 x_0.F.Kind, i64 x_0.F.I, i64 x_0.F.J, .sl (List.map i64 x_0.F.Cycle)] 0), (25, bl p)], .empty⟩ : St)) (fun (p : Bool) => G.inquestlaw22_few_j1 x_0 p = some r) ?_ ?_
 ·rintro v20 h
  replace h : G.inquestlaw22_few_j1 x_0 v20 = some r := h
  unfold G.inquestlaw22_few_j1 at h
  show AWP _ _ _ _ ⟨[(2, .pp [.sl (List.map G.api_Txn.av x_0.H.Txns), i64 x_0.Level, .sl (List.map G.fact_Fact.av x_0.L), i64 x_0.F.C.Key, i64 x_0.F.C.A, i64 x_0.F.C.B, i64 x_0.F.Kind, i64 x_0.F.I, i64 x_0.F.J, .sl (List.map i64 x_0.F.Cycle)] 0), (25, bl v20)], .empty⟩ _
  refine awp_cond rfl (fun hb21 => ?_) (fun hb21 => ?_)
  ·replace h := Sh.if_t h hb21
   refine awp_seqK fun K4 hK4 => awp_reg rfl <| AR.op rfl (aop_move (.inr rfl) rfl) <| AR.nil <| hK4 _ (AWP.weak (Weak.kt [4] rfl) ?_)
   refine awp_ret ?_
   obtain rfl := Option.some.inj h
   refine ⟨.inr rfl, bl false, rfl, ?_⟩
   exact Weak.e ⟨.k, trivial⟩
  ·replace h := Sh.if_f h hb21
   refine awp_skip <| hK3 _ (AWP.weak (Weak.kt [2] rfl) ?_)
   refine awp_seqJ (fun (p : Unit) => (⟨[], .empty⟩ : St)) (fun (p : Unit) => G.inquestlaw22_few_j2 = some r) ?_ ?_
   ·rintro ⟨⟩ h
    replace h : G.inquestlaw22_few_j2 = some r := h
    unfold G.inquestlaw22_few_j2 at h
    show AWP _ _ _ _ ⟨[], .empty⟩ _
    refine awp_seqK fun K5 hK5 => awp_reg rfl <| AR.op rfl (aop_move (.inr rfl) rfl) <| AR.nil <| hK5 _ ?_
    refine awp_ret ?_
    obtain rfl := Option.some.inj h
    refine ⟨.inr rfl, bl true, rfl, ?_⟩
    exact Weak.e ⟨.k, trivial⟩
   ·intro K6 hK6
    refine awp_seqK fun K7 hK7 => awp_reg rfl <| AR.op rfl (aop_move (.inr rfl) rfl) <| AR.nil <| hK7 _ ?_
    refine awp_block <| awp_iter (fun (p : Int) => G.inquestlaw22_few_b1 x_0 p) (fun (p : Int) => (⟨[(2, .pp [.sl (List.map G.api_Txn.av x_0.H.Txns), i64 x_0.Level, .sl (List.map G.fact_Fact.av x_0.L), i64 x_0.F.C.Key, i64 x_0.F.C.A, i64 x_0.F.C.B, i64 x_0.F.Kind, i64 x_0.F.I, i64 x_0.F.J, .sl (List.map i64 x_0.F.Cycle)] 0), (6, i64 p)], .empty⟩ : St)) h (Weak.kt [2, 6] rfl) ?_
    ·skip
     rintro i35 o1 h hx1
     replace h : G.inquestlaw22_few_b1 x_0 i35 = some o1 := h
     unfold G.inquestlaw22_few_b1 at h
     show AWP _ _ _ _ ⟨[(2, .pp [.sl (List.map G.api_Txn.av x_0.H.Txns), i64 x_0.Level, .sl (List.map G.fact_Fact.av x_0.L), i64 x_0.F.C.Key, i64 x_0.F.C.A, i64 x_0.F.C.B, i64 x_0.F.Kind, i64 x_0.F.I, i64 x_0.F.J, .sl (List.map i64 x_0.F.Cycle)] 0), (6, i64 i35)], .empty⟩ _
     refine awp_seqK fun K8 hK8 => awp_seqK fun K9 hK9 => awp_reg rfl <| AR.op rfl (aop_move (.inl rfl) rfl) <| AR.op rfl (aop_field_pp rfl rfl fd32_2 (by decide)) <| AR.op (r := .sl (List.map G.fact_Fact.av x_0.L)) rfl (aop_load_pp rfl rfl sz25 rfl) <| AR.keep [2, 6, 26, 28] rfl <| AR.op rfl (t_len_sl G.fact_Fact.av x_0.L rfl rfl el25) ?_
     refine AR.op rfl (aop_lss rfl rfl rfl) <| AR.nil <| hK9 _ (AWP.weak (Weak.kt [2, 6, 30] rfl) ?_)
     refine awp_cond rfl (fun hb36 => ?_) (fun hb36 => ?_)
     ·replace h := Sh.if_t h hb36
      refine awp_skip <| hK8 _ (AWP.weak (Weak.kt [2, 6] rfl) ?_)
      refine awp_seqK fun K10 hK10 => awp_block <| awp_seqK fun K11 hK11 => awp_reg rfl <| AR.op rfl (aop_field_pp rfl rfl fd32_2 (by decide)) <| AR.op (r := .sl (List.map G.fact_Fact.av x_0.L)) rfl (aop_load_pp rfl rfl sz25 rfl) <| AR.op rfl (aop_move (.inl rfl) rfl) <| AR.keep [2, 6, 34, 35] rfl ?_
      obtain ⟨x41, hx41, h⟩ := Sh.bind_some' h
      obtain ⟨k42, hi42, hl42⟩ := Sh.idx_some hx41
      refine AR.op rfl (t_index_sl G.fact_Fact.av x_0.L hi42 hl42 rfl rfl rfl el25 rfl) <| AR.op rfl (aop_field_pp rfl rfl fd30_4 (by decide)) <| AR.op (r := .sl (List.map i64 x41.Cycle)) rfl (aop_load_pp rfl rfl sz28 rfl) <| AR.keep [2, 6, 38] rfl <| AR.op rfl (t_len_sl i64 x41.Cycle rfl rfl el28) <| AR.op rfl (aop_gtr rfl rfl rfl) <| AR.nil <| hK11 _ (AWP.weak (Weak.kt [2, 6, 40] rfl) ?_)
      refine awp_cond rfl (fun hb43 => ?_) (fun hb43 => ?_)
      ·replace h := Sh.if_t h hb43
       refine awp_seqK fun K12 hK12 => awp_reg rfl <| AR.op rfl (aop_move (.inr rfl) rfl) <| AR.nil <| hK12 _ (AWP.weak (Weak.kt [4] rfl) ?_)
       refine awp_ret ?_
       replace h := Sh.exit_eq h hx1
       obtain rfl := Option.some.inj h
       refine ⟨.inr rfl, bl false, rfl, ?_⟩
       exact Weak.e ⟨.k, trivial⟩
      ·replace h := Sh.if_f h hb43
       refine awp_skip <| hK10 _ (AWP.weak (Weak.kt [2, 6] rfl) ?_)
       refine awp_reg rfl <| AR.op rfl (aop_move (.inl rfl) rfl) <| AR.op rfl (aop_add rfl rfl rfl rfl) <| AR.op rfl (aop_move (.inr rfl) rfl) <| AR.nil ?_
       replace h := Sh.next_eq h
       exact ⟨_, h, Weak.e (fr' := [(2, .pp [.sl (List.map G.api_Txn.av x_0.H.Txns), i64 x_0.Level, .sl (List.map G.fact_Fact.av x_0.L), i64 x_0.F.C.Key, i64 x_0.F.C.A, i64 x_0.F.C.B, i64 x_0.F.Kind, i64 x_0.F.I, i64 x_0.F.J, .sl (List.map i64 x_0.F.Cycle)] 0), (6, i64 (w64 (i35 + 1)))]) (H' := .empty) ⟨.k, .k, trivial⟩⟩
     ·replace h := Sh.if_f h hb36
      refine awp_exit ?_
      replace h := Sh.exit_eq h hx1
      exact hK6 () _ h (Weak.kt [] rfl)
 ·intro K13 hK13
  refine awp_reg rfl <| AR.op rfl (aop_move (.inl rfl) rfl) <| AR.op (r := bl (!r14)) rfl (aop_not rfl rfl) <| AR.op rfl (aop_move (.inl rfl) rfl) <| AR.keep [2, 13] rfl ?_
  rcases Bool.eq_false_or_eq_true (!r14) with hb44 | hb44
  ·rw [hb44]
   replace h := Sh.if_t h hb44
   refine AR.skip rfl <| AR.skip rfl <| AR.skip rfl <| AR.keep [2, 13, 16] rfl <| AR.skip rfl <| AR.op rfl (aop_pick rfl rfl rfl) <| AR.op rfl (aop_move (.inl rfl) rfl) <| AR.keep [2, 19] rfl ?_
   refine AR.skip rfl <| AR.skip rfl <| AR.skip rfl <| AR.keep [2, 19, 22] rfl <| AR.skip rfl <| AR.skip rfl <| AR.op rfl (aop_pick rfl rfl rfl) <| AR.nil ?_
   exact hK13 true _ h (Weak.kt [2, 25] rfl)
  ·rw [hb44]
   replace h := Sh.if_f h hb44
   refine AR.op rfl (aop_field_pp rfl rfl fd32_2 (by decide)) <| AR.op (r := .sl (List.map G.fact_Fact.av x_0.L)) rfl (aop_load_pp rfl rfl sz25 rfl) <| AR.op rfl (t_len_sl G.fact_Fact.av x_0.L rfl rfl el25) <| AR.keep [2, 13, 16] rfl <| AR.op rfl (aop_gtr rfl rfl rfl) <| AR.op rfl (aop_pick rfl rfl rfl) <| AR.op rfl (aop_move (.inl rfl) rfl) <| AR.keep [2, 19] rfl ?_
   rcases Bool.eq_false_or_eq_true (decide ((20 : Int) < (Sh.len x_0.L))) with hb45 | hb45
   ·rw [hb45]
    replace h := Sh.if_t h hb45
    refine AR.skip rfl <| AR.skip rfl <| AR.skip rfl <| AR.keep [2, 19, 22] rfl <| AR.skip rfl <| AR.skip rfl <| AR.op rfl (aop_pick rfl rfl rfl) <| AR.nil ?_
    exact hK13 true _ h (Weak.kt [2, 25] rfl)
   ·rw [hb45]
    replace h := Sh.if_f h hb45
    refine AR.op rfl (aop_field_pp rfl rfl fd32_3 (by decide)) <| AR.op rfl (aop_field_pp rfl rfl fd30_4 (by decide)) <| AR.op (r := .sl (List.map i64 x_0.F.Cycle)) rfl (aop_load_pp rfl rfl sz28 rfl) <| AR.keep [2, 19, 22] rfl <| AR.op rfl (t_len_sl i64 x_0.F.Cycle rfl rfl el28) <| AR.op rfl (aop_gtr rfl rfl rfl) <| AR.op rfl (aop_pick rfl rfl rfl) <| AR.nil ?_
    exact hK13 (decide ((40 : Int) < (Sh.len x_0.F.Cycle))) _ h (Weak.e (fr' := [(2, .pp [.sl (List.map G.api_Txn.av x_0.H.Txns), i64 x_0.Level, .sl (List.map G.fact_Fact.av x_0.L), i64 x_0.F.C.Key, i64 x_0.F.C.A, i64 x_0.F.C.B, i64 x_0.F.Kind, i64 x_0.F.I, i64 x_0.F.J, .sl (List.map i64 x_0.F.Cycle)] 0), (25, bl (decide ((40 : Int) < (Sh.len x_0.F.Cycle))))]) (H' := .empty) ⟨.k, .k, trivial⟩)
theorem inquestlaw22_few_ok {W0 : World} (hT : Tab W0) {x_0 : G.inquestlaw22_Case} {txns_1 : Int} {r : Bool} (h : G.inquestlaw22_few x_0 txns_1 = some r) : Fun1 Try.prog W0 12 [G.inquestlaw22_Case.av x_0, i64 txns_1] (bl r) := Fun1.two (inquestlaw22_few_ok0 hT h) (by simp)


end Wk
