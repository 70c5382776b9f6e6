/- That a statement does what its plain function says. -/
import Derived.Test.YtnbabpgakdefjaaWkFinquestlaw22
open Go Go.Av Go.Proofs
set_option linter.unusedVariables false
set_option maxHeartbeats 8000000
set_option maxRecDepth 20000
namespace Wk
theorem inquestlaw22_FactTells_ok0 {W0 : World} (hT : Tab W0) {x_0 : G.inquestlaw22_Case} {r : Bool} (h : G.inquestlaw22_FactTells x_0 = some r) : Fun2 Try.prog W0 3 [G.inquestlaw22_Case.av x_0] (bl r) .empty := by
 refine fun2_of_awp Try.func3 rfl (by kernel_rfl) Try.ntmps3 (by simp) ?_
 unfold G.inquestlaw22_FactTells at h
 show AWP _ _ _ _ ⟨[(0, G.inquestlaw22_Case.av x_0)], .empty⟩ _
 refine awp_seqK fun K1 hK1 => ?_
 refine awp_reg rfl ?_
 refine AR.op (r := .ref 0 0 0) rfl (aop_box 10 [G.inquestlaw22_Case.av x_0] rfl rfl rfl (.inl ⟨rfl, rfl⟩)) ?_
 refine AR.op (r := bl false) rfl (aop_move (.inr rfl) rfl) ?_
 refine AR.nil ?_
 refine hK1 _ (AWP.weak (Weak.re (fr' := [(1, .pp [.sl (List.map G.api_Txn.av x_0.H.Txns), i64 x_0.Level, .sl (List.map G.fact_Fact.av x_0.L), i64 x_0.F.C.Key, i64 x_0.F.C.A, i64 x_0.F.C.B, i64 x_0.F.Kind, i64 x_0.F.I, i64 x_0.F.J, .sl (List.map i64 x_0.F.Cycle)] 0)]) (H' := .empty) [] [] rfl rfl rfl (trivial) ⟨⟨_, rfl, .frzA rfl rfl rfl rfl (by simp)⟩, trivial⟩) ?_)
 clear hK1 K1
 refine awp_seqK fun K2 hK2 => ?_
 refine awp_reg rfl ?_
 obtain ⟨r15, hr15, h⟩ := Sh.bind_some' h
 refine AR.op (r := bl r15) rfl (aop_call1 rfl rfl (by simp) (inquestlaw22_awake_ok hT hr15)) ?_
 refine AR.op (r := bl r15) rfl (aop_move (.inr rfl) rfl) ?_
 refine AR.nil ?_
 refine hK2 _ (AWP.weak (Weak.kt [1, 3] rfl) ?_)
 clear hK2 K2
 refine awp_seqK fun K3 hK3 => ?_
 refine awp_seqK fun K4 hK4 => ?_
 refine awp_reg rfl ?_
 refine AR.op (r := bl r15) rfl (aop_move (.inl rfl) rfl) ?_
 refine AR.op (r := bl (!r15)) rfl (aop_not rfl rfl) ?_
 refine AR.nil ?_
 refine hK4 _ (AWP.weak (Weak.kt [1, 9] rfl) ?_)
 clear hK4 K4
 refine awp_cond rfl (fun hb16 => ?_) (fun hb16 => ?_)
 ·replace h := Sh.if_t h hb16
  refine awp_seqK fun K5 hK5 => ?_
  refine awp_reg rfl ?_
  refine AR.op (r := bl false) rfl (aop_move (.inr rfl) rfl) ?_
  refine AR.nil ?_
  refine hK5 _ (AWP.weak (Weak.kt [2] rfl) ?_)
  clear hK5 K5
  refine awp_ret ?_
  obtain rfl := Option.some.inj h
  refine ⟨.inr rfl, bl false, rfl, ?_⟩
  exact Weak.re [] [] rfl rfl rfl (trivial) ⟨⟨_, rfl, .sm⟩, trivial⟩
 ·replace h := Sh.if_f h hb16
  refine awp_skip ?_
  refine hK3 _ (AWP.weak (Weak.kt [1] rfl) ?_)
  clear hK3 K3
  refine awp_seqK fun K6 hK6 => ?_
  refine awp_reg rfl ?_
  refine AR.op (r := G.inquestlaw22_Case.av x_0) rfl (aop_load_pp rfl rfl sz32 rfl) ?_
  obtain ⟨r18, hr18, h⟩ := Sh.bind_some' h
  refine AR.op (r := bl r18) rfl (aop_call1 rfl rfl (by simp) (inquestlaw22_few_ok hT hr18)) ?_
  refine AR.op (r := bl r18) rfl (aop_move (.inr rfl) rfl) ?_
  refine AR.nil ?_
  refine hK6 _ (AWP.weak (Weak.kt [1, 4] rfl) ?_)
  clear hK6 K6
  refine awp_seqK fun K7 hK7 => ?_
  refine awp_seqK fun K8 hK8 => ?_
  refine awp_reg rfl ?_
  refine AR.op (r := bl r18) rfl (aop_move (.inl rfl) rfl) ?_
  refine AR.op (r := bl (!r18)) rfl (aop_not rfl rfl) ?_
  refine AR.nil ?_
  refine hK8 _ (AWP.weak (Weak.kt [1, 13] rfl) ?_)
  clear hK8 K8
  refine awp_cond rfl (fun hb19 => ?_) (fun hb19 => ?_)
  ·replace h := Sh.if_t h hb19
   refine awp_seqK fun K9 hK9 => ?_
   refine awp_reg rfl ?_
   refine AR.op (r := bl true) rfl (aop_move (.inr rfl) rfl) ?_
   refine AR.nil ?_
   refine hK9 _ (AWP.weak (Weak.kt [2] rfl) ?_)
   clear hK9 K9
   refine awp_ret ?_
   obtain rfl := Option.some.inj h
   refine ⟨.inr rfl, bl true, rfl, ?_⟩
   exact Weak.re [] [] rfl rfl rfl (trivial) ⟨⟨_, rfl, .sm⟩, trivial⟩
  ·replace h := Sh.if_f h hb19
   refine awp_skip ?_
   refine hK7 _ (AWP.weak (Weak.kt [1] rfl) ?_)
   clear hK7 K7
   refine awp_seqK fun K10 hK10 => ?_
   refine awp_reg rfl ?_
   refine AR.op rfl (aop_field_pp rfl rfl fd32_2 (by decide)) ?_
   refine AR.op (r := .sl (List.map G.fact_Fact.av x_0.L)) rfl (aop_load_pp rfl rfl sz25 rfl) ?_
   obtain ⟨r21, hr21, h⟩ := Sh.bind_some' h
   refine AR.op (r := .sl (List.map G.inquestref22_F.av r21)) rfl (aop_call1 rfl rfl (by simp) (inquestlaw22_Plain_ok hT hr21)) ?_
   refine AR.keep [1, 16] rfl ?_
   refine AR.op (r := .sl (List.map G.inquestref22_F.av r21)) rfl (aop_move (.inr rfl) rfl) ?_
   refine AR.nil ?_
   refine hK10 _ (AWP.weak (Weak.kt [1, 5] rfl) ?_)
   clear hK10 K10
   refine awp_seqK fun K11 hK11 => ?_
   refine awp_reg rfl ?_
   refine AR.op rfl (aop_field_pp rfl rfl fd32_3 (by decide)) ?_
   refine AR.op rfl (aop_field_pp rfl rfl fd30_0 (by decide)) ?_
   refine AR.op (r := G.api_Choice.av x_0.F.C) rfl (aop_load_pp rfl rfl sz27 rfl) ?_
   refine AR.keep [1, 5, 19] rfl ?_
   refine AR.op rfl (aop_field_pp rfl rfl fd32_3 (by decide)) ?_
   refine AR.op rfl (aop_field_pp rfl rfl fd30_1 (by decide)) ?_
   refine AR.op (r := i64 x_0.F.Kind) rfl (aop_load_pp rfl rfl sz3 rfl) ?_
   refine AR.keep [1, 5, 19, 22] rfl ?_
   refine AR.op rfl (aop_field_pp rfl rfl fd32_3 (by decide)) ?_
   refine AR.op rfl (aop_field_pp rfl rfl fd30_2 (by decide)) ?_
   refine AR.op (r := i64 x_0.F.I) rfl (aop_load_pp rfl rfl sz3 rfl) ?_
   refine AR.keep [1, 5, 19, 22, 25] rfl ?_
   refine AR.op rfl (aop_field_pp rfl rfl fd32_3 (by decide)) ?_
   refine AR.op rfl (aop_field_pp rfl rfl fd30_3 (by decide)) ?_
   refine AR.op (r := i64 x_0.F.J) rfl (aop_load_pp rfl rfl sz3 rfl) ?_
   refine AR.keep [1, 5, 19, 22, 25, 28] rfl ?_
   refine AR.op rfl (aop_field_pp rfl rfl fd32_3 (by decide)) ?_
   refine AR.op rfl (aop_field_pp rfl rfl fd30_4 (by decide)) ?_
   refine AR.op (r := .sl (List.map i64 x_0.F.Cycle)) rfl (aop_load_pp rfl rfl sz28 rfl) ?_
   refine AR.keep [1, 5, 19, 22, 25, 28, 31] rfl ?_
   refine AR.op (r := .agg [i64 x_0.F.C.Key, i64 x_0.F.C.A, i64 x_0.F.C.B, i64 x_0.F.Kind, i64 x_0.F.I, i64 x_0.F.J, .sl (List.map i64 x_0.F.Cycle)]) rfl (aop_build rfl bd37 rfl rfl rfl) ?_
   refine AR.op (r := .ref 0 0 0) rfl (aop_alloc 7 [.agg [i64 0, i64 0, i64 0, i64 0, i64 0, i64 0, nilS]] rfl zr37 (by kernel_rfl) (.inl ⟨rfl, rfl⟩)) ?_
   refine AR.op rfl (aop_store (e' := .agg [i64 x_0.F.C.Key, i64 x_0.F.C.A, i64 x_0.F.C.B, i64 x_0.F.Kind, i64 x_0.F.I, i64 x_0.F.J, .sl (List.map i64 x_0.F.Cycle)]) rfl rfl rfl rfl rfl rfl sz37 rfl (of_decide_eq_true rfl) rfl) ?_
   refine AR.nil ?_
   refine hK11 _ (AWP.weak (Weak.re (fr' := [(1, .pp [.sl (List.map G.api_Txn.av x_0.H.Txns), i64 x_0.Level, .sl (List.map G.fact_Fact.av x_0.L), i64 x_0.F.C.Key, i64 x_0.F.C.A, i64 x_0.F.C.B, i64 x_0.F.Kind, i64 x_0.F.I, i64 x_0.F.J, .sl (List.map i64 x_0.F.Cycle)] 0), (5, .sl (List.map G.inquestref22_F.av r21)), (6, .pp [i64 x_0.F.C.Key, i64 x_0.F.C.A, i64 x_0.F.C.B, i64 x_0.F.Kind, i64 x_0.F.I, i64 x_0.F.J, .sl (List.map i64 x_0.F.Cycle)] 0)]) (H' := .empty) [] [] rfl rfl rfl (trivial) ⟨⟨_, rfl, .sm⟩, ⟨.sl (List.map G.inquestref22_F.av r21), rfl, .sm⟩, ⟨_, rfl, .frzA rfl rfl rfl rfl (by simp)⟩, trivial⟩) ?_)
   clear hK11 K11
   refine awp_seqK fun K12 hK12 => ?_
   refine awp_any [(true, false), (true, false), (true, false), (true, false), (true, false), (true, false), (true, false), (true, false), (true, false), (true, false), (true, false), (true, false), (true, false), (true, false), (true, false), (true, false), (true, false), (true, false), (true, false), (true, false), (true, false), (true, false), (true, false), (true, false), (true, false), (true, false), (true, false), (true, false), (true, false), (true, false), (true, false), (true, false), (true, false), (true, false), (true, false), (true, false), (true, false), (true, false), (true, false), (true, false), (true, false), (true, false)] (by kernel_rfl) (by kernel_rfl) rfl ?_
   refine ARH.dry rfl (fun _ => aop_field_pp rfl rfl fd32_0 (by decide)) ?_
   refine ARH.dry (r := G.api_Hist.av x_0.H) rfl (fun _ => aop_load_pp rfl rfl sz24 rfl) ?_
   refine ARH.dry rfl (fun _ => aop_field_pp rfl rfl fd32_1 (by decide)) ?_
   refine ARH.keep [1, 5, 6, 34, 35] rfl ?_
   refine ARH.dry (r := i64 x_0.Level) rfl (fun _ => aop_load_pp rfl rfl sz3 rfl) ?_
   refine ARH.dry rfl (fun _ => aop_field_pp rfl rfl fd32_2 (by decide)) ?_
   refine ARH.dry (r := .sl (List.map G.fact_Fact.av x_0.L)) rfl (fun _ => aop_load_pp rfl rfl sz25 rfl) ?_
   refine ARH.keep [1, 5, 6, 34, 36, 38] rfl ?_
   refine ARH.dry rfl (fun _ => aop_field_pp rfl rfl fd32_3 (by decide)) ?_
   refine ARH.dry (r := G.fact_Fact.av x_0.F) rfl (fun _ => aop_load_pp rfl rfl sz30 rfl) ?_
   obtain ⟨r31, hr31, h⟩ := Sh.bind_some' h
   refine ARH.dry (r := bl r31) rfl (fun _ => aop_call1 rfl rfl (by simp) (fact_Holds_ok hT hr31)) ?_
   refine ARH.keep [1, 5, 6, 41] rfl ?_
   refine ARH.dry rfl (fun _ => aop_field_pp rfl rfl fd32_0 (by decide)) ?_
   refine ARH.dry (r := G.api_Hist.av x_0.H) rfl (fun _ => aop_load_pp rfl rfl sz24 rfl) ?_
   refine ARH.dry rfl (fun _ => aop_field_pp rfl rfl fd32_1 (by decide)) ?_
   refine ARH.keep [1, 5, 6, 41, 43, 44] rfl ?_
   refine ARH.dry (r := i64 x_0.Level) rfl (fun _ => aop_load_pp rfl rfl sz3 rfl) ?_
   refine ARH.dry (r := .sl (List.map G.inquestref22_F.av r21)) rfl (fun _ => aop_move (.inl rfl) rfl) ?_
   refine ARH.dry (r := .agg [i64 x_0.F.C.Key, i64 x_0.F.C.A, i64 x_0.F.C.B, i64 x_0.F.Kind, i64 x_0.F.I, i64 x_0.F.J, .sl (List.map i64 x_0.F.Cycle)]) rfl (fun _ => aop_load_pp rfl rfl sz37 rfl) ?_
   refine ARH.keep [1, 5, 41, 43, 45, 46, 47] rfl ?_
   obtain ⟨r32, hr32, h⟩ := Sh.bind_some' h
   refine ARH.dry (r := bl r32) rfl (fun _ => aop_callN rfl (ys := [G.api_Hist.av x_0.H, i64 x_0.Level, .sl (List.map G.inquestref22_F.av r21), .agg [i64 x_0.F.C.Key, i64 x_0.F.C.A, i64 x_0.F.C.B, i64 x_0.F.Kind, i64 x_0.F.I, i64 x_0.F.J, .sl (List.map i64 x_0.F.Cycle)]]) (xs := [G.api_Hist.av x_0.H, i64 x_0.Level, .sl (List.map G.inquestref22_F.av r21), G.inquestref22_F.av (G.inquestref22_F.mk (G.api_Choice.mk x_0.F.C.Key x_0.F.C.A x_0.F.C.B) x_0.F.Kind x_0.F.I x_0.F.J x_0.F.Cycle)]) rfl (Weak.re (fr' := argsFr 0 [G.api_Hist.av x_0.H, i64 x_0.Level, .sl (List.map G.inquestref22_F.av r21), G.inquestref22_F.av (G.inquestref22_F.mk (G.api_Choice.mk x_0.F.C.Key x_0.F.C.A x_0.F.C.B) x_0.F.Kind x_0.F.I x_0.F.J x_0.F.Cycle)]) (H' := .empty) [] [] rfl rfl rfl trivial ⟨⟨G.api_Hist.av x_0.H, rfl, .sm⟩, ⟨_, rfl, .sm⟩, ⟨.sl (List.map G.inquestref22_F.av r21), rfl, .sm⟩, ⟨.agg [i64 x_0.F.C.Key, i64 x_0.F.C.A, i64 x_0.F.C.B, i64 x_0.F.Kind, i64 x_0.F.I, i64 x_0.F.J, .sl (List.map i64 x_0.F.Cycle)], rfl, .sm⟩, trivial⟩) rfl (by simp) (inquestref22_Holds_ok hT hr32)) ?_
   refine ARH.dry (r := bl (r31 == r32)) rfl (fun _ => aop_eqb rfl rfl rfl Try.underlying4) ?_
   refine ARH.dry (r := bl (r31 == r32)) rfl (fun _ => aop_move (.inl rfl) rfl) ?_
   refine ARH.keep [1, 5, 50] rfl ?_
   rcases Bool.eq_false_or_eq_true (r31 == r32) with hb33 | hb33
   ·rw [hb33]
    replace h := Sh.if_t h hb33
    refine ARH.dry rfl (fun _ => aop_field_pp rfl rfl fd32_0 (by decide)) ?_
    refine ARH.dry (r := G.api_Hist.av x_0.H) rfl (fun _ => aop_load_pp rfl rfl sz24 rfl) ?_
    refine ARH.dry rfl (fun _ => aop_field_pp rfl rfl fd32_1 (by decide)) ?_
    refine ARH.keep [1, 5, 50, 52, 53] rfl ?_
    refine ARH.dry (r := i64 x_0.Level) rfl (fun _ => aop_load_pp rfl rfl sz3 rfl) ?_
    refine ARH.dry rfl (fun _ => aop_field_pp rfl rfl fd32_2 (by decide)) ?_
    refine ARH.dry (r := .sl (List.map G.fact_Fact.av x_0.L)) rfl (fun _ => aop_load_pp rfl rfl sz25 rfl) ?_
    refine ARH.keep [1, 5, 50, 52, 54, 56] rfl ?_
    obtain ⟨r34, hr34, h⟩ := Sh.bind_some' h
    refine ARH.dry (r := bl r34) rfl (fun _ => aop_call1 rfl rfl (by simp) (fact_Replay_ok hT hr34)) ?_
    refine ARH.dry rfl (fun _ => aop_field_pp rfl rfl fd32_0 (by decide)) ?_
    refine ARH.dry (r := G.api_Hist.av x_0.H) rfl (fun _ => aop_load_pp rfl rfl sz24 rfl) ?_
    refine ARH.keep [1, 5, 50, 57, 59] rfl ?_
    refine ARH.dry rfl (fun _ => aop_field_pp rfl rfl fd32_1 (by decide)) ?_
    refine ARH.dry (r := i64 x_0.Level) rfl (fun _ => aop_load_pp rfl rfl sz3 rfl) ?_
    refine ARH.dry (r := .sl (List.map G.inquestref22_F.av r21)) rfl (fun _ => aop_move (.inl rfl) rfl) ?_
    refine ARH.keep [1, 5, 50, 57, 59, 61, 62] rfl ?_
    obtain ⟨r35, hr35, h⟩ := Sh.bind_some' h
    refine ARH.dry (r := bl r35) rfl (fun _ => aop_call1 rfl rfl (by simp) (inquestref22_Replay_ok hT hr35)) ?_
    refine ARH.dry (r := bl (r34 == r35)) rfl (fun _ => aop_eqb rfl rfl rfl Try.underlying4) ?_
    refine ARH.dry (r := bl (r34 == r35)) rfl (fun _ => aop_pick rfl rfl rfl) ?_
    refine ARH.keep [1, 5, 65] rfl ?_
    refine ARH.dry (r := bl (r34 == r35)) rfl (fun _ => aop_move (.inl rfl) rfl) ?_
    rcases Bool.eq_false_or_eq_true (r34 == r35) with hb36 | hb36
    ·rw [hb36]
     replace h := Sh.if_t h hb36
     refine ARH.dry rfl (fun _ => aop_field_pp rfl rfl fd32_2 (by decide)) ?_
     refine ARH.dry (r := .sl (List.map G.fact_Fact.av x_0.L)) rfl (fun _ => aop_load_pp rfl rfl sz25 rfl) ?_
     refine ARH.keep [5, 66, 68] rfl ?_
     obtain ⟨r37, hr37, h⟩ := Sh.bind_some' h
     refine ARH.dry (r := .sl (List.map G.api_Choice.av r37)) rfl (fun _ => aop_call1 rfl rfl (by simp) (fact_Choices_ok hT hr37)) ?_
     refine ARH.dry (r := .sl (List.map G.inquestref22_F.av r21)) rfl (fun _ => aop_move (.inl rfl) rfl) ?_
     obtain ⟨r38, hr38, h⟩ := Sh.bind_some' h
     refine ARH.dry (r := .sl (List.map G.api_Choice.av r38)) rfl (fun _ => aop_call1 rfl rfl (by simp) (inquestref22_Choices_ok hT hr38)) ?_
     refine ARH.keep [66, 69, 71] rfl ?_
     obtain ⟨r39, hr39, h⟩ := Sh.bind_some' h
     refine ARH.dry (r := bl r39) rfl (fun _ => aop_call1 rfl rfl (by simp) (inquestref09_Choices_ok hT hr39)) ?_
     refine ARH.dry (r := bl r39) rfl (fun _ => aop_pick rfl rfl rfl) ?_
     refine ARH.dry (r := bl r39) rfl (fun _ => aop_move (.inr rfl) rfl) ?_
     refine ARH.nil ?_
     refine hK12 _ (AWP.weak (Weak.kt [2] rfl) ?_)
     clear hK12 K12
     refine awp_ret ?_
     obtain rfl := Option.some.inj h
     refine ⟨.inr rfl, bl r39, rfl, ?_⟩
     exact Weak.re [] [] rfl rfl rfl (trivial) ⟨⟨_, rfl, .sm⟩, trivial⟩
    ·rw [hb36]
     replace h := Sh.if_f h hb36
     refine ARH.skip rfl ?_
     refine ARH.skip rfl ?_
     refine ARH.keep [5, 66, 68] rfl ?_
     refine ARH.skip rfl ?_
     refine ARH.skip rfl ?_
     refine ARH.skip rfl ?_
     refine ARH.keep [66, 69, 71] rfl ?_
     refine ARH.skip rfl ?_
     refine ARH.dry (r := bl false) rfl (fun _ => aop_pick rfl rfl rfl) ?_
     refine ARH.dry (r := bl false) rfl (fun _ => aop_move (.inr rfl) rfl) ?_
     refine ARH.nil ?_
     refine hK12 _ (AWP.weak (Weak.kt [2] rfl) ?_)
     clear hK12 K12
     refine awp_ret ?_
     obtain rfl := Option.some.inj h
     refine ⟨.inr rfl, bl false, rfl, ?_⟩
     exact Weak.re [] [] rfl rfl rfl (trivial) ⟨⟨_, rfl, .sm⟩, trivial⟩
   ·rw [hb33]
    replace h := Sh.if_f h hb33
    refine ARH.skip rfl ?_
    refine ARH.skip rfl ?_
    refine ARH.skip rfl ?_
    refine ARH.keep [1, 5, 50, 52, 53] rfl ?_
    refine ARH.skip rfl ?_
    refine ARH.skip rfl ?_
    refine ARH.skip rfl ?_
    refine ARH.keep [1, 5, 50, 52, 54, 56] rfl ?_
    refine ARH.skip rfl ?_
    refine ARH.skip rfl ?_
    refine ARH.skip rfl ?_
    refine ARH.keep [1, 5, 50, 57, 59] rfl ?_
    refine ARH.skip rfl ?_
    refine ARH.skip rfl ?_
    refine ARH.skip rfl ?_
    refine ARH.keep [1, 5, 50, 57, 59, 61, 62] rfl ?_
    refine ARH.skip rfl ?_
    refine ARH.skip rfl ?_
    refine ARH.dry (r := bl false) rfl (fun _ => aop_pick rfl rfl rfl) ?_
    refine ARH.keep [1, 5, 65] rfl ?_
    refine ARH.dry (r := bl false) rfl (fun _ => aop_move (.inl rfl) rfl) ?_
    refine ARH.skip rfl ?_
    refine ARH.skip rfl ?_
    refine ARH.keep [5, 66, 68] rfl ?_
    refine ARH.skip rfl ?_
    refine ARH.skip rfl ?_
    refine ARH.skip rfl ?_
    refine ARH.keep [66, 69, 71] rfl ?_
    refine ARH.skip rfl ?_
    refine ARH.dry (r := bl false) rfl (fun _ => aop_pick rfl rfl rfl) ?_
    refine ARH.dry (r := bl false) rfl (fun _ => aop_move (.inr rfl) rfl) ?_
    refine ARH.nil ?_
    refine hK12 _ (AWP.weak (Weak.kt [2] rfl) ?_)
    clear hK12 K12
    refine awp_ret ?_
    obtain rfl := Option.some.inj h
    refine ⟨.inr rfl, bl false, rfl, ?_⟩
    exact Weak.re [] [] rfl rfl rfl (trivial) ⟨⟨_, rfl, .sm⟩, trivial⟩
theorem inquestlaw22_FactTells_ok {W0 : World} (hT : Tab W0) {x_0 : G.inquestlaw22_Case} {r : Bool} (h : G.inquestlaw22_FactTells x_0 = some r) : Fun1 Try.prog W0 3 [G.inquestlaw22_Case.av x_0] (bl r) := Fun1.two (inquestlaw22_FactTells_ok0 hT h) (by simp)

end Wk
