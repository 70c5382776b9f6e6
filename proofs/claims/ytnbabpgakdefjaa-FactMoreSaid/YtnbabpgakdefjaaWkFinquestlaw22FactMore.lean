/- That a statement does what its plain function says. -/
import Derived.Test.YtnbabpgakdefjaaWkFinquestlaw22
open Go Go.Av Go.Proofs
set_option linter.unusedVariables false
set_option maxHeartbeats 8000000
set_option maxRecDepth 20000
namespace Wk
theorem inquestlaw22_FactMore_ok0 {W0 : World} (hT : Tab W0) {x_0 : G.inquestlaw22_Case} {g_1 : G.fact_Fact} {r : Bool} (h : G.inquestlaw22_FactMore x_0 g_1 = some r) : Fun2 Try.prog W0 5 [G.inquestlaw22_Case.av x_0, G.fact_Fact.av g_1] (bl r) .empty := by
 refine fun2_of_awp Try.func5 rfl (by kernel_rfl) Try.ntmps5 (by simp) ?_
 unfold G.inquestlaw22_FactMore at h
 show AWP _ _ _ _ ⟨[(0, G.inquestlaw22_Case.av x_0), (1, G.fact_Fact.av g_1)], .empty⟩ _
 refine awp_seqK fun K1 hK1 => ?_
 refine awp_reg rfl ?_
 refine AR.op (r := .ref 0 0 0) rfl (aop_box 10 [G.inquestlaw22_Case.av x_0] rfl rfl rfl (.inl ⟨rfl, rfl⟩)) ?_
 refine AR.op (r := .ref 1 0 0) rfl (aop_box 7 [G.fact_Fact.av g_1] rfl rfl rfl (.inl ⟨rfl, rfl⟩)) ?_
 refine AR.op (r := bl false) rfl (aop_move (.inr rfl) rfl) ?_
 refine AR.nil ?_
 refine hK1 _ (AWP.weak (Weak.re (fr' := [(2, .pp [.sl (List.map G.api_Txn.av x_0.H.Txns), i64 x_0.Level, .sl (List.map G.fact_Fact.av x_0.L), i64 x_0.F.C.Key, i64 x_0.F.C.A, i64 x_0.F.C.B, i64 x_0.F.Kind, i64 x_0.F.I, i64 x_0.F.J, .sl (List.map i64 x_0.F.Cycle)] 0), (3, .pp [i64 g_1.C.Key, i64 g_1.C.A, i64 g_1.C.B, i64 g_1.Kind, i64 g_1.I, i64 g_1.J, .sl (List.map i64 g_1.Cycle)] 0)]) (H' := .empty) [] [] rfl rfl rfl (trivial) ⟨⟨_, rfl, .frzA rfl rfl rfl rfl (by simp)⟩, ⟨_, rfl, .frzA rfl rfl rfl rfl (by simp)⟩, trivial⟩) ?_)
 clear hK1 K1
 refine awp_seqK fun K2 hK2 => ?_
 refine awp_reg rfl ?_
 obtain ⟨r32, hr32, h⟩ := Sh.bind_some' h
 refine AR.op (r := bl r32) rfl (aop_call1 rfl rfl (by simp) (inquestlaw22_awake_ok hT hr32)) ?_
 refine AR.op (r := bl r32) rfl (aop_move (.inr rfl) rfl) ?_
 refine AR.nil ?_
 refine hK2 _ (AWP.weak (Weak.kt [2, 3, 5] rfl) ?_)
 clear hK2 K2
 refine awp_seqK fun K3 hK3 => ?_
 refine awp_seqK fun K4 hK4 => ?_
 refine awp_reg rfl ?_
 refine AR.op (r := bl r32) rfl (aop_move (.inl rfl) rfl) ?_
 refine AR.op (r := bl (!r32)) rfl (aop_not rfl rfl) ?_
 refine AR.nil ?_
 refine hK4 _ (AWP.weak (Weak.kt [2, 3, 11] rfl) ?_)
 clear hK4 K4
 refine awp_cond rfl (fun hb33 => ?_) (fun hb33 => ?_)
 ·replace h := Sh.if_t h hb33
  refine awp_seqK fun K5 hK5 => ?_
  refine awp_reg rfl ?_
  refine AR.op (r := bl false) rfl (aop_move (.inr rfl) rfl) ?_
  refine AR.nil ?_
  refine hK5 _ (AWP.weak (Weak.kt [4] rfl) ?_)
  clear hK5 K5
  refine awp_ret ?_
  obtain rfl := Option.some.inj h
  refine ⟨.inr rfl, bl false, rfl, ?_⟩
  exact Weak.re [] [] rfl rfl rfl (trivial) ⟨⟨_, rfl, .sm⟩, trivial⟩
 ·replace h := Sh.if_f h hb33
  refine awp_skip ?_
  refine hK3 _ (AWP.weak (Weak.kt [2, 3] rfl) ?_)
  clear hK3 K3
  refine awp_seqK fun K6 hK6 => ?_
  refine awp_reg rfl ?_
  refine AR.op (r := G.inquestlaw22_Case.av x_0) rfl (aop_load_pp rfl rfl sz32 rfl) ?_
  obtain ⟨r35, hr35, h⟩ := Sh.bind_some' h
  refine AR.op (r := bl r35) rfl (aop_call1 rfl rfl (by simp) (inquestlaw22_few_ok hT hr35)) ?_
  refine AR.op (r := bl r35) rfl (aop_move (.inr rfl) rfl) ?_
  refine AR.nil ?_
  refine hK6 _ (AWP.weak (Weak.kt [2, 3, 6] rfl) ?_)
  clear hK6 K6
  refine awp_seqK fun K7 hK7 => ?_
  refine awp_seqK fun K8 hK8 => ?_
  refine awp_reg rfl ?_
  refine AR.op (r := bl r35) rfl (aop_move (.inl rfl) rfl) ?_
  refine AR.op (r := bl (!r35)) rfl (aop_not rfl rfl) ?_
  refine AR.nil ?_
  refine hK8 _ (AWP.weak (Weak.kt [2, 3, 15] rfl) ?_)
  clear hK8 K8
  refine awp_cond rfl (fun hb36 => ?_) (fun hb36 => ?_)
  ·replace h := Sh.if_t h hb36
   refine awp_seqK fun K9 hK9 => ?_
   refine awp_reg rfl ?_
   refine AR.op (r := bl true) rfl (aop_move (.inr rfl) rfl) ?_
   refine AR.nil ?_
   refine hK9 _ (AWP.weak (Weak.kt [4] rfl) ?_)
   clear hK9 K9
   refine awp_ret ?_
   obtain rfl := Option.some.inj h
   refine ⟨.inr rfl, bl true, rfl, ?_⟩
   exact Weak.re [] [] rfl rfl rfl (trivial) ⟨⟨_, rfl, .sm⟩, trivial⟩
  ·replace h := Sh.if_f h hb36
   refine awp_skip ?_
   refine hK7 _ (AWP.weak (Weak.kt [2, 3] rfl) ?_)
   clear hK7 K7
   refine awp_seqK fun K10 hK10 => ?_
   refine awp_reg rfl ?_
   refine AR.op (r := nilS) rfl (aop_move (.inr rfl) rfl) ?_
   refine AR.nil ?_
   refine hK10 _ ?_
   clear hK10 K10
   refine awp_seqK fun K11 hK11 => ?_
   refine awp_reg rfl ?_
   refine AR.op (r := nilS) rfl (aop_move (.inl rfl) rfl) ?_
   refine AR.op rfl (aop_field_pp rfl rfl fd32_2 (by decide)) ?_
   refine AR.op (r := .sl (List.map G.fact_Fact.av x_0.L)) rfl (aop_load_pp rfl rfl sz25 rfl) ?_
   refine AR.keep [2, 3, 16, 18] rfl ?_
   obtain ⟨more38, hmore38, h⟩ := Sh.bind_some' h
   refine AR.op (r := .view 0 0 (List.map G.fact_Fact.av more38).length) rfl (t_app_nil G.fact_Fact.av x_0.L more38 hmore38 et25 (fun _ => rfl) rfl rfl rfl rfl rfl) ?_
   refine AR.op (r := .view 0 0 (List.map G.fact_Fact.av more38).length) rfl (aop_move (.inr rfl) rfl) ?_
   refine AR.nil ?_
   refine hK11 _ (AWP.weak (Weak.re (fr' := [(2, .pp [.sl (List.map G.api_Txn.av x_0.H.Txns), i64 x_0.Level, .sl (List.map G.fact_Fact.av x_0.L), i64 x_0.F.C.Key, i64 x_0.F.C.A, i64 x_0.F.C.B, i64 x_0.F.Kind, i64 x_0.F.I, i64 x_0.F.J, .sl (List.map i64 x_0.F.Cycle)] 0), (3, .pp [i64 g_1.C.Key, i64 g_1.C.A, i64 g_1.C.B, i64 g_1.Kind, i64 g_1.I, i64 g_1.J, .sl (List.map i64 g_1.Cycle)] 0), (7, .view 0 0 (List.map G.fact_Fact.av more38).length)]) (H' := ⟨1, [(0, (7, List.map G.fact_Fact.av more38))], []⟩) [(0, 0)] [] rfl rfl rfl (.cons rfl rfl (.same (by simp)) (of_decide_eq_true rfl) (trivial)) ⟨⟨_, rfl, .sm⟩, ⟨_, rfl, .sm⟩, ⟨_, rfl, .view rfl⟩, trivial⟩) ?_)
   clear hK11 K11
   refine awp_seqK fun K12 hK12 => ?_
   refine awp_reg rfl ?_
   refine AR.op (r := .view 0 0 (List.map G.fact_Fact.av more38).length) rfl (aop_move (.inl rfl) rfl) ?_
   refine AR.op (r := G.fact_Fact.av g_1) rfl (aop_load_pp rfl rfl sz30 rfl) ?_
   refine AR.op (r := .clip (List.map G.fact_Fact.av ([g_1] : List G.fact_Fact))) rfl (aop_buildSlice rfl (xo := [.tmp 21]) rfl rfl rfl (by simp) (by simp) el25 ze25 (by decide)) ?_
   refine AR.keep [2, 3, 20, 22] rfl ?_
   obtain ⟨more40, hmore40, h⟩ := Sh.bind_some' h
   refine AR.op (r := .view 1 0 (List.map G.fact_Fact.av more40).length) rfl (t_app_view G.fact_Fact.av more38 ([g_1] : List G.fact_Fact) more40 hmore40 rfl et25 (fun _ => rfl) rfl rfl rfl rfl rfl rfl rfl) ?_
   refine AR.op (r := .view 1 0 (List.map G.fact_Fact.av more40).length) rfl (aop_move (.inr rfl) rfl) ?_
   refine AR.nil ?_
   refine hK12 _ (AWP.weak (Weak.re (fr' := [(2, .pp [.sl (List.map G.api_Txn.av x_0.H.Txns), i64 x_0.Level, .sl (List.map G.fact_Fact.av x_0.L), i64 x_0.F.C.Key, i64 x_0.F.C.A, i64 x_0.F.C.B, i64 x_0.F.Kind, i64 x_0.F.I, i64 x_0.F.J, .sl (List.map i64 x_0.F.Cycle)] 0), (3, .pp [i64 g_1.C.Key, i64 g_1.C.A, i64 g_1.C.B, i64 g_1.Kind, i64 g_1.I, i64 g_1.J, .sl (List.map i64 g_1.Cycle)] 0), (7, .sl (List.map G.fact_Fact.av more40))]) (H' := .empty) [] [] rfl rfl rfl (trivial) ⟨⟨_, rfl, .sm⟩, ⟨_, rfl, .sm⟩, ⟨_, rfl, .lendAll rfl rfl (by simp)⟩, trivial⟩) ?_)
   clear hK12 K12
   refine awp_seqK fun K13 hK13 => ?_
   refine awp_seqJ (fun (p : Bool) => (⟨[(2, .pp [.sl (List.map G.api_Txn.av x_0.H.Txns), i64 x_0.Level, .sl (List.map G.fact_Fact.av x_0.L), i64 x_0.F.C.Key, i64 x_0.F.C.A, i64 x_0.F.C.B, i64 x_0.F.Kind, i64 x_0.F.I, i64 x_0.F.J, .sl (List.map i64 x_0.F.Cycle)] 0), (3, .pp [i64 g_1.C.Key, i64 g_1.C.A, i64 g_1.C.B, i64 g_1.Kind, i64 g_1.I, i64 g_1.J, .sl (List.map i64 g_1.Cycle)] 0), (7, .sl (List.map G.fact_Fact.av more40)), (43, bl p)], .empty⟩ : St)) (fun (p : Bool) => G.inquestlaw22_FactMore_j1 x_0 g_1 more40 p = some r) ?_ ?_
   ·rintro v48 h
    replace h : G.inquestlaw22_FactMore_j1 x_0 g_1 more40 v48 = some r := h
    unfold G.inquestlaw22_FactMore_j1 at h
    show AWP _ _ _ _ ⟨[(2, .pp [.sl (List.map G.api_Txn.av x_0.H.Txns), i64 x_0.Level, .sl (List.map G.fact_Fact.av x_0.L), i64 x_0.F.C.Key, i64 x_0.F.C.A, i64 x_0.F.C.B, i64 x_0.F.Kind, i64 x_0.F.I, i64 x_0.F.J, .sl (List.map i64 x_0.F.Cycle)] 0), (3, .pp [i64 g_1.C.Key, i64 g_1.C.A, i64 g_1.C.B, i64 g_1.Kind, i64 g_1.I, i64 g_1.J, .sl (List.map i64 g_1.Cycle)] 0), (7, .sl (List.map G.fact_Fact.av more40)), (43, bl v48)], .empty⟩ _
    refine awp_cond rfl (fun hb49 => ?_) (fun hb49 => ?_)
    ·replace h := Sh.if_t h hb49
     refine awp_seqK fun K14 hK14 => ?_
     refine awp_reg rfl ?_
     refine AR.op (r := bl false) rfl (aop_move (.inr rfl) rfl) ?_
     refine AR.nil ?_
     refine hK14 _ (AWP.weak (Weak.kt [4] rfl) ?_)
     clear hK14 K14
     refine awp_ret ?_
     obtain rfl := Option.some.inj h
     refine ⟨.inr rfl, bl false, rfl, ?_⟩
     exact Weak.re [] [] rfl rfl rfl (trivial) ⟨⟨_, rfl, .sm⟩, trivial⟩
    ·replace h := Sh.if_f h hb49
     refine awp_skip ?_
     refine hK13 _ (AWP.weak (Weak.kt [2, 3, 7] rfl) ?_)
     clear hK13 K13
     refine awp_seqK fun K15 hK15 => ?_
     refine awp_seqJ (fun (p : Bool) => (⟨[(2, .pp [.sl (List.map G.api_Txn.av x_0.H.Txns), i64 x_0.Level, .sl (List.map G.fact_Fact.av x_0.L), i64 x_0.F.C.Key, i64 x_0.F.C.A, i64 x_0.F.C.B, i64 x_0.F.Kind, i64 x_0.F.I, i64 x_0.F.J, .sl (List.map i64 x_0.F.Cycle)] 0), (67, bl p)], .empty⟩ : St)) (fun (p : Bool) => G.inquestlaw22_FactMore_j2 x_0 p = some r) ?_ ?_
     ·rintro v59 h
      replace h : G.inquestlaw22_FactMore_j2 x_0 v59 = some r := h
      unfold G.inquestlaw22_FactMore_j2 at h
      show AWP _ _ _ _ ⟨[(2, .pp [.sl (List.map G.api_Txn.av x_0.H.Txns), i64 x_0.Level, .sl (List.map G.fact_Fact.av x_0.L), i64 x_0.F.C.Key, i64 x_0.F.C.A, i64 x_0.F.C.B, i64 x_0.F.Kind, i64 x_0.F.I, i64 x_0.F.J, .sl (List.map i64 x_0.F.Cycle)] 0), (67, bl v59)], .empty⟩ _
      refine awp_cond rfl (fun hb60 => ?_) (fun hb60 => ?_)
      ·replace h := Sh.if_t h hb60
       refine awp_seqK fun K16 hK16 => ?_
       refine awp_reg rfl ?_
       refine AR.op (r := bl false) rfl (aop_move (.inr rfl) rfl) ?_
       refine AR.nil ?_
       refine hK16 _ (AWP.weak (Weak.kt [4] rfl) ?_)
       clear hK16 K16
       refine awp_ret ?_
       obtain rfl := Option.some.inj h
       refine ⟨.inr rfl, bl false, rfl, ?_⟩
       exact Weak.re [] [] rfl rfl rfl (trivial) ⟨⟨_, rfl, .sm⟩, trivial⟩
      ·replace h := Sh.if_f h hb60
       refine awp_skip ?_
       refine hK15 _ (AWP.weak (Weak.kt [2] rfl) ?_)
       clear hK15 K15
       refine awp_seqJ (fun (p : Unit) => (⟨[], .empty⟩ : St)) (fun (p : Unit) => G.inquestlaw22_FactMore_j3 = some r) ?_ ?_
       ·rintro ⟨⟩ h
        replace h : G.inquestlaw22_FactMore_j3 = some r := h
        unfold G.inquestlaw22_FactMore_j3 at h
        show AWP _ _ _ _ ⟨[], .empty⟩ _
        refine awp_seqK fun K17 hK17 => ?_
        refine awp_reg rfl ?_
        refine AR.op (r := bl true) rfl (aop_move (.inr rfl) rfl) ?_
        refine AR.nil ?_
        refine hK17 _ ?_
        clear hK17 K17
        refine awp_ret ?_
        obtain rfl := Option.some.inj h
        refine ⟨.inr rfl, bl true, rfl, ?_⟩
        exact Weak.re [] [] rfl rfl rfl (trivial) ⟨⟨_, rfl, .sm⟩, trivial⟩
       ·intro K18 hK18
        refine awp_seqK fun K19 hK19 => ?_
        refine awp_reg rfl ?_
        refine AR.op (r := i64 0) rfl (aop_move (.inr rfl) rfl) ?_
        refine AR.nil ?_
        refine hK19 _ ?_
        clear hK19 K19
        refine awp_block ?_
        refine awp_iter (fun (p : Int) => G.inquestlaw22_FactMore_b1 x_0 p) (fun (p : Int) => (⟨[(2, .pp [.sl (List.map G.api_Txn.av x_0.H.Txns), i64 x_0.Level, .sl (List.map G.fact_Fact.av x_0.L), i64 x_0.F.C.Key, i64 x_0.F.C.A, i64 x_0.F.C.B, i64 x_0.F.Kind, i64 x_0.F.I, i64 x_0.F.J, .sl (List.map i64 x_0.F.Cycle)] 0), (8, i64 p)], .empty⟩ : St)) h (Weak.kt [2, 8] rfl) ?_
        ·skip
         rintro i89 o1 h hx1
         replace h : G.inquestlaw22_FactMore_b1 x_0 i89 = some o1 := h
         unfold G.inquestlaw22_FactMore_b1 at h
         show AWP _ _ _ _ ⟨[(2, .pp [.sl (List.map G.api_Txn.av x_0.H.Txns), i64 x_0.Level, .sl (List.map G.fact_Fact.av x_0.L), i64 x_0.F.C.Key, i64 x_0.F.C.A, i64 x_0.F.C.B, i64 x_0.F.Kind, i64 x_0.F.I, i64 x_0.F.J, .sl (List.map i64 x_0.F.Cycle)] 0), (8, i64 i89)], .empty⟩ _
         refine awp_seqK fun K20 hK20 => ?_
         refine awp_seqK fun K21 hK21 => ?_
         refine awp_reg rfl ?_
         refine AR.op (r := i64 i89) rfl (aop_move (.inl rfl) rfl) ?_
         refine AR.op rfl (aop_field_pp rfl rfl fd32_2 (by decide)) ?_
         refine AR.op (r := .sl (List.map G.fact_Fact.av x_0.L)) rfl (aop_load_pp rfl rfl sz25 rfl) ?_
         refine AR.keep [2, 8, 68, 70] rfl ?_
         refine AR.op (r := i64 (Sh.len x_0.L)) rfl (t_len_sl G.fact_Fact.av x_0.L rfl rfl el25) ?_
         refine AR.op (r := bl (decide (i89 < (Sh.len x_0.L)))) rfl (aop_lss rfl rfl rfl) ?_
         refine AR.nil ?_
         refine hK21 _ (AWP.weak (Weak.kt [2, 8, 72] rfl) ?_)
         clear hK21 K21
         refine awp_cond rfl (fun hb90 => ?_) (fun hb90 => ?_)
         ·replace h := Sh.if_t h hb90
          refine awp_skip ?_
          refine hK20 _ (AWP.weak (Weak.kt [2, 8] rfl) ?_)
          clear hK20 K20
          refine awp_seqK fun K22 hK22 => ?_
          refine awp_block ?_
          refine awp_seqJ (fun (p : Bool) => (⟨[(2, .pp [.sl (List.map G.api_Txn.av x_0.H.Txns), i64 x_0.Level, .sl (List.map G.fact_Fact.av x_0.L), i64 x_0.F.C.Key, i64 x_0.F.C.A, i64 x_0.F.C.B, i64 x_0.F.Kind, i64 x_0.F.I, i64 x_0.F.J, .sl (List.map i64 x_0.F.Cycle)] 0), (8, i64 i89), (93, bl p)], .empty⟩ : St)) (fun (p : Bool) => G.inquestlaw22_FactMore_j4 i89 p = some o1) ?_ ?_
          ·rintro v100 h
           replace h : G.inquestlaw22_FactMore_j4 i89 v100 = some o1 := h
           unfold G.inquestlaw22_FactMore_j4 at h
           show AWP _ _ _ _ ⟨[(2, .pp [.sl (List.map G.api_Txn.av x_0.H.Txns), i64 x_0.Level, .sl (List.map G.fact_Fact.av x_0.L), i64 x_0.F.C.Key, i64 x_0.F.C.A, i64 x_0.F.C.B, i64 x_0.F.Kind, i64 x_0.F.I, i64 x_0.F.J, .sl (List.map i64 x_0.F.Cycle)] 0), (8, i64 i89), (93, bl v100)], .empty⟩ _
           refine awp_cond rfl (fun hb101 => ?_) (fun hb101 => ?_)
           ·replace h := Sh.if_t h hb101
            refine awp_seqK fun K23 hK23 => ?_
            refine awp_reg rfl ?_
            refine AR.op (r := bl false) rfl (aop_move (.inr rfl) rfl) ?_
            refine AR.nil ?_
            refine hK23 _ (AWP.weak (Weak.kt [4] rfl) ?_)
            clear hK23 K23
            refine awp_ret ?_
            replace h := Sh.exit_eq h hx1
            obtain rfl := Option.some.inj h
            refine ⟨.inr rfl, bl false, rfl, ?_⟩
            exact Weak.re [] [] rfl rfl rfl (trivial) ⟨⟨_, rfl, .sm⟩, trivial⟩
           ·replace h := Sh.if_f h hb101
            refine awp_skip ?_
            refine hK22 _ (AWP.weak (Weak.kt [2, 8] rfl) ?_)
            clear hK22 K22
            refine awp_reg rfl ?_
            refine AR.op (r := i64 i89) rfl (aop_move (.inl rfl) rfl) ?_
            refine AR.op (r := i64 (w64 (i89 + 1))) rfl (aop_add rfl rfl rfl rfl) ?_
            refine AR.op (r := i64 (w64 (i89 + 1))) rfl (aop_move (.inr rfl) rfl) ?_
            refine AR.nil ?_
            replace h := Sh.next_eq h
            exact ⟨_, h, Weak.re (fr' := [(2, .pp [.sl (List.map G.api_Txn.av x_0.H.Txns), i64 x_0.Level, .sl (List.map G.fact_Fact.av x_0.L), i64 x_0.F.C.Key, i64 x_0.F.C.A, i64 x_0.F.C.B, i64 x_0.F.Kind, i64 x_0.F.I, i64 x_0.F.J, .sl (List.map i64 x_0.F.Cycle)] 0), (8, i64 (w64 (i89 + 1)))]) (H' := .empty) [] [] rfl rfl rfl (trivial) ⟨⟨_, rfl, .sm⟩, ⟨_, rfl, .sm⟩, trivial⟩⟩
          ·intro K24 hK24
           refine awp_any [(true, false), (true, false), (true, false), (true, false), (true, false), (true, false), (true, false), (true, false), (true, false), (true, false), (true, false), (true, false), (true, false), (true, false), (true, false), (true, false), (true, false), (true, false), (true, false)] (by kernel_rfl) (by kernel_rfl) rfl ?_
           refine ARH.dry rfl (fun _ => aop_field_pp rfl rfl fd32_0 (by decide)) ?_
           refine ARH.dry (r := G.api_Hist.av x_0.H) rfl (fun _ => aop_load_pp rfl rfl sz24 rfl) ?_
           refine ARH.dry rfl (fun _ => aop_field_pp rfl rfl fd32_1 (by decide)) ?_
           refine ARH.keep [2, 8, 76, 77] rfl ?_
           refine ARH.dry (r := i64 x_0.Level) rfl (fun _ => aop_load_pp rfl rfl sz3 rfl) ?_
           refine ARH.dry rfl (fun _ => aop_field_pp rfl rfl fd32_2 (by decide)) ?_
           refine ARH.dry (r := .sl (List.map G.fact_Fact.av x_0.L)) rfl (fun _ => aop_load_pp rfl rfl sz25 rfl) ?_
           refine ARH.keep [2, 8, 76, 78, 80] rfl ?_
           obtain ⟨r102, hr102, h⟩ := Sh.bind_some' h
           refine ARH.dry (r := bl r102) rfl (fun _ => aop_call1 rfl rfl (by simp) (fact_Replay_ok hT hr102)) ?_
           refine ARH.dry (r := bl r102) rfl (fun _ => aop_move (.inl rfl) rfl) ?_
           rcases Bool.eq_false_or_eq_true (r102) with hb103 | hb103
           ·rw [hb103]
            replace h := Sh.if_t h hb103
            refine ARH.dry rfl (fun _ => aop_field_pp rfl rfl fd32_0 (by decide)) ?_
            refine ARH.keep [2, 8, 82, 83] rfl ?_
            refine ARH.dry (r := G.api_Hist.av x_0.H) rfl (fun _ => aop_load_pp rfl rfl sz24 rfl) ?_
            refine ARH.dry rfl (fun _ => aop_field_pp rfl rfl fd32_1 (by decide)) ?_
            refine ARH.dry (r := i64 x_0.Level) rfl (fun _ => aop_load_pp rfl rfl sz3 rfl) ?_
            refine ARH.keep [2, 8, 82, 83, 84, 85, 86] rfl ?_
            refine ARH.dry rfl (fun _ => aop_field_pp rfl rfl fd32_2 (by decide)) ?_
            refine ARH.dry (r := .sl (List.map G.fact_Fact.av x_0.L)) rfl (fun _ => aop_load_pp rfl rfl sz25 rfl) ?_
            refine ARH.dry (r := i64 i89) rfl (fun _ => aop_move (.inl rfl) rfl) ?_
            refine ARH.keep [2, 8, 82, 83, 84, 85, 86, 87, 88, 89] rfl ?_
            obtain ⟨part104, hpart104, h⟩ := Sh.bind_some' h
            refine ARH.dry (r := .sl (List.map G.fact_Fact.av part104)) rfl (fun _ => t_sub G.fact_Fact.av x_0.L part104 hpart104 (fun _ => rfl) rfl rfl (.inl rfl) (.inl ⟨rfl, rfl⟩) (.inr ⟨_, _, rfl, rfl⟩) el25) ?_
            obtain ⟨r105, hr105, h⟩ := Sh.bind_some' h
            refine ARH.dry (r := bl r105) rfl (fun _ => aop_call1 rfl rfl (by simp) (fact_Replay_ok hT hr105)) ?_
            refine ARH.dry (r := bl (!r105)) rfl (fun _ => aop_not rfl rfl) ?_
            refine ARH.keep [2, 8, 82, 83, 84, 85, 86, 87, 88, 89, 90, 91, 92] rfl ?_
            refine ARH.dry (r := bl (!r105)) rfl (fun _ => aop_pick rfl rfl rfl) ?_
            refine ARH.nil ?_
            exact hK24 (!r105) _ h (Weak.re (fr' := [(2, .pp [.sl (List.map G.api_Txn.av x_0.H.Txns), i64 x_0.Level, .sl (List.map G.fact_Fact.av x_0.L), i64 x_0.F.C.Key, i64 x_0.F.C.A, i64 x_0.F.C.B, i64 x_0.F.Kind, i64 x_0.F.I, i64 x_0.F.J, .sl (List.map i64 x_0.F.Cycle)] 0), (8, i64 i89), (93, bl (!r105))]) (H' := .empty) [] [] rfl rfl rfl (trivial) ⟨⟨_, rfl, .sm⟩, ⟨_, rfl, .sm⟩, ⟨_, rfl, .sm⟩, trivial⟩)
           ·rw [hb103]
            replace h := Sh.if_f h hb103
            refine ARH.skip rfl ?_
            refine ARH.keep [2, 8, 82, 83] rfl ?_
            refine ARH.skip rfl ?_
            refine ARH.skip rfl ?_
            refine ARH.skip rfl ?_
            refine ARH.keep [2, 8, 82, 83, 84, 85, 86] rfl ?_
            refine ARH.skip rfl ?_
            refine ARH.skip rfl ?_
            refine ARH.skip rfl ?_
            refine ARH.keep [2, 8, 82, 83, 84, 85, 86, 87, 88, 89] rfl ?_
            refine ARH.skip rfl ?_
            refine ARH.skip rfl ?_
            refine ARH.skip rfl ?_
            refine ARH.keep [2, 8, 82, 83, 84, 85, 86, 87, 88, 89, 90, 91, 92] rfl ?_
            refine ARH.dry (r := bl false) rfl (fun _ => aop_pick rfl rfl rfl) ?_
            refine ARH.nil ?_
            exact hK24 false _ h (Weak.kt [2, 8, 93] rfl)
         ·replace h := Sh.if_f h hb90
          refine awp_exit ?_
          replace h := Sh.exit_eq h hx1
          exact hK18 () _ h (Weak.kt [] rfl)
     ·intro K25 hK25
      refine awp_any [(true, false), (true, false), (true, false), (true, false), (true, false), (true, false), (true, false), (true, false), (true, false), (true, false), (true, false), (true, false), (true, false), (true, false), (true, false), (true, false), (true, false), (true, false), (true, false), (true, false), (true, false), (true, false), (true, false), (true, false)] (by kernel_rfl) (by kernel_rfl) rfl ?_
      refine ARH.dry rfl (fun _ => aop_field_pp rfl rfl fd32_0 (by decide)) ?_
      refine ARH.dry (r := G.api_Hist.av x_0.H) rfl (fun _ => aop_load_pp rfl rfl sz24 rfl) ?_
      refine ARH.dry rfl (fun _ => aop_field_pp rfl rfl fd32_1 (by decide)) ?_
      refine ARH.keep [2, 3, 7, 45, 46] rfl ?_
      refine ARH.dry (r := i64 x_0.Level) rfl (fun _ => aop_load_pp rfl rfl sz3 rfl) ?_
      refine ARH.dry (r := .sl (List.map G.fact_Fact.av more40)) rfl (fun _ => aop_move (.inl rfl) rfl) ?_
      obtain ⟨r106, hr106, h⟩ := Sh.bind_some' h
      refine ARH.dry (r := bl r106) rfl (fun _ => aop_call1 rfl rfl (by simp) (fact_Replay_ok hT hr106)) ?_
      refine ARH.keep [2, 3, 49] rfl ?_
      refine ARH.dry rfl (fun _ => aop_field_pp rfl rfl fd32_0 (by decide)) ?_
      refine ARH.dry (r := G.api_Hist.av x_0.H) rfl (fun _ => aop_load_pp rfl rfl sz24 rfl) ?_
      refine ARH.dry rfl (fun _ => aop_field_pp rfl rfl fd32_1 (by decide)) ?_
      refine ARH.keep [2, 3, 49, 51, 52] rfl ?_
      refine ARH.dry (r := i64 x_0.Level) rfl (fun _ => aop_load_pp rfl rfl sz3 rfl) ?_
      refine ARH.dry rfl (fun _ => aop_field_pp rfl rfl fd32_2 (by decide)) ?_
      refine ARH.dry (r := .sl (List.map G.fact_Fact.av x_0.L)) rfl (fun _ => aop_load_pp rfl rfl sz25 rfl) ?_
      refine ARH.keep [2, 3, 49, 51, 53, 55] rfl ?_
      obtain ⟨r107, hr107, h⟩ := Sh.bind_some' h
      refine ARH.dry (r := bl r107) rfl (fun _ => aop_call1 rfl rfl (by simp) (fact_Replay_ok hT hr107)) ?_
      refine ARH.dry (r := bl r107) rfl (fun _ => aop_move (.inl rfl) rfl) ?_
      rcases Bool.eq_false_or_eq_true (r107) with hb108 | hb108
      ·rw [hb108]
       replace h := Sh.if_t h hb108
       refine ARH.dry rfl (fun _ => aop_field_pp rfl rfl fd32_0 (by decide)) ?_
       refine ARH.keep [2, 3, 49, 57, 58] rfl ?_
       refine ARH.dry (r := G.api_Hist.av x_0.H) rfl (fun _ => aop_load_pp rfl rfl sz24 rfl) ?_
       refine ARH.dry rfl (fun _ => aop_field_pp rfl rfl fd32_1 (by decide)) ?_
       refine ARH.dry (r := i64 x_0.Level) rfl (fun _ => aop_load_pp rfl rfl sz3 rfl) ?_
       refine ARH.keep [2, 3, 49, 57, 59, 61] rfl ?_
       refine ARH.dry rfl (fun _ => aop_field_pp rfl rfl fd32_2 (by decide)) ?_
       refine ARH.dry (r := .sl (List.map G.fact_Fact.av x_0.L)) rfl (fun _ => aop_load_pp rfl rfl sz25 rfl) ?_
       refine ARH.dry (r := G.fact_Fact.av g_1) rfl (fun _ => aop_load_pp rfl rfl sz30 rfl) ?_
       refine ARH.keep [2, 49, 57, 59, 61, 63, 64] rfl ?_
       obtain ⟨r109, hr109, h⟩ := Sh.bind_some' h
       refine ARH.dry (r := bl r109) rfl (fun _ => aop_call1 rfl rfl (by simp) (fact_Holds_ok hT hr109)) ?_
       refine ARH.dry (r := bl r109) rfl (fun _ => aop_pick rfl rfl rfl) ?_
       refine ARH.dry (r := bl (!(r106 == r109))) rfl (fun _ => aop_neb rfl rfl rfl Try.underlying4) ?_
       refine ARH.nil ?_
       exact hK25 (!(r106 == r109)) _ h (Weak.re (fr' := [(2, .pp [.sl (List.map G.api_Txn.av x_0.H.Txns), i64 x_0.Level, .sl (List.map G.fact_Fact.av x_0.L), i64 x_0.F.C.Key, i64 x_0.F.C.A, i64 x_0.F.C.B, i64 x_0.F.Kind, i64 x_0.F.I, i64 x_0.F.J, .sl (List.map i64 x_0.F.Cycle)] 0), (67, bl (!(r106 == r109)))]) (H' := .empty) [] [] rfl rfl rfl (trivial) ⟨⟨_, rfl, .sm⟩, ⟨_, rfl, .sm⟩, trivial⟩)
      ·rw [hb108]
       replace h := Sh.if_f h hb108
       refine ARH.skip rfl ?_
       refine ARH.keep [2, 3, 49, 57, 58] rfl ?_
       refine ARH.skip rfl ?_
       refine ARH.skip rfl ?_
       refine ARH.skip rfl ?_
       refine ARH.keep [2, 3, 49, 57, 59, 61] rfl ?_
       refine ARH.skip rfl ?_
       refine ARH.skip rfl ?_
       refine ARH.skip rfl ?_
       refine ARH.keep [2, 49, 57, 59, 61, 63, 64] rfl ?_
       refine ARH.skip rfl ?_
       refine ARH.dry (r := bl false) rfl (fun _ => aop_pick rfl rfl rfl) ?_
       refine ARH.dry (r := bl (!(r106 == false))) rfl (fun _ => aop_neb rfl rfl rfl Try.underlying4) ?_
       refine ARH.nil ?_
       exact hK25 (!(r106 == false)) _ h (Weak.re (fr' := [(2, .pp [.sl (List.map G.api_Txn.av x_0.H.Txns), i64 x_0.Level, .sl (List.map G.fact_Fact.av x_0.L), i64 x_0.F.C.Key, i64 x_0.F.C.A, i64 x_0.F.C.B, i64 x_0.F.Kind, i64 x_0.F.I, i64 x_0.F.J, .sl (List.map i64 x_0.F.Cycle)] 0), (67, bl (!(r106 == false)))]) (H' := .empty) [] [] rfl rfl rfl (trivial) ⟨⟨_, rfl, .sm⟩, ⟨_, rfl, .sm⟩, trivial⟩)
   ·intro K26 hK26
    refine awp_reg rfl ?_
    refine AR.op rfl (aop_field_pp rfl rfl fd32_0 (by decide)) ?_
    refine AR.op (r := G.api_Hist.av x_0.H) rfl (aop_load_pp rfl rfl sz24 rfl) ?_
    refine AR.op rfl (aop_field_pp rfl rfl fd32_1 (by decide)) ?_
    refine AR.keep [2, 3, 7, 25, 26] rfl ?_
    refine AR.op (r := i64 x_0.Level) rfl (aop_load_pp rfl rfl sz3 rfl) ?_
    refine AR.op rfl (aop_field_pp rfl rfl fd32_2 (by decide)) ?_
    refine AR.op (r := .sl (List.map G.fact_Fact.av x_0.L)) rfl (aop_load_pp rfl rfl sz25 rfl) ?_
    refine AR.keep [2, 3, 7, 25, 27, 29] rfl ?_
    refine AR.op rfl (aop_field_pp rfl rfl fd32_3 (by decide)) ?_
    refine AR.op (r := G.fact_Fact.av x_0.F) rfl (aop_load_pp rfl rfl sz30 rfl) ?_
    obtain ⟨r110, hr110, h⟩ := Sh.bind_some' h
    refine AR.op (r := bl r110) rfl (aop_call1 rfl rfl (by simp) (fact_Holds_ok hT hr110)) ?_
    refine AR.keep [2, 3, 7, 32] rfl ?_
    refine AR.op (r := bl r110) rfl (aop_move (.inl rfl) rfl) ?_
    rcases Bool.eq_false_or_eq_true (r110) with hb111 | hb111
    ·rw [hb111]
     replace h := Sh.if_t h hb111
     refine AR.op rfl (aop_field_pp rfl rfl fd32_0 (by decide)) ?_
     refine AR.op (r := G.api_Hist.av x_0.H) rfl (aop_load_pp rfl rfl sz24 rfl) ?_
     refine AR.keep [2, 3, 7, 33, 35] rfl ?_
     refine AR.op rfl (aop_field_pp rfl rfl fd32_1 (by decide)) ?_
     refine AR.op (r := i64 x_0.Level) rfl (aop_load_pp rfl rfl sz3 rfl) ?_
     refine AR.op (r := .sl (List.map G.fact_Fact.av more40)) rfl (aop_move (.inl rfl) rfl) ?_
     refine AR.keep [2, 3, 7, 33, 35, 37, 38] rfl ?_
     refine AR.op rfl (aop_field_pp rfl rfl fd32_3 (by decide)) ?_
     refine AR.op (r := G.fact_Fact.av x_0.F) rfl (aop_load_pp rfl rfl sz30 rfl) ?_
     obtain ⟨r112, hr112, h⟩ := Sh.bind_some' h
     refine AR.op (r := bl r112) rfl (aop_call1 rfl rfl (by simp) (fact_Holds_ok hT hr112)) ?_
     refine AR.keep [2, 3, 7, 33, 41] rfl ?_
     refine AR.op (r := bl (!r112)) rfl (aop_not rfl rfl) ?_
     refine AR.op (r := bl (!r112)) rfl (aop_pick rfl rfl rfl) ?_
     refine AR.nil ?_
     exact hK26 (!r112) _ h (Weak.re (fr' := [(2, .pp [.sl (List.map G.api_Txn.av x_0.H.Txns), i64 x_0.Level, .sl (List.map G.fact_Fact.av x_0.L), i64 x_0.F.C.Key, i64 x_0.F.C.A, i64 x_0.F.C.B, i64 x_0.F.Kind, i64 x_0.F.I, i64 x_0.F.J, .sl (List.map i64 x_0.F.Cycle)] 0), (3, .pp [i64 g_1.C.Key, i64 g_1.C.A, i64 g_1.C.B, i64 g_1.Kind, i64 g_1.I, i64 g_1.J, .sl (List.map i64 g_1.Cycle)] 0), (7, .sl (List.map G.fact_Fact.av more40)), (43, bl (!r112))]) (H' := .empty) [] [] rfl rfl rfl (trivial) ⟨⟨_, rfl, .sm⟩, ⟨_, rfl, .sm⟩, ⟨.sl (List.map G.fact_Fact.av more40), rfl, .sm⟩, ⟨_, rfl, .sm⟩, trivial⟩)
    ·rw [hb111]
     replace h := Sh.if_f h hb111
     refine AR.skip rfl ?_
     refine AR.skip rfl ?_
     refine AR.keep [2, 3, 7, 33, 35] rfl ?_
     refine AR.skip rfl ?_
     refine AR.skip rfl ?_
     refine AR.skip rfl ?_
     refine AR.keep [2, 3, 7, 33, 35, 37, 38] rfl ?_
     refine AR.skip rfl ?_
     refine AR.skip rfl ?_
     refine AR.skip rfl ?_
     refine AR.keep [2, 3, 7, 33, 41] rfl ?_
     refine AR.skip rfl ?_
     refine AR.op (r := bl false) rfl (aop_pick rfl rfl rfl) ?_
     refine AR.nil ?_
     exact hK26 false _ h (Weak.kt [2, 3, 7, 43] rfl)
theorem inquestlaw22_FactMore_ok {W0 : World} (hT : Tab W0) {x_0 : G.inquestlaw22_Case} {g_1 : G.fact_Fact} {r : Bool} (h : G.inquestlaw22_FactMore x_0 g_1 = some r) : Fun1 Try.prog W0 5 [G.inquestlaw22_Case.av x_0, G.fact_Fact.av g_1] (bl r) := Fun1.two (inquestlaw22_FactMore_ok0 hT h) (by simp)

end Wk
