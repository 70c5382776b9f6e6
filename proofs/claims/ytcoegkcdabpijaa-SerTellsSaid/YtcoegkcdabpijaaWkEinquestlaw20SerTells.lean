/- That a statement does what its plain function says. -/
import Derived.Test.YtcoegkcdabpijaaWkEinquestlaw20
open Go Go.Av Go.Proofs
set_option linter.unusedVariables false
set_option maxHeartbeats 8000000
set_option maxRecDepth 20000
namespace Wk
theorem inquestlaw20_SerTells_ok0 {W0 : World} (hT : Tab W0) {h_0 : G.api_Hist} {order_1 : List Int} {r : Bool} (h : G.inquestlaw20_SerTells h_0 order_1 = some r) : Fun2 Try.prog W0 3 [G.api_Hist.av h_0, .sl (List.map i64 order_1)] (bl r) .empty := by
 refine fun2_of_awp Try.func3 rfl (by kernel_rfl) Try.ntmps3 (by simp) ?_
 unfold G.inquestlaw20_SerTells at h
 show AWP _ _ _ _ ⟨[(0, G.api_Hist.av h_0), (1, .sl (List.map i64 order_1))], .empty⟩ _
 refine awp_seqK fun K1 hK1 => awp_reg rfl <| AR.op (r := .ref 0 0 0) rfl (aop_box 1 [G.api_Hist.av h_0] rfl rfl rfl (.inl ⟨rfl, rfl⟩)) <| AR.op rfl (aop_move (.inr rfl) rfl) <| AR.nil <| hK1 _ (AWP.weak (Weak.e (fr' := [(1, .sl (List.map i64 order_1)), (2, .pp [.sl (List.map G.api_Txn.av h_0.Txns)] 0)]) (H' := .empty) ⟨⟨.sl (List.map i64 order_1), rfl, .sm⟩, ⟨_, rfl, .frzA rfl rfl rfl rfl (by simp)⟩, trivial⟩) ?_)
 refine awp_seqK fun K2 hK2 => awp_reg rfl ?_
 obtain ⟨r29, hr29, h⟩ := Sh.bind_some' h
 refine AR.op (r := bl r29) rfl (aop_call1 rfl rfl (by simp) (inquestlaw20_awake_ok hT hr29)) <| AR.op rfl (aop_move (.inr rfl) rfl) <| AR.nil <| hK2 _ (AWP.weak (Weak.kt [1, 2, 5] rfl) ?_)
 refine awp_seqK fun K3 hK3 => awp_seqK fun K4 hK4 => awp_reg rfl <| AR.op rfl (aop_move (.inl rfl) rfl) <| AR.op (r := bl (!r29)) rfl (aop_not rfl rfl) <| AR.nil <| hK4 _ (AWP.weak (Weak.kt [1, 2, 13] rfl) ?_)
 refine awp_cond rfl (fun hb30 => ?_) (fun hb30 => ?_)
 ·replace h := Sh.if_t h hb30
  refine awp_seqK fun K5 hK5 => awp_reg rfl <| AR.op rfl (aop_move (.inr rfl) rfl) <| AR.nil <| hK5 _ (AWP.weak (Weak.kt [4] rfl) ?_)
  refine awp_ret ?_
  obtain rfl := Option.some.inj h
  refine ⟨.inr rfl, bl false, rfl, ?_⟩
  exact Weak.e ⟨.k, trivial⟩
 ·replace h := Sh.if_f h hb30
  refine awp_skip <| hK3 _ (AWP.weak (Weak.kt [1, 2] rfl) ?_)
  refine awp_seqK fun K6 hK6 => awp_reg rfl <| AR.op (r := G.api_Hist.av h_0) rfl (aop_load_pp rfl rfl sz24 rfl) ?_
  obtain ⟨r32, hr32, h⟩ := Sh.bind_some' h
  refine AR.op (r := bl r32) rfl (aop_call1 rfl rfl (by simp) (inquestref08_Few_ok hT hr32)) <| AR.op rfl (aop_move (.inr rfl) rfl) <| AR.nil <| hK6 _ (AWP.weak (Weak.kt [1, 2, 6] rfl) ?_)
  refine awp_seqK fun K7 hK7 => awp_seqJ (fun (p : Bool) => (⟨[(1, .sl (List.map i64 order_1)), (2, .pp [.sl (List.map G.api_Txn.av h_0.Txns)] 0), (22, bl p)], .empty⟩ : St)) (fun (p : Bool) => G.inquestlaw20_SerTells_j1 h_0 order_1 p = some r) ?_ ?_
  ·rintro v36 h
   replace h : G.inquestlaw20_SerTells_j1 h_0 order_1 v36 = some r := h
   unfold G.inquestlaw20_SerTells_j1 at h
   refine awp_cond rfl (fun hb37 => ?_) (fun hb37 => ?_)
   ·replace h := Sh.if_t h hb37
    refine awp_seqK fun K8 hK8 => awp_reg rfl <| AR.op rfl (aop_move (.inr rfl) rfl) <| AR.nil <| hK8 _ (AWP.weak (Weak.kt [4] rfl) ?_)
    refine awp_ret ?_
    obtain rfl := Option.some.inj h
    refine ⟨.inr rfl, bl true, rfl, ?_⟩
    exact Weak.e ⟨.k, trivial⟩
   ·replace h := Sh.if_f h hb37
    refine awp_skip <| hK7 _ (AWP.weak (Weak.kt [1, 2] rfl) ?_)
    refine awp_seqK fun K9 hK9 => awp_reg rfl <| AR.op (r := G.api_Hist.av h_0) rfl (aop_load_pp rfl rfl sz24 rfl) <| AR.op rfl (aop_move (.inl rfl) rfl) ?_
    obtain ⟨r39, hr39, h⟩ := Sh.bind_some' h
    refine AR.op (r := .sl (List.map (slA G.api_Take.av) r39)) rfl (aop_call1 rfl rfl (by simp) (ser_Play_ok hT hr39)) <| AR.keep [1, 2, 25] rfl <| AR.op rfl (aop_move (.inr rfl) rfl) <| AR.nil <| hK9 _ (AWP.weak (Weak.kt [1, 2, 7] rfl) ?_)
    refine awp_seqK fun K10 hK10 => awp_reg rfl <| AR.op (r := G.api_Hist.av h_0) rfl (aop_load_pp rfl rfl sz24 rfl) <| AR.op rfl (aop_move (.inl rfl) rfl) ?_
    obtain ⟨r41, hr41, h⟩ := Sh.bind_some' h
    refine AR.op (r := .sl (List.map (slA G.api_Take.av) r41)) rfl (aop_call1 rfl rfl (by simp) (inquestref20_Play_ok hT hr41)) <| AR.keep [1, 2, 7, 28] rfl <| AR.op rfl (aop_move (.inr rfl) rfl) <| AR.nil <| hK10 _ (AWP.weak (Weak.kt [1, 2, 7, 8] rfl) ?_)
    refine awp_seqK fun K11 hK11 => awp_seqJ (fun (p : Bool) => (⟨[(7, .sl (List.map (slA G.api_Take.av) r39)), (8, .sl (List.map (slA G.api_Take.av) r41)), (42, bl p)], .empty⟩ : St)) (fun (p : Bool) => G.inquestlaw20_SerTells_j2 r39 r41 p = some r) ?_ ?_
    ·rintro v49 h
     replace h : G.inquestlaw20_SerTells_j2 r39 r41 v49 = some r := h
     unfold G.inquestlaw20_SerTells_j2 at h
     refine awp_cond rfl (fun hb50 => ?_) (fun hb50 => ?_)
     ·replace h := Sh.if_t h hb50
      refine awp_seqK fun K12 hK12 => awp_reg rfl <| AR.op rfl (aop_move (.inr rfl) rfl) <| AR.nil <| hK12 _ (AWP.weak (Weak.kt [4] rfl) ?_)
      refine awp_ret ?_
      obtain rfl := Option.some.inj h
      refine ⟨.inr rfl, bl false, rfl, ?_⟩
      exact Weak.e ⟨.k, trivial⟩
     ·replace h := Sh.if_f h hb50
      refine awp_skip <| hK11 _ (AWP.weak (Weak.kt [7, 8] rfl) ?_)
      refine awp_seqJ (fun (p : Unit) => (⟨[], .empty⟩ : St)) (fun (p : Unit) => G.inquestlaw20_SerTells_j3 = some r) ?_ ?_
      ·rintro ⟨⟩ h
       replace h : G.inquestlaw20_SerTells_j3 = some r := h
       unfold G.inquestlaw20_SerTells_j3 at h
       refine awp_seqK fun K13 hK13 => awp_reg rfl <| AR.op rfl (aop_move (.inr rfl) rfl) <| AR.nil <| hK13 _ ?_
       refine awp_ret ?_
       obtain rfl := Option.some.inj h
       refine ⟨.inr rfl, bl true, rfl, ?_⟩
       exact Weak.e ⟨.k, trivial⟩
      ·intro K14 hK14
       refine awp_seqK fun K15 hK15 => awp_reg rfl <| AR.op rfl (aop_move (.inr rfl) rfl) <| AR.nil <| hK15 _ ?_
       refine awp_block <| awp_iter (fun (p : Int) => G.inquestlaw20_SerTells_b1 r39 r41 p) (fun (p : Int) => (⟨[(7, .sl (List.map (slA G.api_Take.av) r39)), (8, .sl (List.map (slA G.api_Take.av) r41)), (9, i64 p)], .empty⟩ : St)) h (Weak.kt [7, 8, 9] rfl) ?_
       ·skip
        rintro i79 o1 h hx1
        replace h : G.inquestlaw20_SerTells_b1 r39 r41 i79 = some o1 := h
        unfold G.inquestlaw20_SerTells_b1 at h
        refine awp_seqK fun K16 hK16 => awp_seqK fun K17 hK17 => awp_reg rfl <| AR.op rfl (aop_move (.inl rfl) rfl) <| AR.op rfl (aop_move (.inl rfl) rfl) <| AR.op rfl (t_len_sl (slA G.api_Take.av) r39 rfl rfl el28) <| AR.keep [7, 8, 9, 43, 45] rfl <| AR.op rfl (aop_lss rfl rfl rfl) ?_
        refine AR.nil <| hK17 _ (AWP.weak (Weak.kt [7, 8, 9, 46] rfl) ?_)
        refine awp_cond rfl (fun hb80 => ?_) (fun hb80 => ?_)
        ·replace h := Sh.if_t h hb80
         refine awp_skip <| hK16 _ (AWP.weak (Weak.kt [7, 8, 9] rfl) ?_)
         refine awp_seqK fun K18 hK18 => awp_block <| awp_seqK fun K19 hK19 => awp_any [(true, false), (true, false), (true, false), (true, false), (true, false), (true, false), (true, false), (true, false), (true, false), (true, false)] (by kernel_rfl) (by kernel_rfl) rfl ?_
         refine ARH.dry rfl (fun _ => aop_move (.inl rfl) rfl) <| ARH.dry rfl (fun _ => aop_move (.inl rfl) rfl) ?_
         obtain ⟨x91, hx91, h⟩ := Sh.bind_some' h
         obtain ⟨k92, hi92, hl92⟩ := Sh.idx_some hx91
         refine ARH.dry rfl (fun _ => t_index_sl (slA G.api_Take.av) r39 hi92 hl92 rfl rfl rfl el28 rfl) <| ARH.keep [7, 8, 9, 51] rfl <| ARH.dry (r := .sl (List.map G.api_Take.av x91)) rfl (fun _ => aop_load_pp rfl rfl sz32 rfl) <| ARH.dry rfl (fun _ => aop_move (.inl rfl) rfl) <| ARH.dry rfl (fun _ => aop_move (.inl rfl) rfl) <| ARH.keep [7, 8, 9, 52, 53, 54] rfl ?_
         obtain ⟨x93, hx93, h⟩ := Sh.bind_some' h
         obtain ⟨k94, hi94, hl94⟩ := Sh.idx_some hx93
         refine ARH.dry rfl (fun _ => t_index_sl (slA G.api_Take.av) r41 hi94 hl94 rfl rfl rfl el28 rfl) <| ARH.dry (r := .sl (List.map G.api_Take.av x93)) rfl (fun _ => aop_load_pp rfl rfl sz32 rfl) ?_
         obtain ⟨r95, hr95, h⟩ := Sh.bind_some' h
         refine ARH.dry (r := bl r95) rfl (fun _ => aop_call1 rfl rfl (by simp) (inquestref20_Takes_ok hT hr95)) <| ARH.keep [7, 8, 9, 57] rfl <| ARH.dry rfl (fun _ => aop_move (.inr rfl) rfl) <| ARH.nil <| hK19 _ (AWP.weak (Weak.kt [7, 8, 9, 10] rfl) ?_)
         refine awp_seqK fun K20 hK20 => awp_reg rfl <| AR.op rfl (aop_move (.inl rfl) rfl) <| AR.op (r := bl (!r95)) rfl (aop_not rfl rfl) <| AR.nil <| hK20 _ (AWP.weak (Weak.kt [7, 8, 9, 59] rfl) ?_)
         refine awp_cond rfl (fun hb96 => ?_) (fun hb96 => ?_)
         ·replace h := Sh.if_t h hb96
          refine awp_seqK fun K21 hK21 => awp_reg rfl <| AR.op rfl (aop_move (.inr rfl) rfl) <| AR.nil <| hK21 _ (AWP.weak (Weak.kt [4] rfl) ?_)
          refine awp_ret ?_
          replace h := Sh.exit_eq h hx1
          obtain rfl := Option.some.inj h
          refine ⟨.inr rfl, bl false, rfl, ?_⟩
          exact Weak.e ⟨.k, trivial⟩
         ·replace h := Sh.if_f h hb96
          refine awp_skip <| hK18 _ (AWP.weak (Weak.kt [7, 8, 9] rfl) ?_)
          refine awp_reg rfl <| AR.op rfl (aop_move (.inl rfl) rfl) <| AR.op rfl (aop_add rfl rfl rfl rfl) <| AR.op rfl (aop_move (.inr rfl) rfl) <| AR.nil ?_
          replace h := Sh.next_eq h
          exact ⟨_, h, Weak.kt [7, 8, 9] rfl⟩
        ·replace h := Sh.if_f h hb80
         refine awp_exit ?_
         replace h := Sh.exit_eq h hx1
         exact hK14 () _ h (Weak.kt [] rfl)
    ·intro K22 hK22
     refine awp_any [(true, false), (true, false), (true, false), (true, false), (true, false), (true, false), (true, false), (true, false), (true, false), (true, false), (true, false), (true, false), (true, false), (true, false)] (by kernel_rfl) (by kernel_rfl) rfl ?_
     refine ARH.dry rfl (fun _ => aop_move (.inl rfl) rfl) <| ARH.dry rfl (fun _ => t_len_sl (slA G.api_Take.av) r39 rfl rfl el28) <| ARH.dry rfl (fun _ => aop_move (.inl rfl) rfl) <| ARH.keep [1, 2, 7, 8, 30, 31] rfl <| ARH.dry rfl (fun _ => t_len_sl (slA G.api_Take.av) r41 rfl rfl el28) <| ARH.dry (r := bl (decide ((Sh.len r39) ≠ (Sh.len r41)))) rfl (fun _ => aop_neq rfl rfl rfl) <| ARH.dry rfl (fun _ => aop_move (.inl rfl) rfl) <| ARH.keep [1, 2, 7, 8, 34] rfl ?_
     rcases Bool.eq_false_or_eq_true (decide ((Sh.len r39) ≠ (Sh.len r41))) with hb97 | hb97
     ·rw [hb97]
      replace h := Sh.if_t h hb97
      refine ARH.skip rfl <| ARH.skip rfl <| ARH.skip rfl <| ARH.keep [1, 2, 7, 8, 34, 37] rfl <| ARH.skip rfl <| ARH.skip rfl <| ARH.skip rfl <| ARH.keep [7, 8, 34, 37, 40] rfl ?_
      refine ARH.skip rfl <| ARH.dry rfl (fun _ => aop_pick rfl rfl rfl) <| ARH.nil ?_
      exact hK22 true _ h (Weak.kt [7, 8, 42] rfl)
     ·rw [hb97]
      replace h := Sh.if_f h hb97
      refine ARH.dry (r := G.api_Hist.av h_0) rfl (fun _ => aop_load_pp rfl rfl sz24 rfl) <| ARH.dry rfl (fun _ => aop_move (.inl rfl) rfl) ?_
      obtain ⟨r98, hr98, h⟩ := Sh.bind_some' h
      refine ARH.dry (r := bl r98) rfl (fun _ => aop_call1 rfl rfl (by simp) (ser_Check_ok hT hr98)) <| ARH.keep [1, 2, 7, 8, 34, 37] rfl <| ARH.dry (r := G.api_Hist.av h_0) rfl (fun _ => aop_load_pp rfl rfl sz24 rfl) <| ARH.dry rfl (fun _ => aop_move (.inl rfl) rfl) ?_
      obtain ⟨r99, hr99, h⟩ := Sh.bind_some' h
      refine ARH.dry (r := bl r99) rfl (fun _ => aop_call1 rfl rfl (by simp) (inquestref20_Check_ok hT hr99)) <| ARH.keep [7, 8, 34, 37, 40] rfl <| ARH.dry (r := bl (!(r98 == r99))) rfl (fun _ => aop_neb rfl rfl rfl Try.underlying4) <| ARH.dry rfl (fun _ => aop_pick rfl rfl rfl) <| ARH.nil ?_
      exact hK22 (!(r98 == r99)) _ h (Weak.kt [7, 8, 42] rfl)
  ·intro K23 hK23
   refine awp_reg rfl <| AR.op rfl (aop_move (.inl rfl) rfl) <| AR.op (r := bl (!r32)) rfl (aop_not rfl rfl) <| AR.op rfl (aop_move (.inl rfl) rfl) <| AR.keep [1, 2, 18] rfl ?_
   rcases Bool.eq_false_or_eq_true (!r32) with hb100 | hb100
   ·rw [hb100]
    replace h := Sh.if_t h hb100
    refine AR.skip rfl <| AR.skip rfl <| AR.skip rfl <| AR.keep [1, 2, 18, 21] rfl <| AR.op rfl (aop_pick rfl rfl rfl) <| AR.nil ?_
    exact hK23 true _ h (Weak.kt [1, 2, 22] rfl)
   ·rw [hb100]
    replace h := Sh.if_f h hb100
    refine AR.op rfl (aop_move (.inl rfl) rfl) <| AR.op rfl (t_len_sl i64 order_1 rfl rfl el25) <| AR.op rfl (aop_gtr rfl rfl rfl) <| AR.keep [1, 2, 18, 21] rfl <| AR.op rfl (aop_pick rfl rfl rfl) <| AR.nil ?_
    exact hK23 (decide ((60 : Int) < (Sh.len order_1))) _ h (Weak.kt [1, 2, 22] rfl)
theorem inquestlaw20_SerTells_ok {W0 : World} (hT : Tab W0) {h_0 : G.api_Hist} {order_1 : List Int} {r : Bool} (h : G.inquestlaw20_SerTells h_0 order_1 = some r) : Fun1 Try.prog W0 3 [G.api_Hist.av h_0, .sl (List.map i64 order_1)] (bl r) := Fun1.two (inquestlaw20_SerTells_ok0 hT h) (by simp)

end Wk
