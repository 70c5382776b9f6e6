/- That a statement does what its plain function says. -/
import Derived.Test.YtfgndjgcfkfobaaDoorWkKinquestlaw17
open Go Go.Av Go.Proofs
set_option linter.unusedVariables false
set_option maxHeartbeats 8000000
set_option maxRecDepth 20000
namespace Wk
theorem inquestlaw17_KnownTells_ok0 {W0 : World} (hT : Tab W0) {h_0 : G.api_Hist} {r : Bool} (h : G.inquestlaw17_KnownTells h_0 = some r) : Fun2 Tryd.prog W0 3 [G.api_Hist.av h_0] (bl r) .empty := by
 refine fun2_of_awp Tryd.func3 rfl (by kernel_rfl) Tryd.ntmps3 (by simp) ?_
 unfold G.inquestlaw17_KnownTells at h
 show AWP _ _ _ _ ⟨[(0, G.api_Hist.av h_0)], .empty⟩ _
 refine awp_seqK fun K1 hK1 => awp_reg rfl <| AR.op (r := .ref 0 0 0) rfl (aop_box 1 [G.api_Hist.av h_0] rfl rfl rfl (.inl ⟨rfl, rfl⟩)) <| AR.op rfl (aop_move (.inr rfl) rfl) <| AR.nil <| hK1 _ (AWP.weak (Weak.e (fr' := [(1, .pp [.sl (List.map G.api_Txn.av h_0.Txns)] 0)]) (H' := .empty) ⟨⟨_, rfl, .frzA rfl rfl rfl rfl (by simp)⟩, trivial⟩) ?_)
 refine awp_seqK fun K2 hK2 => awp_reg rfl ?_
 obtain ⟨r28, hr28, h⟩ := Sh.bind_some' h
 refine AR.op (r := bl r28) rfl (aop_call1 rfl rfl (by simp) (inquestlaw17_awake_ok hT hr28)) <| AR.op rfl (aop_move (.inr rfl) rfl) <| AR.nil <| hK2 _ (AWP.weak (Weak.kt [1, 3] rfl) ?_)
 refine awp_seqK fun K3 hK3 => awp_seqK fun K4 hK4 => awp_reg rfl <| AR.op rfl (aop_move (.inl rfl) rfl) <| AR.op (r := bl (!r28)) rfl (aop_not rfl rfl) <| AR.nil <| hK4 _ (AWP.weak (Weak.kt [1, 12] rfl) ?_)
 refine awp_cond rfl (fun hb29 => ?_) (fun hb29 => ?_)
 ·replace h := Sh.if_t h hb29
  refine awp_seqK fun K5 hK5 => awp_reg rfl <| AR.op rfl (aop_move (.inr rfl) rfl) <| AR.nil <| hK5 _ (AWP.weak (Weak.kt [2] rfl) ?_)
  refine awp_ret ?_
  obtain rfl := Option.some.inj h
  refine ⟨.inr rfl, bl false, rfl, ?_⟩
  exact Weak.e ⟨.k, trivial⟩
 ·replace h := Sh.if_f h hb29
  refine awp_skip <| hK3 _ (AWP.weak (Weak.kt [1] rfl) ?_)
  refine awp_seqK fun K6 hK6 => awp_reg rfl <| AR.op (r := G.api_Hist.av h_0) rfl (aop_load_pp rfl rfl sz24 rfl) ?_
  obtain ⟨r31, hr31, h⟩ := Sh.bind_some' h
  refine AR.op (r := bl r31) rfl (aop_call1 rfl rfl (by simp) (inquestref08_Few_ok hT hr31)) <| AR.op rfl (aop_move (.inr rfl) rfl) <| AR.nil <| hK6 _ (AWP.weak (Weak.kt [1, 4] rfl) ?_)
  refine awp_seqK fun K7 hK7 => awp_seqK fun K8 hK8 => awp_reg rfl <| AR.op rfl (aop_move (.inl rfl) rfl) <| AR.op (r := bl (!r31)) rfl (aop_not rfl rfl) <| AR.nil <| hK8 _ (AWP.weak (Weak.kt [1, 16] rfl) ?_)
  refine awp_cond rfl (fun hb32 => ?_) (fun hb32 => ?_)
  ·replace h := Sh.if_t h hb32
   refine awp_seqK fun K9 hK9 => awp_reg rfl <| AR.op rfl (aop_move (.inr rfl) rfl) <| AR.nil <| hK9 _ (AWP.weak (Weak.kt [2] rfl) ?_)
   refine awp_ret ?_
   obtain rfl := Option.some.inj h
   refine ⟨.inr rfl, bl true, rfl, ?_⟩
   exact Weak.e ⟨.k, trivial⟩
  ·replace h := Sh.if_f h hb32
   refine awp_skip <| hK7 _ (AWP.weak (Weak.kt [1] rfl) ?_)
   refine awp_seqK fun K10 hK10 => awp_reg rfl <| AR.op (r := G.api_Hist.av h_0) rfl (aop_load_pp rfl rfl sz24 rfl) ?_
   obtain ⟨r35, hr35, h⟩ := Sh.bind_some' h
   refine AR.op (r := G.graph_Graph.av r35) rfl (aop_call1 rfl rfl (by simp) (known_So_ok hT hr35)) ?_
   obtain ⟨r36, hr36, h⟩ := Sh.bind_some' h
   refine AR.op (r := G.inquestref12_G.av r36) rfl (aop_call1 rfl rfl (by simp) (inquestlaw17_plain_ok hT hr36)) <| AR.keep [1, 19] rfl <| AR.op (r := .ref 0 0 0) rfl (aop_alloc 2 [.agg [i64 0, nilS]] rfl zr29 (by kernel_rfl) (.inl ⟨rfl, rfl⟩)) <| AR.op rfl (aop_store (e' := G.inquestref12_G.av r36) rfl rfl rfl rfl rfl rfl sz29 rfl dt rfl) <| AR.nil <| hK10 _ (AWP.weak (Weak.e (fr' := [(1, .pp [.sl (List.map G.api_Txn.av h_0.Txns)] 0), (5, .pp [i64 r36.N, .sl (List.map u64 r36.Rows)] 0)]) (H' := .empty) ⟨.k, ⟨_, rfl, .frzA rfl rfl rfl rfl (by simp)⟩, trivial⟩) ?_)
   refine awp_seqK fun K11 hK11 => awp_reg rfl <| AR.op (r := G.api_Hist.av h_0) rfl (aop_load_pp rfl rfl sz24 rfl) ?_
   obtain ⟨r39, hr39, h⟩ := Sh.bind_some' h
   refine AR.op (r := G.graph_Graph.av r39) rfl (aop_call1 rfl rfl (by simp) (known_Wr_ok hT hr39)) ?_
   obtain ⟨r40, hr40, h⟩ := Sh.bind_some' h
   refine AR.op (r := G.inquestref12_G.av r40) rfl (aop_call1 rfl rfl (by simp) (inquestlaw17_plain_ok hT hr40)) <| AR.keep [1, 5, 22] rfl <| AR.op (r := .ref 0 0 0) rfl (aop_alloc 2 [.agg [i64 0, nilS]] rfl zr29 (by kernel_rfl) (.inl ⟨rfl, rfl⟩)) <| AR.op rfl (aop_store (e' := G.inquestref12_G.av r40) rfl rfl rfl rfl rfl rfl sz29 rfl dt rfl) <| AR.nil <| hK11 _ (AWP.weak (Weak.e (fr' := [(1, .pp [.sl (List.map G.api_Txn.av h_0.Txns)] 0), (5, .pp [i64 r36.N, .sl (List.map u64 r36.Rows)] 0), (6, .pp [i64 r40.N, .sl (List.map u64 r40.Rows)] 0)]) (H' := .empty) ⟨.k, .k, ⟨_, rfl, .frzA rfl rfl rfl rfl (by simp)⟩, trivial⟩) ?_)
   refine awp_seqK fun K12 hK12 => awp_reg rfl <| AR.op (r := G.api_Hist.av h_0) rfl (aop_load_pp rfl rfl sz24 rfl) ?_
   obtain ⟨r43, hr43, h⟩ := Sh.bind_some' h
   refine AR.op (r := G.graph_Graph.av r43) rfl (aop_call1 rfl rfl (by simp) (known_Init_ok hT hr43)) ?_
   obtain ⟨r44, hr44, h⟩ := Sh.bind_some' h
   refine AR.op (r := G.inquestref12_G.av r44) rfl (aop_call1 rfl rfl (by simp) (inquestlaw17_plain_ok hT hr44)) <| AR.keep [1, 5, 6, 25] rfl <| AR.op (r := .ref 0 0 0) rfl (aop_alloc 2 [.agg [i64 0, nilS]] rfl zr29 (by kernel_rfl) (.inl ⟨rfl, rfl⟩)) <| AR.op rfl (aop_store (e' := G.inquestref12_G.av r44) rfl rfl rfl rfl rfl rfl sz29 rfl dt rfl) <| AR.nil <| hK12 _ (AWP.weak (Weak.e (fr' := [(1, .pp [.sl (List.map G.api_Txn.av h_0.Txns)] 0), (5, .pp [i64 r36.N, .sl (List.map u64 r36.Rows)] 0), (6, .pp [i64 r40.N, .sl (List.map u64 r40.Rows)] 0), (7, .pp [i64 r44.N, .sl (List.map u64 r44.Rows)] 0)]) (H' := .empty) ⟨.k, .k, .k, ⟨_, rfl, .frzA rfl rfl rfl rfl (by simp)⟩, trivial⟩) ?_)
   refine awp_seqK fun K13 hK13 => awp_reg rfl <| AR.op (r := G.api_Hist.av h_0) rfl (aop_load_pp rfl rfl sz24 rfl) ?_
   obtain ⟨r47, hr47, h⟩ := Sh.bind_some' h
   refine AR.op (r := G.graph_Graph.av r47) rfl (aop_call1 rfl rfl (by simp) (known_Past_ok hT hr47)) ?_
   obtain ⟨r48, hr48, h⟩ := Sh.bind_some' h
   refine AR.op (r := G.inquestref12_G.av r48) rfl (aop_call1 rfl rfl (by simp) (inquestlaw17_plain_ok hT hr48)) <| AR.keep [1, 5, 6, 7, 28] rfl <| AR.op (r := .ref 0 0 0) rfl (aop_alloc 2 [.agg [i64 0, nilS]] rfl zr29 (by kernel_rfl) (.inl ⟨rfl, rfl⟩)) <| AR.op rfl (aop_store (e' := G.inquestref12_G.av r48) rfl rfl rfl rfl rfl rfl sz29 rfl dt rfl) <| AR.nil <| hK13 _ (AWP.weak (Weak.e (fr' := [(1, .pp [.sl (List.map G.api_Txn.av h_0.Txns)] 0), (5, .pp [i64 r36.N, .sl (List.map u64 r36.Rows)] 0), (6, .pp [i64 r40.N, .sl (List.map u64 r40.Rows)] 0), (7, .pp [i64 r44.N, .sl (List.map u64 r44.Rows)] 0), (8, .pp [i64 r48.N, .sl (List.map u64 r48.Rows)] 0)]) (H' := .empty) ⟨.k, .k, .k, .k, ⟨_, rfl, .frzA rfl rfl rfl rfl (by simp)⟩, trivial⟩) ?_)
   refine awp_seqK fun K14 hK14 => awp_reg rfl <| AR.op (r := G.api_Hist.av h_0) rfl (aop_load_pp rfl rfl sz24 rfl) ?_
   obtain ⟨r50, hr50, h⟩ := Sh.bind_some' h
   refine AR.op (r := bl r50) rfl (aop_call1 rfl rfl (by simp) (inquestref08_Right_ok hT hr50)) <| AR.op rfl (aop_move (.inr rfl) rfl) <| AR.nil <| hK14 _ (AWP.weak (Weak.kt [1, 5, 6, 7, 8, 9] rfl) ?_)
   refine awp_seqK fun K15 hK15 => awp_seqK fun K16 hK16 => awp_reg rfl <| AR.op rfl (aop_move (.inl rfl) rfl) <| AR.op (r := bl (!r50)) rfl (aop_not rfl rfl) <| AR.nil <| hK16 _ (AWP.weak (Weak.kt [1, 5, 6, 7, 8, 32] rfl) ?_)
   refine awp_cond rfl (fun hb54 => ?_) (fun hb54 => ?_)
   ·replace h := Sh.if_t h hb54
    refine awp_seqK fun K17 hK17 => awp_reg rfl <| AR.op rfl (aop_field_pp rfl rfl fd29_0 (by decide)) <| AR.op (r := i64 r36.N) rfl (aop_load_pp rfl rfl sz3 rfl) <| AR.op rfl (aop_field_pp rfl rfl fd29_0 (by decide)) <| AR.keep [5, 6, 7, 8, 34, 35] rfl <| AR.op (r := i64 r40.N) rfl (aop_load_pp rfl rfl sz3 rfl) <| AR.op rfl (aop_add rfl rfl rfl rfl) ?_
    refine AR.op rfl (aop_field_pp rfl rfl fd29_0 (by decide)) <| AR.keep [5, 6, 7, 8, 37, 38] rfl <| AR.op (r := i64 r44.N) rfl (aop_load_pp rfl rfl sz3 rfl) <| AR.op rfl (aop_add rfl rfl rfl rfl) <| AR.op rfl (aop_field_pp rfl rfl fd29_0 (by decide)) <| AR.keep [5, 6, 7, 8, 40, 41] rfl <| AR.op (r := i64 r48.N) rfl (aop_load_pp rfl rfl sz3 rfl) <| AR.op rfl (aop_add rfl rfl rfl rfl) ?_
    refine AR.op (r := bl (decide ((w64 ((w64 ((w64 (r36.N + r40.N)) + r44.N)) + r48.N)) = 0))) rfl (aop_eql rfl rfl rfl) <| AR.keep [5, 6, 7, 8, 44] rfl <| AR.op rfl (aop_move (.inl rfl) rfl) ?_
    rcases Bool.eq_false_or_eq_true (decide ((w64 ((w64 ((w64 (r36.N + r40.N)) + r44.N)) + r48.N)) = 0)) with hb57 | hb57
    ·rw [hb57]
     replace h := Sh.if_t h hb57
     refine AR.op rfl (aop_field_pp rfl rfl fd29_1 (by decide)) <| AR.op (r := .sl (List.map u64 r36.Rows)) rfl (aop_load_pp rfl rfl sz27 rfl) <| AR.keep [6, 7, 8, 45, 47] rfl <| AR.op rfl (t_len_sl u64 r36.Rows rfl rfl el27) <| AR.op rfl (aop_field_pp rfl rfl fd29_1 (by decide)) <| AR.op (r := .sl (List.map u64 r40.Rows)) rfl (aop_load_pp rfl rfl sz27 rfl) <| AR.keep [7, 8, 45, 48, 50] rfl <| AR.op rfl (t_len_sl u64 r40.Rows rfl rfl el27) ?_
     refine AR.op rfl (aop_add rfl rfl rfl rfl) <| AR.op rfl (aop_field_pp rfl rfl fd29_1 (by decide)) <| AR.keep [8, 45, 52, 53] rfl <| AR.op (r := .sl (List.map u64 r44.Rows)) rfl (aop_load_pp rfl rfl sz27 rfl) <| AR.op rfl (t_len_sl u64 r44.Rows rfl rfl el27) <| AR.op rfl (aop_add rfl rfl rfl rfl) <| AR.keep [8, 45, 56] rfl <| AR.op rfl (aop_field_pp rfl rfl fd29_1 (by decide)) ?_
     refine AR.op (r := .sl (List.map u64 r48.Rows)) rfl (aop_load_pp rfl rfl sz27 rfl) <| AR.op rfl (t_len_sl u64 r48.Rows rfl rfl el27) <| AR.keep [45, 56, 59] rfl <| AR.op rfl (aop_add rfl rfl rfl rfl) <| AR.op (r := bl (decide ((w64 ((w64 ((w64 ((Sh.len r36.Rows) + (Sh.len r40.Rows))) + (Sh.len r44.Rows))) + (Sh.len r48.Rows))) = 0))) rfl (aop_eql rfl rfl rfl) <| AR.op rfl (aop_pick rfl rfl rfl) <| AR.keep [62] rfl ?_
     obtain ⟨x58, hx58, h⟩ := Sh.lett_some h
     refine AR.op (r := bl x58) rfl ((aop_move (.inr rfl) rfl).conv (congrArg bl hx58)) <| AR.nil <| hK17 _ (AWP.weak (Weak.kt [2] rfl) ?_)
     refine awp_ret ?_
     obtain rfl := Option.some.inj h
     refine ⟨.inr rfl, bl x58, rfl, ?_⟩
     exact Weak.e ⟨.k, trivial⟩
    ·rw [hb57]
     replace h := Sh.if_f h hb57
     refine AR.skip rfl <| AR.skip rfl <| AR.keep [6, 7, 8, 45, 47] rfl <| AR.skip rfl <| AR.skip rfl <| AR.skip rfl <| AR.keep [7, 8, 45, 48, 50] rfl <| AR.skip rfl ?_
     refine AR.skip rfl <| AR.skip rfl <| AR.keep [8, 45, 52, 53] rfl <| AR.skip rfl <| AR.skip rfl <| AR.skip rfl <| AR.keep [8, 45, 56] rfl <| AR.skip rfl ?_
     refine AR.skip rfl <| AR.skip rfl <| AR.keep [45, 56, 59] rfl <| AR.skip rfl <| AR.skip rfl <| AR.op rfl (aop_pick rfl rfl rfl) <| AR.keep [62] rfl <| AR.op rfl (aop_move (.inr rfl) rfl) ?_
     refine AR.nil <| hK17 _ (AWP.weak (Weak.kt [2] rfl) ?_)
     refine awp_ret ?_
     obtain rfl := Option.some.inj h
     refine ⟨.inr rfl, bl false, rfl, ?_⟩
     exact Weak.e ⟨.k, trivial⟩
   ·replace h := Sh.if_f h hb54
    refine awp_skip <| hK15 _ (AWP.weak (Weak.kt [1, 5, 6, 7, 8] rfl) ?_)
    refine awp_seqK fun K18 hK18 => awp_any [(true, false), (true, false), (true, false), (true, false), (true, false), (true, false), (true, false), (true, false), (true, false), (true, false), (true, false), (true, false), (true, false), (true, false), (true, false), (true, false), (true, false), (true, false), (true, false), (true, false), (true, false), (true, false), (true, false)] (by kernel_rfl) (by kernel_rfl) rfl ?_
    refine ARH.dry (r := G.inquestref12_G.av r36) rfl (fun _ => aop_load_pp rfl rfl sz29 rfl) <| ARH.dry (r := G.api_Hist.av h_0) rfl (fun _ => aop_load_pp rfl rfl sz24 rfl) ?_
    obtain ⟨r70, hr70, h⟩ := Sh.bind_some' h
    refine ARH.dry (r := G.inquestref12_G.av r70) rfl (fun _ => aop_call1 rfl rfl (by simp) (inquestref17_So_ok hT hr70)) <| ARH.keep [1, 6, 7, 8, 63, 65] rfl ?_
    obtain ⟨r71, hr71, h⟩ := Sh.bind_some' h
    refine ARH.dry (r := bl r71) rfl (fun _ => aop_call1 rfl rfl (by simp) (inquestref12_Same_ok hT hr71)) <| ARH.dry rfl (fun _ => aop_move (.inl rfl) rfl) ?_
    rcases Bool.eq_false_or_eq_true (r71) with hb72 | hb72
    ·rw [hb72]
     replace h := Sh.if_t h hb72
     refine ARH.dry (r := G.inquestref12_G.av r40) rfl (fun _ => aop_load_pp rfl rfl sz29 rfl) <| ARH.keep [1, 7, 8, 67, 68] rfl <| ARH.dry (r := G.api_Hist.av h_0) rfl (fun _ => aop_load_pp rfl rfl sz24 rfl) ?_
     obtain ⟨r73, hr73, h⟩ := Sh.bind_some' h
     refine ARH.dry (r := G.inquestref12_G.av r73) rfl (fun _ => aop_call1 rfl rfl (by simp) (inquestref17_Wr_ok hT hr73)) ?_
     obtain ⟨r74, hr74, h⟩ := Sh.bind_some' h
     refine ARH.dry (r := bl r74) rfl (fun _ => aop_call1 rfl rfl (by simp) (inquestref12_Same_ok hT hr74)) <| ARH.keep [1, 7, 8, 67, 71] rfl <| ARH.dry rfl (fun _ => aop_pick rfl rfl rfl) <| ARH.dry rfl (fun _ => aop_move (.inl rfl) rfl) ?_
     rcases Bool.eq_false_or_eq_true (r74) with hb75 | hb75
     ·rw [hb75]
      replace h := Sh.if_t h hb75
      refine ARH.dry (r := G.inquestref12_G.av r44) rfl (fun _ => aop_load_pp rfl rfl sz29 rfl) <| ARH.keep [1, 8, 73, 74] rfl <| ARH.dry (r := G.api_Hist.av h_0) rfl (fun _ => aop_load_pp rfl rfl sz24 rfl) ?_
      obtain ⟨r76, hr76, h⟩ := Sh.bind_some' h
      refine ARH.dry (r := G.inquestref12_G.av r76) rfl (fun _ => aop_call1 rfl rfl (by simp) (inquestref17_Init_ok hT hr76)) ?_
      obtain ⟨r77, hr77, h⟩ := Sh.bind_some' h
      refine ARH.dry (r := bl r77) rfl (fun _ => aop_call1 rfl rfl (by simp) (inquestref12_Same_ok hT hr77)) <| ARH.keep [1, 8, 73, 77] rfl <| ARH.dry rfl (fun _ => aop_pick rfl rfl rfl) <| ARH.dry rfl (fun _ => aop_move (.inl rfl) rfl) ?_
      rcases Bool.eq_false_or_eq_true (r77) with hb78 | hb78
      ·rw [hb78]
       replace h := Sh.if_t h hb78
       refine ARH.dry (r := G.inquestref12_G.av r48) rfl (fun _ => aop_load_pp rfl rfl sz29 rfl) <| ARH.keep [1, 79, 80] rfl <| ARH.dry (r := G.api_Hist.av h_0) rfl (fun _ => aop_load_pp rfl rfl sz24 rfl) ?_
       obtain ⟨r79, hr79, h⟩ := Sh.bind_some' h
       refine ARH.dry (r := G.inquestref12_G.av r79) rfl (fun _ => aop_call1 rfl rfl (by simp) (inquestref17_Past_ok hT hr79)) ?_
       obtain ⟨r80, hr80, h⟩ := Sh.bind_some' h
       refine ARH.dry (r := bl r80) rfl (fun _ => aop_call1 rfl rfl (by simp) (inquestref12_Same_ok hT hr80)) <| ARH.keep [79, 83] rfl <| ARH.dry rfl (fun _ => aop_pick rfl rfl rfl) <| ARH.dry rfl (fun _ => aop_move (.inr rfl) rfl) <| ARH.nil <| hK18 _ (AWP.weak (Weak.kt [2] rfl) ?_)
       refine awp_ret ?_
       obtain rfl := Option.some.inj h
       refine ⟨.inr rfl, bl r80, rfl, ?_⟩
       exact Weak.e ⟨.k, trivial⟩
      ·rw [hb78]
       replace h := Sh.if_f h hb78
       refine ARH.skip rfl <| ARH.keep [1, 79, 80] rfl <| ARH.skip rfl <| ARH.skip rfl <| ARH.skip rfl <| ARH.keep [79, 83] rfl <| ARH.dry rfl (fun _ => aop_pick rfl rfl rfl) <| ARH.dry rfl (fun _ => aop_move (.inr rfl) rfl) ?_
       refine ARH.nil <| hK18 _ (AWP.weak (Weak.kt [2] rfl) ?_)
       refine awp_ret ?_
       obtain rfl := Option.some.inj h
       refine ⟨.inr rfl, bl false, rfl, ?_⟩
       exact Weak.e ⟨.k, trivial⟩
     ·rw [hb75]
      replace h := Sh.if_f h hb75
      refine ARH.skip rfl <| ARH.keep [1, 8, 73, 74] rfl <| ARH.skip rfl <| ARH.skip rfl <| ARH.skip rfl <| ARH.keep [1, 8, 73, 77] rfl <| ARH.dry rfl (fun _ => aop_pick rfl rfl rfl) <| ARH.dry rfl (fun _ => aop_move (.inl rfl) rfl) ?_
      refine ARH.skip rfl <| ARH.keep [1, 79, 80] rfl <| ARH.skip rfl <| ARH.skip rfl <| ARH.skip rfl <| ARH.keep [79, 83] rfl <| ARH.dry rfl (fun _ => aop_pick rfl rfl rfl) <| ARH.dry rfl (fun _ => aop_move (.inr rfl) rfl) ?_
      refine ARH.nil <| hK18 _ (AWP.weak (Weak.kt [2] rfl) ?_)
      refine awp_ret ?_
      obtain rfl := Option.some.inj h
      refine ⟨.inr rfl, bl false, rfl, ?_⟩
      exact Weak.e ⟨.k, trivial⟩
    ·rw [hb72]
     replace h := Sh.if_f h hb72
     refine ARH.skip rfl <| ARH.keep [1, 7, 8, 67, 68] rfl <| ARH.skip rfl <| ARH.skip rfl <| ARH.skip rfl <| ARH.keep [1, 7, 8, 67, 71] rfl <| ARH.dry rfl (fun _ => aop_pick rfl rfl rfl) <| ARH.dry rfl (fun _ => aop_move (.inl rfl) rfl) ?_
     refine ARH.skip rfl <| ARH.keep [1, 8, 73, 74] rfl <| ARH.skip rfl <| ARH.skip rfl <| ARH.skip rfl <| ARH.keep [1, 8, 73, 77] rfl <| ARH.dry rfl (fun _ => aop_pick rfl rfl rfl) <| ARH.dry rfl (fun _ => aop_move (.inl rfl) rfl) ?_
     refine ARH.skip rfl <| ARH.keep [1, 79, 80] rfl <| ARH.skip rfl <| ARH.skip rfl <| ARH.skip rfl <| ARH.keep [79, 83] rfl <| ARH.dry rfl (fun _ => aop_pick rfl rfl rfl) <| ARH.dry rfl (fun _ => aop_move (.inr rfl) rfl) ?_
     refine ARH.nil <| hK18 _ (AWP.weak (Weak.kt [2] rfl) ?_)
     refine awp_ret ?_
     obtain rfl := Option.some.inj h
     refine ⟨.inr rfl, bl false, rfl, ?_⟩
     exact Weak.e ⟨.k, trivial⟩
theorem inquestlaw17_KnownTells_ok {W0 : World} (hT : Tab W0) {h_0 : G.api_Hist} {r : Bool} (h : G.inquestlaw17_KnownTells h_0 = some r) : Fun1 Tryd.prog W0 3 [G.api_Hist.av h_0] (bl r) := Fun1.two (inquestlaw17_KnownTells_ok0 hT h) (by simp)

end Wk
