/- That a statement does what its plain function says. -/
import Derived.Test.YtfgndjgcfkfobaaDoorWkKinquestlaw17
open Go Go.Av Go.Proofs
set_option linter.unusedVariables false
set_option maxHeartbeats 8000000
set_option maxRecDepth 20000
namespace Wk
theorem inquestlaw17_KnownSo_ok0 {W0 : World} (hT : Tab W0) {h_0 : G.api_Hist} {a_1 : Int} {b_2 : Int} {r : Bool} (h : G.inquestlaw17_KnownSo h_0 a_1 b_2 = some r) : Fun2 Tryd.prog W0 6 [G.api_Hist.av h_0, i64 a_1, i64 b_2] (bl r) .empty := by
 refine fun2_of_awp Tryd.func6 rfl (by kernel_rfl) Tryd.ntmps6 (by simp) ?_
 unfold G.inquestlaw17_KnownSo at h
 show AWP _ _ _ _ ⟨[(0, G.api_Hist.av h_0), (1, i64 a_1), (2, i64 b_2)], .empty⟩ _
 refine awp_seqK fun K1 hK1 => awp_reg rfl <| AR.op (r := .ref 0 0 0) rfl (aop_box 1 [G.api_Hist.av h_0] rfl rfl rfl (.inl ⟨rfl, rfl⟩)) <| AR.op rfl (aop_move (.inr rfl) rfl) <| AR.nil <| hK1 _ (AWP.weak (Weak.e (fr' := [(1, i64 a_1), (2, i64 b_2), (3, .pp [.sl (List.map G.api_Txn.av h_0.Txns)] 0)]) (H' := .empty) ⟨.k, .k, ⟨_, rfl, .frzA rfl rfl rfl rfl (by simp)⟩, trivial⟩) ?_)
 refine awp_seqK fun K2 hK2 => awp_reg rfl ?_
 obtain ⟨r29, hr29, h⟩ := Sh.bind_some' h
 refine AR.op (r := bl r29) rfl (aop_call1 rfl rfl (by simp) (inquestlaw17_awake_ok hT hr29)) <| AR.op rfl (aop_move (.inr rfl) rfl) <| AR.nil <| hK2 _ (AWP.weak (Weak.kt [1, 2, 3, 7] rfl) ?_)
 refine awp_seqK fun K3 hK3 => awp_seqK fun K4 hK4 => awp_reg rfl <| AR.op rfl (aop_move (.inl rfl) rfl) <| AR.op (r := bl (!r29)) rfl (aop_not rfl rfl) <| AR.nil <| hK4 _ (AWP.weak (Weak.kt [1, 2, 3, 14] rfl) ?_)
 refine awp_cond rfl (fun hb30 => ?_) (fun hb30 => ?_)
 ·replace h := Sh.if_t h hb30
  refine awp_seqK fun K5 hK5 => awp_reg rfl <| AR.op rfl (aop_move (.inr rfl) rfl) <| AR.nil <| hK5 _ (AWP.weak (Weak.kt [6] rfl) ?_)
  refine awp_ret ?_
  obtain rfl := Option.some.inj h
  refine ⟨.inr rfl, bl false, rfl, ?_⟩
  exact Weak.e ⟨.k, trivial⟩
 ·replace h := Sh.if_f h hb30
  refine awp_skip <| hK3 _ (AWP.weak (Weak.kt [1, 2, 3] rfl) ?_)
  refine awp_seqK fun K6 hK6 => awp_reg rfl <| AR.op (r := G.api_Hist.av h_0) rfl (aop_load_pp rfl rfl sz24 rfl) ?_
  obtain ⟨r32, hr32, h⟩ := Sh.bind_some' h
  refine AR.op (r := bl r32) rfl (aop_call1 rfl rfl (by simp) (inquestref08_Few_ok hT hr32)) <| AR.op rfl (aop_move (.inr rfl) rfl) <| AR.nil <| hK6 _ (AWP.weak (Weak.kt [1, 2, 3, 8] rfl) ?_)
  refine awp_seqK fun K7 hK7 => awp_seqJ (fun (p : Bool) => (⟨[(1, i64 a_1), (2, i64 b_2), (3, .pp [.sl (List.map G.api_Txn.av h_0.Txns)] 0), (23, bl p)], .empty⟩ : St)) (fun (p : Bool) => G.inquestlaw17_KnownSo_j1 h_0 a_1 b_2 p = some r) ?_ ?_
  ·rintro v38 h
   replace h : G.inquestlaw17_KnownSo_j1 h_0 a_1 b_2 v38 = some r := h
   unfold G.inquestlaw17_KnownSo_j1 at h
   show AWP _ _ _ _ ⟨[(1, i64 a_1), (2, i64 b_2), (3, .pp [.sl (List.map G.api_Txn.av h_0.Txns)] 0), (23, bl v38)], .empty⟩ _
   refine awp_cond rfl (fun hb39 => ?_) (fun hb39 => ?_)
   ·replace h := Sh.if_t h hb39
    refine awp_seqK fun K8 hK8 => awp_reg rfl <| AR.op rfl (aop_move (.inr rfl) rfl) <| AR.nil <| hK8 _ (AWP.weak (Weak.kt [6] rfl) ?_)
    refine awp_ret ?_
    obtain rfl := Option.some.inj h
    refine ⟨.inr rfl, bl true, rfl, ?_⟩
    exact Weak.e ⟨.k, trivial⟩
   ·replace h := Sh.if_f h hb39
    refine awp_skip <| hK7 _ (AWP.weak (Weak.kt [1, 2, 3] rfl) ?_)
    refine awp_seqK fun K9 hK9 => awp_reg rfl <| AR.op (r := G.api_Hist.av h_0) rfl (aop_load_pp rfl rfl sz24 rfl) ?_
    obtain ⟨r41, hr41, h⟩ := Sh.bind_some' h
    refine AR.op (r := G.graph_Graph.av r41) rfl (aop_call1 rfl rfl (by simp) (known_So_ok hT hr41)) <| AR.op (r := .ref 0 0 0) rfl (aop_alloc 2 [.agg [i64 0, nilS]] rfl zr31 (by kernel_rfl) (.inl ⟨rfl, rfl⟩)) <| AR.keep [1, 2, 3, 25, 9] rfl <| AR.op rfl (aop_store (e' := G.graph_Graph.av r41) rfl rfl rfl rfl rfl rfl sz31 rfl dt rfl) <| AR.nil <| hK9 _ (AWP.weak (Weak.e (fr' := [(1, i64 a_1), (2, i64 b_2), (3, .pp [.sl (List.map G.api_Txn.av h_0.Txns)] 0), (9, .pp [i64 r41.N, .sl (List.map u64 r41.Rows)] 0)]) (H' := .empty) ⟨.k, .k, .k, ⟨_, rfl, .frzA rfl rfl rfl rfl (by simp)⟩, trivial⟩) ?_)
    refine awp_seqK fun K10 hK10 => awp_reg rfl <| AR.op (r := G.graph_Graph.av r41) rfl (aop_load_pp rfl rfl sz31 rfl) ?_
    obtain ⟨r43, hr43, h⟩ := Sh.bind_some' h
    refine AR.op (r := .tuple [G.graph_Graph.av r43.1, i64 r43.2]) rfl (aop_call1 rfl rfl (by simp) (reach_Close_ok hT hr43)) <| AR.op rfl (aop_move (.inl rfl) rfl) <| AR.keep [1, 2, 3, 9, 26] rfl <| AR.op (r := G.graph_Graph.av r43.1) rfl (aop_extract rfl rfl rfl) <| AR.op (r := i64 r43.2) rfl (aop_extract rfl rfl rfl) <| AR.op (r := .ref 0 0 0) rfl (aop_alloc 2 [.agg [i64 0, nilS]] rfl zr31 (by kernel_rfl) (.inl ⟨rfl, rfl⟩)) <| AR.keep [1, 2, 3, 9, 29, 30, 10] rfl <| AR.op rfl (aop_store (e' := G.graph_Graph.av r43.1) rfl rfl rfl rfl rfl rfl sz31 rfl dt rfl) ?_
    refine AR.op rfl (aop_move (.inr rfl) rfl) <| AR.nil <| hK10 _ (AWP.weak (Weak.e (fr' := [(1, i64 a_1), (2, i64 b_2), (3, .pp [.sl (List.map G.api_Txn.av h_0.Txns)] 0), (9, .pp [i64 r41.N, .sl (List.map u64 r41.Rows)] 0), (10, .pp [i64 r43.1.N, .sl (List.map u64 r43.1.Rows)] 0), (11, i64 r43.2)]) (H' := .empty) ⟨.k, .k, .k, .k, ⟨_, rfl, .frzA rfl rfl rfl rfl (by simp)⟩, .k, trivial⟩) ?_)
    refine awp_seqK fun K11 hK11 => awp_seqJ (fun (p : Bool) => (⟨[(1, i64 a_1), (2, i64 b_2), (3, .pp [.sl (List.map G.api_Txn.av h_0.Txns)] 0), (9, .pp [i64 r41.N, .sl (List.map u64 r41.Rows)] 0), (52, bl p)], .empty⟩ : St)) (fun (p : Bool) => G.inquestlaw17_KnownSo_j2 h_0 a_1 b_2 r41 p = some r) ?_ ?_
    ·rintro v59 h
     replace h : G.inquestlaw17_KnownSo_j2 h_0 a_1 b_2 r41 v59 = some r := h
     unfold G.inquestlaw17_KnownSo_j2 at h
     show AWP _ _ _ _ ⟨[(1, i64 a_1), (2, i64 b_2), (3, .pp [.sl (List.map G.api_Txn.av h_0.Txns)] 0), (9, .pp [i64 r41.N, .sl (List.map u64 r41.Rows)] 0), (52, bl v59)], .empty⟩ _
     refine awp_cond rfl (fun hb60 => ?_) (fun hb60 => ?_)
     ·replace h := Sh.if_t h hb60
      refine awp_seqK fun K12 hK12 => awp_reg rfl <| AR.op rfl (aop_move (.inr rfl) rfl) <| AR.nil <| hK12 _ (AWP.weak (Weak.kt [6] rfl) ?_)
      refine awp_ret ?_
      obtain rfl := Option.some.inj h
      refine ⟨.inr rfl, bl false, rfl, ?_⟩
      exact Weak.e ⟨.k, trivial⟩
     ·replace h := Sh.if_f h hb60
      refine awp_skip <| hK11 _ (AWP.weak (Weak.kt [1, 2, 3, 9] rfl) ?_)
      refine awp_seqK fun K13 hK13 => awp_seqJ (fun (p : Bool) => (⟨[(1, i64 a_1), (2, i64 b_2), (3, .pp [.sl (List.map G.api_Txn.av h_0.Txns)] 0), (9, .pp [i64 r41.N, .sl (List.map u64 r41.Rows)] 0), (72, bl p)], .empty⟩ : St)) (fun (p : Bool) => G.inquestlaw17_KnownSo_j3 h_0 a_1 b_2 r41 p = some r) ?_ ?_
      ·rintro v69 h
       replace h : G.inquestlaw17_KnownSo_j3 h_0 a_1 b_2 r41 v69 = some r := h
       unfold G.inquestlaw17_KnownSo_j3 at h
       show AWP _ _ _ _ ⟨[(1, i64 a_1), (2, i64 b_2), (3, .pp [.sl (List.map G.api_Txn.av h_0.Txns)] 0), (9, .pp [i64 r41.N, .sl (List.map u64 r41.Rows)] 0), (72, bl v69)], .empty⟩ _
       refine awp_cond rfl (fun hb70 => ?_) (fun hb70 => ?_)
       ·replace h := Sh.if_t h hb70
        refine awp_seqK fun K14 hK14 => awp_reg rfl <| AR.op (r := G.graph_Graph.av r41) rfl (aop_load_pp rfl rfl sz31 rfl) <| AR.op rfl (aop_move (.inl rfl) rfl) <| AR.op rfl (aop_move (.inl rfl) rfl) <| AR.keep [73, 74, 75] rfl ?_
        obtain ⟨r72, hr72, h⟩ := Sh.bind_some' h
        refine AR.op (r := bl r72) rfl (aop_call1 rfl rfl (by simp) (graph_Has_ok hT hr72)) <| AR.op (r := bl (!r72)) rfl (aop_not rfl rfl) <| AR.op rfl (aop_move (.inr rfl) rfl) <| AR.nil <| hK14 _ (AWP.weak (Weak.kt [6] rfl) ?_)
        refine awp_ret ?_
        obtain rfl := Option.some.inj h
        refine ⟨.inr rfl, bl (!r72), rfl, ?_⟩
        exact Weak.e ⟨.k, trivial⟩
       ·replace h := Sh.if_f h hb70
        refine awp_skip <| hK13 _ (AWP.weak (Weak.kt [1, 2, 3, 9] rfl) ?_)
        refine awp_seqK fun K15 hK15 => awp_any [(true, false), (true, false), (true, false), (true, false), (true, false), (true, false), (true, false), (true, false), (true, false), (true, false), (true, false), (true, false), (true, false), (true, false), (true, false), (true, false), (true, false), (true, false), (true, false), (true, false), (true, false), (true, false), (true, false), (true, false)] (by kernel_rfl) (by kernel_rfl) rfl ?_
        refine ARH.dry (r := G.graph_Graph.av r41) rfl (fun _ => aop_load_pp rfl rfl sz31 rfl) <| ARH.dry rfl (fun _ => aop_move (.inl rfl) rfl) <| ARH.dry rfl (fun _ => aop_move (.inl rfl) rfl) <| ARH.keep [1, 2, 3, 78, 79, 80] rfl ?_
        obtain ⟨r79, hr79, h⟩ := Sh.bind_some' h
        refine ARH.dry (r := bl r79) rfl (fun _ => aop_call1 rfl rfl (by simp) (graph_Has_ok hT hr79)) <| ARH.dry rfl (fun _ => aop_move (.inl rfl) rfl) <| ARH.dry rfl (fun _ => aop_move (.inl rfl) rfl) <| ARH.keep [1, 2, 3, 81, 82, 83] rfl <| ARH.dry rfl (fun _ => aop_lss rfl rfl rfl) <| ARH.dry rfl (fun _ => aop_move (.inl rfl) rfl) ?_
        rcases Bool.eq_false_or_eq_true (decide (a_1 < b_2)) with hb80 | hb80
        ·rw [hb80]
         replace h := Sh.if_t h hb80
         refine ARH.dry rfl (fun _ => aop_field_pp rfl rfl fd24_0 (by decide)) <| ARH.keep [1, 2, 3, 81, 85, 86] rfl <| ARH.dry (r := .sl (List.map G.api_Txn.av h_0.Txns)) rfl (fun _ => aop_load_pp rfl rfl sz22 rfl) <| ARH.dry rfl (fun _ => aop_move (.inl rfl) rfl) ?_
         obtain ⟨x81, hx81, h⟩ := Sh.bind_some' h
         obtain ⟨k82, hi82, hl82⟩ := Sh.idx_some hx81
         refine ARH.dry rfl (fun _ => t_index_sl G.api_Txn.av h_0.Txns hi82 hl82 rfl rfl rfl el22 rfl) <| ARH.keep [2, 3, 81, 85, 89] rfl <| ARH.dry rfl (fun _ => aop_field_pp rfl rfl fd40_0 (by decide)) <| ARH.dry (r := i64 x81.Session) rfl (fun _ => aop_load_pp rfl rfl sz3 rfl) <| ARH.dry rfl (fun _ => aop_field_pp rfl rfl fd24_0 (by decide)) <| ARH.keep [2, 81, 85, 91, 92] rfl <| ARH.dry (r := .sl (List.map G.api_Txn.av h_0.Txns)) rfl (fun _ => aop_load_pp rfl rfl sz22 rfl) <| ARH.dry rfl (fun _ => aop_move (.inl rfl) rfl) ?_
         obtain ⟨x83, hx83, h⟩ := Sh.bind_some' h
         obtain ⟨k84, hi84, hl84⟩ := Sh.idx_some hx83
         refine ARH.dry rfl (fun _ => t_index_sl G.api_Txn.av h_0.Txns hi84 hl84 rfl rfl rfl el22 rfl) <| ARH.keep [81, 85, 91, 95] rfl <| ARH.dry rfl (fun _ => aop_field_pp rfl rfl fd40_0 (by decide)) <| ARH.dry (r := i64 x83.Session) rfl (fun _ => aop_load_pp rfl rfl sz3 rfl) <| ARH.dry (r := bl (decide (x81.Session = x83.Session))) rfl (fun _ => aop_eql rfl rfl rfl) <| ARH.keep [81, 85, 98] rfl <| ARH.dry rfl (fun _ => aop_pick rfl rfl rfl) <| ARH.dry (r := bl (r79 == (decide (x81.Session = x83.Session)))) rfl (fun _ => aop_eqb rfl rfl rfl Tryd.underlying4) ?_
         refine ARH.dry rfl (fun _ => aop_move (.inr rfl) rfl) <| ARH.nil <| hK15 _ (AWP.weak (Weak.kt [6] rfl) ?_)
         refine awp_ret ?_
         obtain rfl := Option.some.inj h
         refine ⟨.inr rfl, bl (r79 == (decide (x81.Session = x83.Session))), rfl, ?_⟩
         exact Weak.e ⟨.k, trivial⟩
        ·rw [hb80]
         replace h := Sh.if_f h hb80
         refine ARH.skip rfl <| ARH.keep [1, 2, 3, 81, 85, 86] rfl <| ARH.skip rfl <| ARH.skip rfl <| ARH.skip rfl <| ARH.keep [2, 3, 81, 85, 89] rfl <| ARH.skip rfl <| ARH.skip rfl ?_
         refine ARH.skip rfl <| ARH.keep [2, 81, 85, 91, 92] rfl <| ARH.skip rfl <| ARH.skip rfl <| ARH.skip rfl <| ARH.keep [81, 85, 91, 95] rfl <| ARH.skip rfl <| ARH.skip rfl ?_
         refine ARH.skip rfl <| ARH.keep [81, 85, 98] rfl <| ARH.dry rfl (fun _ => aop_pick rfl rfl rfl) <| ARH.dry (r := bl (r79 == false)) rfl (fun _ => aop_eqb rfl rfl rfl Tryd.underlying4) <| ARH.dry rfl (fun _ => aop_move (.inr rfl) rfl) <| ARH.nil <| hK15 _ (AWP.weak (Weak.kt [6] rfl) ?_)
         refine awp_ret ?_
         obtain rfl := Option.some.inj h
         refine ⟨.inr rfl, bl (r79 == false), rfl, ?_⟩
         exact Weak.e ⟨.k, trivial⟩
      ·intro K16 hK16
       refine awp_reg rfl <| AR.op rfl (aop_move (.inl rfl) rfl) <| AR.op rfl (aop_lss rfl rfl rfl) <| AR.op rfl (aop_move (.inl rfl) rfl) <| AR.keep [1, 2, 3, 9, 55] rfl ?_
       rcases Bool.eq_false_or_eq_true (decide (a_1 < 0)) with hb85 | hb85
       ·rw [hb85]
        replace h := Sh.if_t h hb85
        refine AR.skip rfl <| AR.skip rfl <| AR.skip rfl <| AR.keep [1, 2, 3, 9, 55, 56, 58] rfl <| AR.skip rfl <| AR.skip rfl <| AR.op rfl (aop_pick rfl rfl rfl) <| AR.keep [1, 2, 3, 9, 61] rfl ?_
        refine AR.op rfl (aop_move (.inl rfl) rfl) <| AR.skip rfl <| AR.skip rfl <| AR.keep [1, 2, 3, 9, 62, 64] rfl <| AR.op rfl (aop_pick rfl rfl rfl) <| AR.op rfl (aop_move (.inl rfl) rfl) <| AR.skip rfl <| AR.keep [1, 2, 3, 9, 66, 67] rfl ?_
        refine AR.skip rfl <| AR.skip rfl <| AR.skip rfl <| AR.keep [1, 2, 3, 9, 66, 67, 70] rfl <| AR.skip rfl <| AR.op rfl (aop_pick rfl rfl rfl) <| AR.nil ?_
        exact hK16 true _ h (Weak.kt [1, 2, 3, 9, 72] rfl)
       ·rw [hb85]
        replace h := Sh.if_f h hb85
        refine AR.op rfl (aop_move (.inl rfl) rfl) <| AR.op rfl (aop_field_pp rfl rfl fd24_0 (by decide)) <| AR.op (r := .sl (List.map G.api_Txn.av h_0.Txns)) rfl (aop_load_pp rfl rfl sz22 rfl) <| AR.keep [1, 2, 3, 9, 55, 56, 58] rfl <| AR.op rfl (t_len_sl G.api_Txn.av h_0.Txns rfl rfl el22) <| AR.op rfl (aop_geq rfl rfl rfl) <| AR.op rfl (aop_pick rfl rfl rfl) <| AR.keep [1, 2, 3, 9, 61] rfl ?_
        refine AR.op rfl (aop_move (.inl rfl) rfl) ?_
        rcases Bool.eq_false_or_eq_true (decide ((Sh.len h_0.Txns) ≤ a_1)) with hb86 | hb86
        ·rw [hb86]
         replace h := Sh.if_t h hb86
         refine AR.skip rfl <| AR.skip rfl <| AR.keep [1, 2, 3, 9, 62, 64] rfl <| AR.op rfl (aop_pick rfl rfl rfl) <| AR.op rfl (aop_move (.inl rfl) rfl) <| AR.skip rfl <| AR.keep [1, 2, 3, 9, 66, 67] rfl <| AR.skip rfl ?_
         refine AR.skip rfl <| AR.skip rfl <| AR.keep [1, 2, 3, 9, 66, 67, 70] rfl <| AR.skip rfl <| AR.op rfl (aop_pick rfl rfl rfl) <| AR.nil ?_
         exact hK16 true _ h (Weak.kt [1, 2, 3, 9, 72] rfl)
        ·rw [hb86]
         replace h := Sh.if_f h hb86
         refine AR.op rfl (aop_move (.inl rfl) rfl) <| AR.op rfl (aop_lss rfl rfl rfl) <| AR.keep [1, 2, 3, 9, 62, 64] rfl <| AR.op rfl (aop_pick rfl rfl rfl) <| AR.op rfl (aop_move (.inl rfl) rfl) ?_
         rcases Bool.eq_false_or_eq_true (decide (b_2 < 0)) with hb87 | hb87
         ·rw [hb87]
          replace h := Sh.if_t h hb87
          refine AR.skip rfl <| AR.keep [1, 2, 3, 9, 66, 67] rfl <| AR.skip rfl <| AR.skip rfl <| AR.skip rfl <| AR.keep [1, 2, 3, 9, 66, 67, 70] rfl <| AR.skip rfl <| AR.op rfl (aop_pick rfl rfl rfl) ?_
          refine AR.nil ?_
          exact hK16 true _ h (Weak.kt [1, 2, 3, 9, 72] rfl)
         ·rw [hb87]
          replace h := Sh.if_f h hb87
          refine AR.op rfl (aop_move (.inl rfl) rfl) <| AR.keep [1, 2, 3, 9, 66, 67] rfl <| AR.op rfl (aop_field_pp rfl rfl fd24_0 (by decide)) <| AR.op (r := .sl (List.map G.api_Txn.av h_0.Txns)) rfl (aop_load_pp rfl rfl sz22 rfl) <| AR.op rfl (t_len_sl G.api_Txn.av h_0.Txns rfl rfl el22) <| AR.keep [1, 2, 3, 9, 66, 67, 70] rfl <| AR.op rfl (aop_geq rfl rfl rfl) <| AR.op rfl (aop_pick rfl rfl rfl) ?_
          refine AR.nil ?_
          exact hK16 (decide ((Sh.len h_0.Txns) ≤ b_2)) _ h (Weak.e (fr' := [(1, i64 a_1), (2, i64 b_2), (3, .pp [.sl (List.map G.api_Txn.av h_0.Txns)] 0), (9, .pp [i64 r41.N, .sl (List.map u64 r41.Rows)] 0), (72, bl (decide ((Sh.len h_0.Txns) ≤ b_2)))]) (H' := .empty) ⟨.k, .k, .k, .k, .k, trivial⟩)
    ·intro K17 hK17
     refine awp_any [(true, false), (true, false), (true, false), (true, false), (true, false), (true, false), (true, false), (true, false), (true, false), (true, false), (true, false), (true, false), (true, false), (true, false), (true, false), (true, false), (true, false), (true, false), (true, false), (true, false), (true, false), (true, false)] (by kernel_rfl) (by kernel_rfl) rfl ?_
     refine ARH.dry rfl (fun _ => aop_move (.inl rfl) rfl) <| ARH.dry (r := bl (decide (r43.2 ≠ 0))) rfl (fun _ => aop_neq rfl rfl rfl) <| ARH.dry rfl (fun _ => aop_move (.inl rfl) rfl) <| ARH.keep [1, 2, 3, 9, 10, 33] rfl ?_
     rcases Bool.eq_false_or_eq_true (decide (r43.2 ≠ 0)) with hb88 | hb88
     ·rw [hb88]
      replace h := Sh.if_t h hb88
      refine ARH.skip rfl <| ARH.skip rfl <| ARH.skip rfl <| ARH.keep [1, 2, 3, 9, 33, 35, 36] rfl <| ARH.skip rfl <| ARH.skip rfl <| ARH.skip rfl <| ARH.keep [1, 2, 3, 9, 33, 39] rfl ?_
      refine ARH.dry rfl (fun _ => aop_pick rfl rfl rfl) <| ARH.dry rfl (fun _ => aop_move (.inl rfl) rfl) <| ARH.skip rfl <| ARH.keep [1, 2, 3, 9, 41, 42] rfl <| ARH.skip rfl <| ARH.dry rfl (fun _ => aop_pick rfl rfl rfl) <| ARH.dry rfl (fun _ => aop_move (.inl rfl) rfl) <| ARH.keep [1, 2, 3, 9, 45] rfl ?_
      refine ARH.skip rfl <| ARH.skip rfl <| ARH.skip rfl <| ARH.keep [1, 2, 3, 9, 45, 47, 48] rfl <| ARH.skip rfl <| ARH.skip rfl <| ARH.skip rfl <| ARH.keep [1, 2, 3, 9, 45, 51] rfl ?_
      refine ARH.dry rfl (fun _ => aop_pick rfl rfl rfl) <| ARH.nil ?_
      exact hK17 true _ h (Weak.kt [1, 2, 3, 9, 52] rfl)
     ·rw [hb88]
      replace h := Sh.if_f h hb88
      refine ARH.dry (r := G.graph_Graph.av r43.1) rfl (fun _ => aop_load_pp rfl rfl sz31 rfl) ?_
      obtain ⟨r89, hr89, h⟩ := Sh.bind_some' h
      refine ARH.dry (r := G.inquestref12_G.av r89) rfl (fun _ => aop_call1 rfl rfl (by simp) (inquestlaw17_plain_ok hT hr89)) <| ARH.dry (r := G.graph_Graph.av r41) rfl (fun _ => aop_load_pp rfl rfl sz31 rfl) <| ARH.keep [1, 2, 3, 9, 33, 35, 36] rfl ?_
      obtain ⟨r90, hr90, h⟩ := Sh.bind_some' h
      refine ARH.dry (r := G.inquestref12_G.av r90) rfl (fun _ => aop_call1 rfl rfl (by simp) (inquestlaw17_plain_ok hT hr90)) ?_
      obtain ⟨r91, hr91, h⟩ := Sh.bind_some' h
      refine ARH.dry (r := bl r91) rfl (fun _ => aop_call1 rfl rfl (by simp) (inquestref12_Same_ok hT hr91)) <| ARH.dry (r := bl (!r91)) rfl (fun _ => aop_not rfl rfl) <| ARH.keep [1, 2, 3, 9, 33, 39] rfl <| ARH.dry rfl (fun _ => aop_pick rfl rfl rfl) <| ARH.dry rfl (fun _ => aop_move (.inl rfl) rfl) ?_
      rcases Bool.eq_false_or_eq_true (!r91) with hb92 | hb92
      ·rw [hb92]
       replace h := Sh.if_t h hb92
       refine ARH.skip rfl <| ARH.keep [1, 2, 3, 9, 41, 42] rfl <| ARH.skip rfl <| ARH.dry rfl (fun _ => aop_pick rfl rfl rfl) <| ARH.dry rfl (fun _ => aop_move (.inl rfl) rfl) <| ARH.keep [1, 2, 3, 9, 45] rfl <| ARH.skip rfl <| ARH.skip rfl ?_
       refine ARH.skip rfl <| ARH.keep [1, 2, 3, 9, 45, 47, 48] rfl <| ARH.skip rfl <| ARH.skip rfl <| ARH.skip rfl <| ARH.keep [1, 2, 3, 9, 45, 51] rfl <| ARH.dry rfl (fun _ => aop_pick rfl rfl rfl) <| ARH.nil ?_
       exact hK17 true _ h (Weak.kt [1, 2, 3, 9, 52] rfl)
      ·rw [hb92]
       replace h := Sh.if_f h hb92
       refine ARH.dry (r := G.graph_Graph.av r41) rfl (fun _ => aop_load_pp rfl rfl sz31 rfl) <| ARH.keep [1, 2, 3, 9, 41, 42] rfl ?_
       obtain ⟨r93, hr93, h⟩ := Sh.bind_some' h
       refine ARH.dry (r := bl r93) rfl (fun _ => aop_call1 rfl rfl (by simp) (reach_Cyclic_ok hT hr93)) <| ARH.dry rfl (fun _ => aop_pick rfl rfl rfl) <| ARH.dry rfl (fun _ => aop_move (.inl rfl) rfl) <| ARH.keep [1, 2, 3, 9, 45] rfl ?_
       rcases Bool.eq_false_or_eq_true (r93) with hb94 | hb94
       ·rw [hb94]
        replace h := Sh.if_t h hb94
        refine ARH.skip rfl <| ARH.skip rfl <| ARH.skip rfl <| ARH.keep [1, 2, 3, 9, 45, 47, 48] rfl <| ARH.skip rfl <| ARH.skip rfl <| ARH.skip rfl <| ARH.keep [1, 2, 3, 9, 45, 51] rfl ?_
        refine ARH.dry rfl (fun _ => aop_pick rfl rfl rfl) <| ARH.nil ?_
        exact hK17 true _ h (Weak.kt [1, 2, 3, 9, 52] rfl)
       ·rw [hb94]
        replace h := Sh.if_f h hb94
        refine ARH.dry rfl (fun _ => aop_field_pp rfl rfl fd31_0 (by decide)) <| ARH.dry (r := i64 r41.N) rfl (fun _ => aop_load_pp rfl rfl sz3 rfl) <| ARH.dry rfl (fun _ => aop_field_pp rfl rfl fd24_0 (by decide)) <| ARH.keep [1, 2, 3, 9, 45, 47, 48] rfl <| ARH.dry (r := .sl (List.map G.api_Txn.av h_0.Txns)) rfl (fun _ => aop_load_pp rfl rfl sz22 rfl) <| ARH.dry rfl (fun _ => t_len_sl G.api_Txn.av h_0.Txns rfl rfl el22) <| ARH.dry (r := bl (decide (r41.N ≠ (Sh.len h_0.Txns)))) rfl (fun _ => aop_neq rfl rfl rfl) <| ARH.keep [1, 2, 3, 9, 45, 51] rfl ?_
        refine ARH.dry rfl (fun _ => aop_pick rfl rfl rfl) <| ARH.nil ?_
        exact hK17 (decide (r41.N ≠ (Sh.len h_0.Txns))) _ h (Weak.e (fr' := [(1, i64 a_1), (2, i64 b_2), (3, .pp [.sl (List.map G.api_Txn.av h_0.Txns)] 0), (9, .pp [i64 r41.N, .sl (List.map u64 r41.Rows)] 0), (52, bl (decide (r41.N ≠ (Sh.len h_0.Txns))))]) (H' := .empty) ⟨.k, .k, .k, .k, .k, trivial⟩)
  ·intro K18 hK18
   refine awp_reg rfl <| AR.op rfl (aop_move (.inl rfl) rfl) <| AR.op (r := bl (!r32)) rfl (aop_not rfl rfl) <| AR.op rfl (aop_move (.inl rfl) rfl) <| AR.keep [1, 2, 3, 19] rfl ?_
   rcases Bool.eq_false_or_eq_true (!r32) with hb95 | hb95
   ·rw [hb95]
    replace h := Sh.if_t h hb95
    refine AR.skip rfl <| AR.skip rfl <| AR.skip rfl <| AR.keep [1, 2, 3, 19, 22] rfl <| AR.op rfl (aop_pick rfl rfl rfl) <| AR.nil ?_
    exact hK18 true _ h (Weak.kt [1, 2, 3, 23] rfl)
   ·rw [hb95]
    replace h := Sh.if_f h hb95
    refine AR.op (r := G.api_Hist.av h_0) rfl (aop_load_pp rfl rfl sz24 rfl) ?_
    obtain ⟨r96, hr96, h⟩ := Sh.bind_some' h
    refine AR.op (r := bl r96) rfl (aop_call1 rfl rfl (by simp) (hist_Right_ok hT hr96)) <| AR.op (r := bl (!r96)) rfl (aop_not rfl rfl) <| AR.keep [1, 2, 3, 19, 22] rfl <| AR.op rfl (aop_pick rfl rfl rfl) <| AR.nil ?_
    exact hK18 (!r96) _ h (Weak.e (fr' := [(1, i64 a_1), (2, i64 b_2), (3, .pp [.sl (List.map G.api_Txn.av h_0.Txns)] 0), (23, bl (!r96))]) (H' := .empty) ⟨.k, .k, .k, .k, trivial⟩)
theorem inquestlaw17_KnownSo_ok {W0 : World} (hT : Tab W0) {h_0 : G.api_Hist} {a_1 : Int} {b_2 : Int} {r : Bool} (h : G.inquestlaw17_KnownSo h_0 a_1 b_2 = some r) : Fun1 Tryd.prog W0 6 [G.api_Hist.av h_0, i64 a_1, i64 b_2] (bl r) := Fun1.two (inquestlaw17_KnownSo_ok0 hT h) (by simp)

end Wk
