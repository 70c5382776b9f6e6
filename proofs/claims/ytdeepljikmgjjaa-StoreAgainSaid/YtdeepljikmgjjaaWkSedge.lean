/- That the functions of a package do what their plain functions say. -/
import Derived.Test.YtdeepljikmgjjaaSh
import Derived.Test.YtdeepljikmgjjaaWkSFacts
import Derived.Test.YtdeepljikmgjjaaWkShist
import Derived.Test.YtdeepljikmgjjaaWkSstdslices
open Go Go.Av Go.Proofs
set_option linter.unusedVariables false
set_option maxHeartbeats 8000000
set_option maxRecDepth 20000
namespace Wk
theorem edge_session_is_ok0 {W0 : World} (hT : Tab W0) {a_0 : G.edge_session} {h_1 : G.api_Hist} {x_2 : Int} {y_3 : Int} {r : Bool} (h : G.edge_session_is a_0 h_1 x_2 y_3 = some r) : Fun2 Try.prog W0 87 [G.edge_session.av a_0, G.api_Hist.av h_1, i64 x_2, i64 y_3] (bl r) .empty := by
 refine fun2_of_awp Try.func87 rfl (by kernel_rfl) Try.ntmps87 (by simp) ?_
 unfold G.edge_session_is at h
 show AWP _ _ _ _ ⟨[(0, G.edge_session.av a_0), (1, G.api_Hist.av h_1), (2, i64 x_2), (3, i64 y_3)], .empty⟩ _
 refine awp_seqK fun K1 hK1 => awp_reg rfl <| AR.op (r := .any) rfl (aop_box0 rfl) <| AR.op (r := .ref 0 0 0) rfl (aop_box 1 [G.api_Hist.av h_1] rfl rfl rfl (.inl ⟨rfl, rfl⟩)) <| AR.op rfl (aop_move (.inr rfl) rfl) <| AR.nil <| hK1 _ (AWP.weak (Weak.e (fr' := [(2, i64 x_2), (3, i64 y_3), (5, .pp [.sl (List.map G.api_Txn.av h_1.Txns)] 0)]) (H' := .empty) ⟨.k, .k, ⟨_, rfl, .frzA rfl rfl rfl rfl (by simp)⟩, trivial⟩) ?_)
 refine awp_seqK fun K2 hK2 => awp_any [(true, false), (true, false), (true, false), (true, false), (true, false), (true, false), (true, false), (true, false), (true, false), (true, false), (true, false), (true, false), (true, false), (true, false), (true, false), (true, false), (true, false), (true, false), (true, false)] (by kernel_rfl) (by kernel_rfl) rfl ?_
 refine ARH.dry rfl (fun _ => aop_move (.inl rfl) rfl) <| ARH.dry rfl (fun _ => aop_move (.inl rfl) rfl) <| ARH.dry rfl (fun _ => aop_lss rfl rfl rfl) <| ARH.keep [2, 3, 5, 11] rfl <| ARH.dry rfl (fun _ => aop_move (.inl rfl) rfl) ?_
 rcases Bool.eq_false_or_eq_true (decide (x_2 < y_3)) with hb12 | hb12
 ·rw [hb12]
  replace h := Sh.if_t h hb12
  refine ARH.dry rfl (fun _ => aop_field_pp rfl rfl fd24_0 (by decide)) <| ARH.dry (r := .sl (List.map G.api_Txn.av h_1.Txns)) rfl (fun _ => aop_load_pp rfl rfl sz22 rfl) <| ARH.keep [2, 3, 5, 12, 14] rfl <| ARH.dry rfl (fun _ => aop_move (.inl rfl) rfl) ?_
  obtain ⟨x13, hx13, h⟩ := Sh.bind_some' h
  obtain ⟨k14, hi14, hl14⟩ := Sh.idx_some hx13
  refine ARH.dry rfl (fun _ => t_index_sl G.api_Txn.av h_1.Txns hi14 hl14 rfl rfl rfl el22 rfl) <| ARH.dry rfl (fun _ => aop_field_pp rfl rfl fd58_0 (by decide)) <| ARH.keep [3, 5, 12, 17] rfl <| ARH.dry (r := i64 x13.Session) rfl (fun _ => aop_load_pp rfl rfl sz3 rfl) <| ARH.dry rfl (fun _ => aop_field_pp rfl rfl fd24_0 (by decide)) <| ARH.dry (r := .sl (List.map G.api_Txn.av h_1.Txns)) rfl (fun _ => aop_load_pp rfl rfl sz22 rfl) <| ARH.keep [3, 12, 18, 20] rfl <| ARH.dry rfl (fun _ => aop_move (.inl rfl) rfl) ?_
  obtain ⟨x15, hx15, h⟩ := Sh.bind_some' h
  obtain ⟨k16, hi16, hl16⟩ := Sh.idx_some hx15
  refine ARH.dry rfl (fun _ => t_index_sl G.api_Txn.av h_1.Txns hi16 hl16 rfl rfl rfl el22 rfl) <| ARH.dry rfl (fun _ => aop_field_pp rfl rfl fd58_0 (by decide)) <| ARH.keep [12, 18, 23] rfl <| ARH.dry (r := i64 x15.Session) rfl (fun _ => aop_load_pp rfl rfl sz3 rfl) <| ARH.dry (r := bl (decide (x13.Session = x15.Session))) rfl (fun _ => aop_eql rfl rfl rfl) <| ARH.dry rfl (fun _ => aop_pick rfl rfl rfl) <| ARH.keep [26] rfl <| ARH.dry rfl (fun _ => aop_move (.inr rfl) rfl) ?_
  refine ARH.nil <| hK2 _ (AWP.weak (Weak.kt [8] rfl) ?_)
  refine awp_ret ?_
  obtain rfl := Option.some.inj h
  refine ⟨.inr rfl, bl (decide (x13.Session = x15.Session)), rfl, ?_⟩
  exact Weak.e ⟨.k, trivial⟩
 ·rw [hb12]
  replace h := Sh.if_f h hb12
  refine ARH.skip rfl <| ARH.skip rfl <| ARH.keep [2, 3, 5, 12, 14] rfl <| ARH.skip rfl <| ARH.skip rfl <| ARH.skip rfl <| ARH.keep [3, 5, 12, 17] rfl <| ARH.skip rfl ?_
  refine ARH.skip rfl <| ARH.skip rfl <| ARH.keep [3, 12, 18, 20] rfl <| ARH.skip rfl <| ARH.skip rfl <| ARH.skip rfl <| ARH.keep [12, 18, 23] rfl <| ARH.skip rfl ?_
  refine ARH.skip rfl <| ARH.dry rfl (fun _ => aop_pick rfl rfl rfl) <| ARH.keep [26] rfl <| ARH.dry rfl (fun _ => aop_move (.inr rfl) rfl) <| ARH.nil <| hK2 _ (AWP.weak (Weak.kt [8] rfl) ?_)
  refine awp_ret ?_
  obtain rfl := Option.some.inj h
  refine ⟨.inr rfl, bl false, rfl, ?_⟩
  exact Weak.e ⟨.k, trivial⟩
theorem edge_session_is_ok {W0 : World} (hT : Tab W0) {a_0 : G.edge_session} {h_1 : G.api_Hist} {x_2 : Int} {y_3 : Int} {r : Bool} (h : G.edge_session_is a_0 h_1 x_2 y_3 = some r) : Fun1 Try.prog W0 87 [G.edge_session.av a_0, G.api_Hist.av h_1, i64 x_2, i64 y_3] (bl r) := Fun1.two (edge_session_is_ok0 hT h) (by simp)


theorem edge_some_1__edge_session_ok0 {W0 : World} (hT : Tab W0) {k_0 : G.edge_session} {a_1 : G.api_Hist} {a_2 : Int} {a_3 : Int} {r : Bool} (h : G.edge_some_1__edge_session k_0 a_1 a_2 a_3 = some r) : Fun2 Try.prog W0 68 [.ifc 104 (G.edge_session.av k_0), .pp [.sl (List.map G.api_Txn.av a_1.Txns)] 0, .pp [i64 a_2] 0, .pp [i64 a_3] 0] (bl r) .empty := by
 refine fun2_of_awp Try.func68 rfl (by kernel_rfl) Try.ntmps68 (by simp) ?_
 unfold G.edge_some_1__edge_session at h
 show AWP _ _ _ _ ⟨[(0, .ifc 104 (G.edge_session.av k_0)), (1, .pp [.sl (List.map G.api_Txn.av a_1.Txns)] 0), (2, .pp [i64 a_2] 0), (3, .pp [i64 a_3] 0)], .empty⟩ _
 refine awp_seqK fun K1 hK1 => awp_reg rfl <| AR.op rfl (aop_move (.inr rfl) rfl) <| AR.nil <| hK1 _ (AWP.weak (Weak.kt [0, 1, 2, 3] rfl) ?_)
 refine awp_seqK fun K2 hK2 => awp_reg rfl <| AR.op rfl (aop_move (.inl rfl) rfl) <| AR.op (r := G.api_Hist.av a_1) rfl (aop_load_pp rfl rfl sz24 rfl) <| AR.op (r := i64 a_2) rfl (aop_load_pp rfl rfl sz3 rfl) <| AR.keep [3, 6, 7, 8] rfl <| AR.op (r := i64 a_3) rfl (aop_load_pp rfl rfl sz3 rfl) ?_
 obtain ⟨r3, hr3, h⟩ := Sh.bind_some' h
 refine AR.op (r := bl r3) rfl (aop_callNE (ys := [G.edge_session.av k_0, G.api_Hist.av a_1, i64 a_2, i64 a_3]) (xs := [G.edge_session.av k_0, G.api_Hist.av a_1, i64 a_2, i64 a_3]) (.iface rfl rfl rfl mt104_87 (edge_session_is_ok hT hr3).call) (Weak.refl _) rfl (by simp) (edge_session_is_ok hT hr3)) <| AR.op rfl (aop_move (.inr rfl) rfl) <| AR.nil <| hK2 _ (AWP.weak (Weak.kt [5] rfl) ?_)
 refine awp_ret ?_
 obtain rfl := Option.some.inj h
 refine ⟨.inr rfl, bl r3, rfl, ?_⟩
 exact Weak.e ⟨.k, trivial⟩
theorem edge_some_1__edge_session_ok {W0 : World} (hT : Tab W0) {k_0 : G.edge_session} {a_1 : G.api_Hist} {a_2 : Int} {a_3 : Int} {r : Bool} (h : G.edge_some_1__edge_session k_0 a_1 a_2 a_3 = some r) : Fun1 Try.prog W0 68 [.ifc 104 (G.edge_session.av k_0), .pp [.sl (List.map G.api_Txn.av a_1.Txns)] 0, .pp [i64 a_2] 0, .pp [i64 a_3] 0] (bl r) := Fun1.two (edge_some_1__edge_session_ok0 hT h) (by simp)


theorem edge_read_is_1__1_ok0 {W0 : World} (hT : Tab W0) {r_0 : G.api_Take} {a_1 : Int} {r : Bool} (h : G.edge_read_is_1__1 r_0 a_1 = some r) : Fun2 Try.prog W0 90 [G.api_Take.av r_0, .pp [i64 a_1] 0] (bl r) .empty := by
 refine fun2_of_awp Try.func90 rfl (by kernel_rfl) Try.ntmps90 (by simp) ?_
 unfold G.edge_read_is_1__1 at h
 show AWP _ _ _ _ ⟨[(0, G.api_Take.av r_0), (1, .pp [i64 a_1] 0)], .empty⟩ _
 refine awp_seqK fun K1 hK1 => awp_reg rfl <| AR.op (r := .ref 0 0 0) rfl (aop_box 2 [G.api_Take.av r_0] rfl rfl rfl (.inl ⟨rfl, rfl⟩)) <| AR.op rfl (aop_move (.inr rfl) rfl) <| AR.nil <| hK1 _ (AWP.weak (Weak.e (fr' := [(1, .pp [i64 a_1] 0), (2, .pp [i64 r_0.Key, i64 r_0.From] 0)]) (H' := .empty) ⟨.k, ⟨_, rfl, .frzA rfl rfl rfl rfl (by simp)⟩, trivial⟩) ?_)
 refine awp_seqK fun K2 hK2 => awp_reg rfl <| AR.op rfl (aop_field_pp rfl rfl fd78_1 (by decide)) <| AR.op (r := i64 r_0.From) rfl (aop_load_pp rfl rfl sz3 rfl) <| AR.op (r := i64 a_1) rfl (aop_load_pp rfl rfl sz3 rfl) <| AR.keep [5, 6] rfl <| AR.op (r := bl (decide (r_0.From = a_1))) rfl (aop_eql rfl rfl rfl) <| AR.op rfl (aop_move (.inr rfl) rfl) ?_
 refine AR.nil <| hK2 _ (AWP.weak (Weak.kt [3] rfl) ?_)
 refine awp_ret ?_
 obtain rfl := Option.some.inj h
 refine ⟨.inr rfl, bl (decide (r_0.From = a_1)), rfl, ?_⟩
 exact Weak.e ⟨.k, trivial⟩
theorem edge_read_is_1__1_ok {W0 : World} (hT : Tab W0) {r_0 : G.api_Take} {a_1 : Int} {r : Bool} (h : G.edge_read_is_1__1 r_0 a_1 = some r) : Fun1 Try.prog W0 90 [G.api_Take.av r_0, .pp [i64 a_1] 0] (bl r) := Fun1.two (edge_read_is_1__1_ok0 hT h) (by simp)


theorem slices_IndexFunc_api_Take_api_Take__edge_read_is_1_ok0 {W0 : World} (hT : Tab W0) {s_0 : List G.api_Take} {f_1 : Int} {r : Int} (h : G.slices_IndexFunc_api_Take_api_Take__edge_read_is_1 s_0 f_1 = some r) : Fun2 Try.prog W0 91 [.sl (List.map G.api_Take.av s_0), .clo (.func 90) [.pp [i64 f_1] 0]] (i64 r) .empty := by
 refine fun2_of_awp Try.func91 rfl (by kernel_rfl) Try.ntmps91 (by simp) ?_
 unfold G.slices_IndexFunc_api_Take_api_Take__edge_read_is_1 at h
 show AWP _ _ _ _ ⟨[(0, .sl (List.map G.api_Take.av s_0)), (1, .clo (.func 90) [.pp [i64 f_1] 0])], .empty⟩ _
 refine awp_seqK fun K1 hK1 => awp_reg rfl <| AR.op rfl (aop_move (.inr rfl) rfl) <| AR.nil <| hK1 _ (AWP.weak (Weak.kt [0, 1] rfl) ?_)
 refine awp_seqJ (fun (p : Unit) => (⟨[], .empty⟩ : St)) (fun (p : Unit) => G.slices_IndexFunc_api_Take_api_Take__edge_read_is_1_j1 = some r) ?_ ?_
 ·rintro ⟨⟩ h
  replace h : G.slices_IndexFunc_api_Take_api_Take__edge_read_is_1_j1 = some r := h
  unfold G.slices_IndexFunc_api_Take_api_Take__edge_read_is_1_j1 at h
  refine awp_seqK fun K2 hK2 => awp_reg rfl <| AR.op rfl (aop_move (.inr rfl) rfl) <| AR.nil <| hK2 _ ?_
  refine awp_ret ?_
  obtain rfl := Option.some.inj h
  refine ⟨.inr rfl, i64 (-1), rfl, ?_⟩
  exact Weak.e ⟨.k, trivial⟩
 ·intro K3 hK3
  refine awp_seqK fun K4 hK4 => awp_reg rfl <| AR.op rfl (aop_move (.inl rfl) rfl) <| AR.op rfl (t_len_sl G.api_Take.av s_0 rfl rfl el56) <| AR.op rfl (aop_move (.inl rfl) rfl) <| AR.nil <| hK4 _ (AWP.weak (Weak.kt [0, 1, 7, 8] rfl) ?_)
  refine awp_block <| awp_iter (fun (p : Int) => G.slices_IndexFunc_api_Take_api_Take__edge_read_is_1_b1 s_0 f_1 p) (fun (p : Int) => (⟨[(0, .sl (List.map G.api_Take.av s_0)), (1, .clo (.func 90) [.pp [i64 f_1] 0]), (7, i64 (Sh.len s_0)), (8, i64 p)], .empty⟩ : St)) h (Weak.kt [0, 1, 7, 8] rfl) ?_
  ·skip
   rintro v30 o1 h hx1
   replace h : G.slices_IndexFunc_api_Take_api_Take__edge_read_is_1_b1 s_0 f_1 v30 = some o1 := h
   unfold G.slices_IndexFunc_api_Take_api_Take__edge_read_is_1_b1 at h
   refine awp_seqK fun K5 hK5 => awp_reg rfl <| AR.op rfl (aop_lss rfl rfl rfl) <| AR.nil <| hK5 _ ?_
   refine awp_seqK fun K6 hK6 => awp_cond rfl (fun hb31 => ?_) (fun hb31 => ?_)
   ·replace h := Sh.if_t h hb31
    refine awp_skip <| hK6 _ (AWP.weak (Weak.kt [0, 1, 7, 8] rfl) ?_)
    refine awp_seqK fun K7 hK7 => awp_block <| awp_seqK fun K8 hK8 => awp_reg rfl <| AR.op rfl (aop_move (.inl rfl) rfl) <| AR.op rfl (aop_move (.inr rfl) rfl) <| AR.nil <| hK8 _ (AWP.weak (Weak.kt [0, 1, 7, 8, 5] rfl) ?_)
    refine awp_seqK fun K9 hK9 => awp_reg rfl <| AR.op rfl (aop_move (.inl rfl) rfl) <| AR.op rfl (aop_move (.inl rfl) rfl) <| AR.op rfl (aop_move (.inl rfl) rfl) <| AR.keep [0, 1, 7, 8, 5, 11, 12, 13] rfl ?_
    obtain ⟨x38, hx38, h⟩ := Sh.bind_some' h
    obtain ⟨k39, hi39, hl39⟩ := Sh.idx_some hx38
    refine AR.op rfl (t_index_sl G.api_Take.av s_0 hi39 hl39 rfl rfl rfl el56 rfl) <| AR.op (r := G.api_Take.av x38) rfl (aop_load_pp rfl rfl sz78 rfl) ?_
    obtain ⟨r40, hr40, h⟩ := Sh.bind_some' h
    refine AR.op (r := bl r40) rfl (aop_callNE (ys := [G.api_Take.av x38, .pp [i64 f_1] 0]) (xs := [G.api_Take.av x38, .pp [i64 f_1] 0]) (.clo (ys := [G.api_Take.av x38]) (caps := [.pp [i64 f_1] 0]) rfl rfl rfl (edge_read_is_1__1_ok hT hr40).call) (Weak.refl _) rfl (by simp) (edge_read_is_1__1_ok hT hr40)) <| AR.nil <| hK9 _ (AWP.weak (Weak.kt [0, 1, 7, 8, 5, 16] rfl) ?_)
    refine awp_cond rfl (fun hb41 => ?_) (fun hb41 => ?_)
    ·replace h := Sh.if_t h hb41
     refine awp_seqK fun K10 hK10 => awp_reg rfl <| AR.op rfl (aop_move (.inl rfl) rfl) <| AR.op rfl (aop_move (.inr rfl) rfl) <| AR.nil <| hK10 _ (AWP.weak (Weak.kt [4] rfl) ?_)
     refine awp_ret ?_
     replace h := Sh.exit_eq h hx1
     obtain rfl := Option.some.inj h
     refine ⟨.inr rfl, i64 v30, rfl, ?_⟩
     exact Weak.e ⟨.k, trivial⟩
    ·replace h := Sh.if_f h hb41
     refine awp_skip <| hK7 _ (AWP.weak (Weak.kt [0, 1, 7, 8] rfl) ?_)
     refine awp_reg rfl <| AR.op rfl (aop_add rfl rfl rfl rfl) <| AR.op rfl (aop_move (.inl rfl) rfl) <| AR.nil ?_
     replace h := Sh.next_eq h
     exact ⟨_, h, Weak.kt [0, 1, 7, 8] rfl⟩
   ·replace h := Sh.if_f h hb31
    refine awp_exit ?_
    replace h := Sh.exit_eq h hx1
    exact hK3 () _ h (Weak.kt [] rfl)
theorem slices_IndexFunc_api_Take_api_Take__edge_read_is_1_ok {W0 : World} (hT : Tab W0) {s_0 : List G.api_Take} {f_1 : Int} {r : Int} (h : G.slices_IndexFunc_api_Take_api_Take__edge_read_is_1 s_0 f_1 = some r) : Fun1 Try.prog W0 91 [.sl (List.map G.api_Take.av s_0), .clo (.func 90) [.pp [i64 f_1] 0]] (i64 r) := Fun1.two (slices_IndexFunc_api_Take_api_Take__edge_read_is_1_ok0 hT h) (by simp)


theorem slices_ContainsFunc_api_Take_api_Take__edge_read_is_1_ok0 {W0 : World} (hT : Tab W0) {s_0 : List G.api_Take} {f_1 : Int} {r : Bool} (h : G.slices_ContainsFunc_api_Take_api_Take__edge_read_is_1 s_0 f_1 = some r) : Fun2 Try.prog W0 89 [.sl (List.map G.api_Take.av s_0), .clo (.func 90) [.pp [i64 f_1] 0]] (bl r) .empty := by
 refine fun2_of_awp Try.func89 rfl (by kernel_rfl) Try.ntmps89 (by simp) ?_
 unfold G.slices_ContainsFunc_api_Take_api_Take__edge_read_is_1 at h
 show AWP _ _ _ _ ⟨[(0, .sl (List.map G.api_Take.av s_0)), (1, .clo (.func 90) [.pp [i64 f_1] 0])], .empty⟩ _
 refine awp_seqK fun K1 hK1 => awp_reg rfl <| AR.op rfl (aop_move (.inr rfl) rfl) <| AR.nil <| hK1 _ (AWP.weak (Weak.kt [0, 1] rfl) ?_)
 refine awp_seqK fun K2 hK2 => awp_reg rfl <| AR.op rfl (aop_move (.inl rfl) rfl) <| AR.op rfl (aop_move (.inl rfl) rfl) ?_
 obtain ⟨r3, hr3, h⟩ := Sh.bind_some' h
 refine AR.op (r := i64 r3) rfl (aop_call1 rfl rfl (by simp) (slices_IndexFunc_api_Take_api_Take__edge_read_is_1_ok hT hr3)) <| AR.keep [7] rfl <| AR.op rfl (aop_geq rfl rfl rfl) <| AR.op rfl (aop_move (.inr rfl) rfl) <| AR.nil <| hK2 _ (AWP.weak (Weak.kt [4] rfl) ?_)
 refine awp_ret ?_
 obtain rfl := Option.some.inj h
 refine ⟨.inr rfl, bl (decide ((0 : Int) ≤ r3)), rfl, ?_⟩
 exact Weak.e ⟨.k, trivial⟩
theorem slices_ContainsFunc_api_Take_api_Take__edge_read_is_1_ok {W0 : World} (hT : Tab W0) {s_0 : List G.api_Take} {f_1 : Int} {r : Bool} (h : G.slices_ContainsFunc_api_Take_api_Take__edge_read_is_1 s_0 f_1 = some r) : Fun1 Try.prog W0 89 [.sl (List.map G.api_Take.av s_0), .clo (.func 90) [.pp [i64 f_1] 0]] (bl r) := Fun1.two (slices_ContainsFunc_api_Take_api_Take__edge_read_is_1_ok0 hT h) (by simp)


theorem edge_read_is_ok0 {W0 : World} (hT : Tab W0) {a_0 : G.edge_read} {h_1 : G.api_Hist} {x_2 : Int} {y_3 : Int} {r : Bool} (h : G.edge_read_is a_0 h_1 x_2 y_3 = some r) : Fun2 Try.prog W0 88 [G.edge_read.av a_0, G.api_Hist.av h_1, i64 x_2, i64 y_3] (bl r) .empty := by
 refine fun2_of_awp Try.func88 rfl (by kernel_rfl) Try.ntmps88 (by simp) ?_
 unfold G.edge_read_is at h
 show AWP _ _ _ _ ⟨[(0, G.edge_read.av a_0), (1, G.api_Hist.av h_1), (2, i64 x_2), (3, i64 y_3)], .empty⟩ _
 refine awp_seqK fun K1 hK1 => awp_reg rfl <| AR.op (r := .any) rfl (aop_box0 rfl) <| AR.op (r := .ref 0 0 0) rfl (aop_box 1 [G.api_Hist.av h_1] rfl rfl rfl (.inl ⟨rfl, rfl⟩)) <| AR.op (r := .ref 1 0 0) rfl (aop_box 1 [i64 x_2] rfl rfl rfl (.inl ⟨rfl, rfl⟩)) <| AR.keep [3, 5, 6] rfl <| AR.op rfl (aop_move (.inr rfl) rfl) <| AR.nil ?_
 refine hK1 _ (AWP.weak (Weak.e (fr' := [(3, i64 y_3), (5, .pp [.sl (List.map G.api_Txn.av h_1.Txns)] 0), (6, .pp [i64 x_2] 0)]) (H' := .empty) ⟨.k, ⟨_, rfl, .frzA rfl rfl rfl rfl (by simp)⟩, ⟨_, rfl, .frzA rfl rfl rfl rfl (by simp)⟩, trivial⟩) ?_)
 refine awp_seqK fun K2 hK2 => awp_reg rfl <| AR.op rfl (aop_field_pp rfl rfl fd24_0 (by decide)) <| AR.op (r := .sl (List.map G.api_Txn.av h_1.Txns)) rfl (aop_load_pp rfl rfl sz22 rfl) <| AR.op rfl (aop_move (.inl rfl) rfl) <| AR.keep [6, 10, 11] rfl ?_
 obtain ⟨x7, hx7, h⟩ := Sh.bind_some' h
 obtain ⟨k8, hi8, hl8⟩ := Sh.idx_some hx7
 refine AR.op rfl (t_index_sl G.api_Txn.av h_1.Txns hi8 hl8 rfl rfl rfl el22 rfl) <| AR.op rfl (aop_field_pp rfl rfl fd58_2 (by decide)) <| AR.op (r := .sl (List.map G.api_Take.av x7.Reads)) rfl (aop_load_pp rfl rfl sz56 rfl) <| AR.keep [6, 14] rfl <| AR.op (r := .clo (.func 90) [.pp [i64 x_2] 0]) rfl (aop_makeFunc rfl rfl) ?_
 obtain ⟨r9, hr9, h⟩ := Sh.bind_some' h
 refine AR.op (r := bl r9) rfl (aop_call1 rfl rfl (by simp) (slices_ContainsFunc_api_Take_api_Take__edge_read_is_1_ok hT hr9)) <| AR.op rfl (aop_move (.inr rfl) rfl) <| AR.nil <| hK2 _ (AWP.weak (Weak.kt [8] rfl) ?_)
 refine awp_ret ?_
 obtain rfl := Option.some.inj h
 refine ⟨.inr rfl, bl r9, rfl, ?_⟩
 exact Weak.e ⟨.k, trivial⟩
theorem edge_read_is_ok {W0 : World} (hT : Tab W0) {a_0 : G.edge_read} {h_1 : G.api_Hist} {x_2 : Int} {y_3 : Int} {r : Bool} (h : G.edge_read_is a_0 h_1 x_2 y_3 = some r) : Fun1 Try.prog W0 88 [G.edge_read.av a_0, G.api_Hist.av h_1, i64 x_2, i64 y_3] (bl r) := Fun1.two (edge_read_is_ok0 hT h) (by simp)


theorem edge_some_1__edge_read_ok0 {W0 : World} (hT : Tab W0) {k_0 : G.edge_read} {a_1 : G.api_Hist} {a_2 : Int} {a_3 : Int} {r : Bool} (h : G.edge_some_1__edge_read k_0 a_1 a_2 a_3 = some r) : Fun2 Try.prog W0 68 [.ifc 105 (G.edge_read.av k_0), .pp [.sl (List.map G.api_Txn.av a_1.Txns)] 0, .pp [i64 a_2] 0, .pp [i64 a_3] 0] (bl r) .empty := by
 refine fun2_of_awp Try.func68 rfl (by kernel_rfl) Try.ntmps68 (by simp) ?_
 unfold G.edge_some_1__edge_read at h
 show AWP _ _ _ _ ⟨[(0, .ifc 105 (G.edge_read.av k_0)), (1, .pp [.sl (List.map G.api_Txn.av a_1.Txns)] 0), (2, .pp [i64 a_2] 0), (3, .pp [i64 a_3] 0)], .empty⟩ _
 refine awp_seqK fun K1 hK1 => awp_reg rfl <| AR.op rfl (aop_move (.inr rfl) rfl) <| AR.nil <| hK1 _ (AWP.weak (Weak.kt [0, 1, 2, 3] rfl) ?_)
 refine awp_seqK fun K2 hK2 => awp_reg rfl <| AR.op rfl (aop_move (.inl rfl) rfl) <| AR.op (r := G.api_Hist.av a_1) rfl (aop_load_pp rfl rfl sz24 rfl) <| AR.op (r := i64 a_2) rfl (aop_load_pp rfl rfl sz3 rfl) <| AR.keep [3, 6, 7, 8] rfl <| AR.op (r := i64 a_3) rfl (aop_load_pp rfl rfl sz3 rfl) ?_
 obtain ⟨r3, hr3, h⟩ := Sh.bind_some' h
 refine AR.op (r := bl r3) rfl (aop_callNE (ys := [G.edge_read.av k_0, G.api_Hist.av a_1, i64 a_2, i64 a_3]) (xs := [G.edge_read.av k_0, G.api_Hist.av a_1, i64 a_2, i64 a_3]) (.iface rfl rfl rfl mt105_88 (edge_read_is_ok hT hr3).call) (Weak.refl _) rfl (by simp) (edge_read_is_ok hT hr3)) <| AR.op rfl (aop_move (.inr rfl) rfl) <| AR.nil <| hK2 _ (AWP.weak (Weak.kt [5] rfl) ?_)
 refine awp_ret ?_
 obtain rfl := Option.some.inj h
 refine ⟨.inr rfl, bl r3, rfl, ?_⟩
 exact Weak.e ⟨.k, trivial⟩
theorem edge_some_1__edge_read_ok {W0 : World} (hT : Tab W0) {k_0 : G.edge_read} {a_1 : G.api_Hist} {a_2 : Int} {a_3 : Int} {r : Bool} (h : G.edge_some_1__edge_read k_0 a_1 a_2 a_3 = some r) : Fun1 Try.prog W0 68 [.ifc 105 (G.edge_read.av k_0), .pp [.sl (List.map G.api_Txn.av a_1.Txns)] 0, .pp [i64 a_2] 0, .pp [i64 a_3] 0] (bl r) := Fun1.two (edge_some_1__edge_read_ok0 hT h) (by simp)


theorem edge_writes_ok0 {W0 : World} (hT : Tab W0) {h_0 : G.api_Hist} {t_1 : Int} {key_2 : Int} {r : Bool} (h : G.edge_writes h_0 t_1 key_2 = some r) : Fun2 Try.prog W0 95 [G.api_Hist.av h_0, i64 t_1, i64 key_2] (bl r) .empty := by
 refine fun2_of_awp Try.func95 rfl (by kernel_rfl) Try.ntmps95 (by simp) ?_
 unfold G.edge_writes at h
 show AWP _ _ _ _ ⟨[(0, G.api_Hist.av h_0), (1, i64 t_1), (2, i64 key_2)], .empty⟩ _
 refine awp_seqK fun K1 hK1 => awp_reg rfl <| AR.op (r := .ref 0 0 0) rfl (aop_box 1 [G.api_Hist.av h_0] rfl rfl rfl (.inl ⟨rfl, rfl⟩)) <| AR.op rfl (aop_move (.inr rfl) rfl) <| AR.nil <| hK1 _ (AWP.weak (Weak.e (fr' := [(1, i64 t_1), (2, i64 key_2), (3, .pp [.sl (List.map G.api_Txn.av h_0.Txns)] 0)]) (H' := .empty) ⟨.k, .k, ⟨_, rfl, .frzA rfl rfl rfl rfl (by simp)⟩, trivial⟩) ?_)
 refine awp_seqK fun K2 hK2 => awp_reg rfl <| AR.op rfl (aop_field_pp rfl rfl fd24_0 (by decide)) <| AR.op (r := .sl (List.map G.api_Txn.av h_0.Txns)) rfl (aop_load_pp rfl rfl sz22 rfl) <| AR.op rfl (aop_move (.inl rfl) rfl) <| AR.keep [2, 8, 9] rfl ?_
 obtain ⟨x7, hx7, h⟩ := Sh.bind_some' h
 obtain ⟨k8, hi8, hl8⟩ := Sh.idx_some hx7
 refine AR.op rfl (t_index_sl G.api_Txn.av h_0.Txns hi8 hl8 rfl rfl rfl el22 rfl) <| AR.op rfl (aop_field_pp rfl rfl fd58_1 (by decide)) <| AR.op (r := .sl (List.map i64 x7.Writes)) rfl (aop_load_pp rfl rfl sz36 rfl) <| AR.keep [2, 12] rfl <| AR.op rfl (aop_move (.inl rfl) rfl) ?_
 obtain ⟨r9, hr9, h⟩ := Sh.bind_some' h
 refine AR.op (r := bl r9) rfl (aop_call1 rfl rfl (by simp) (slices_Contains_int_int_ok hT hr9)) <| AR.op rfl (aop_move (.inr rfl) rfl) <| AR.nil <| hK2 _ (AWP.weak (Weak.kt [6] rfl) ?_)
 refine awp_ret ?_
 obtain rfl := Option.some.inj h
 refine ⟨.inr rfl, bl r9, rfl, ?_⟩
 exact Weak.e ⟨.k, trivial⟩
theorem edge_writes_ok {W0 : World} (hT : Tab W0) {h_0 : G.api_Hist} {t_1 : Int} {key_2 : Int} {r : Bool} (h : G.edge_writes h_0 t_1 key_2 = some r) : Fun1 Try.prog W0 95 [G.api_Hist.av h_0, i64 t_1, i64 key_2] (bl r) := Fun1.two (edge_writes_ok0 hT h) (by simp)


theorem edge_written_is_1__1_ok0 {W0 : World} (hT : Tab W0) {c_0 : G.api_Choice} {a_1 : Int} {a_2 : Int} {a_3 : G.api_Hist} {r : Bool} (h : G.edge_written_is_1__1 c_0 a_1 a_2 a_3 = some r) : Fun2 Try.prog W0 94 [G.api_Choice.av c_0, .pp [i64 a_1] 0, .pp [i64 a_2] 0, .pp [.sl (List.map G.api_Txn.av a_3.Txns)] 0] (bl r) .empty := by
 refine fun2_of_awp Try.func94 rfl (by kernel_rfl) Try.ntmps94 (by simp) ?_
 unfold G.edge_written_is_1__1 at h
 show AWP _ _ _ _ ⟨[(0, G.api_Choice.av c_0), (1, .pp [i64 a_1] 0), (2, .pp [i64 a_2] 0), (3, .pp [.sl (List.map G.api_Txn.av a_3.Txns)] 0)], .empty⟩ _
 refine awp_seqK fun K1 hK1 => awp_reg rfl <| AR.op (r := .ref 0 0 0) rfl (aop_box 3 [G.api_Choice.av c_0] rfl rfl rfl (.inl ⟨rfl, rfl⟩)) <| AR.op rfl (aop_move (.inr rfl) rfl) <| AR.nil <| hK1 _ (AWP.weak (Weak.e (fr' := [(1, .pp [i64 a_1] 0), (2, .pp [i64 a_2] 0), (3, .pp [.sl (List.map G.api_Txn.av a_3.Txns)] 0), (4, .pp [i64 c_0.Key, i64 c_0.A, i64 c_0.B] 0)]) (H' := .empty) ⟨.k, .k, .k, ⟨_, rfl, .frzA rfl rfl rfl rfl (by simp)⟩, trivial⟩) ?_)
 refine awp_seqK fun K2 hK2 => awp_reg rfl <| AR.op rfl (aop_field_pp rfl rfl fd35_1 (by decide)) <| AR.op (r := i64 c_0.A) rfl (aop_load_pp rfl rfl sz3 rfl) <| AR.op (r := i64 a_1) rfl (aop_load_pp rfl rfl sz3 rfl) <| AR.keep [1, 2, 3, 4, 7, 8] rfl <| AR.op (r := bl (decide (c_0.A = a_1))) rfl (aop_eql rfl rfl rfl) <| AR.op rfl (aop_move (.inl rfl) rfl) ?_
 rcases Bool.eq_false_or_eq_true (decide (c_0.A = a_1)) with hb14 | hb14
 ·rw [hb14]
  replace h := Sh.if_t h hb14
  refine AR.op rfl (aop_field_pp rfl rfl fd35_2 (by decide)) <| AR.keep [1, 2, 3, 4, 10, 11] rfl <| AR.op (r := i64 c_0.B) rfl (aop_load_pp rfl rfl sz3 rfl) <| AR.op (r := i64 a_2) rfl (aop_load_pp rfl rfl sz3 rfl) <| AR.op (r := bl (decide (c_0.B = a_2))) rfl (aop_eql rfl rfl rfl) <| AR.keep [1, 2, 3, 4, 10, 14] rfl <| AR.op rfl (aop_pick rfl rfl rfl) <| AR.op rfl (aop_move (.inl rfl) rfl) ?_
  rcases Bool.eq_false_or_eq_true (decide (c_0.B = a_2)) with hb15 | hb15
  ·rw [hb15]
   replace h := Sh.if_t h hb15
   refine AR.op (r := i64 a_1) rfl (aop_load_pp rfl rfl sz3 rfl) <| AR.keep [1, 2, 3, 4, 16, 17] rfl <| AR.op (r := i64 a_2) rfl (aop_load_pp rfl rfl sz3 rfl) <| AR.op (r := bl (decide (a_1 ≠ a_2))) rfl (aop_neq rfl rfl rfl) <| AR.op rfl (aop_pick rfl rfl rfl) <| AR.keep [1, 2, 3, 4, 20] rfl <| AR.op rfl (aop_move (.inl rfl) rfl) ?_
   rcases Bool.eq_false_or_eq_true (decide (a_1 ≠ a_2)) with hb16 | hb16
   ·rw [hb16]
    replace h := Sh.if_t h hb16
    refine AR.op (r := G.api_Hist.av a_3) rfl (aop_load_pp rfl rfl sz24 rfl) <| AR.op (r := i64 a_1) rfl (aop_load_pp rfl rfl sz3 rfl) <| AR.keep [2, 3, 4, 21, 22, 23] rfl <| AR.op rfl (aop_field_pp rfl rfl fd35_0 (by decide)) <| AR.op (r := i64 c_0.Key) rfl (aop_load_pp rfl rfl sz3 rfl) ?_
    obtain ⟨r17, hr17, h⟩ := Sh.bind_some' h
    refine AR.op (r := bl r17) rfl (aop_call1 rfl rfl (by simp) (edge_writes_ok hT hr17)) <| AR.keep [2, 3, 4, 21, 26] rfl <| AR.op rfl (aop_pick rfl rfl rfl) <| AR.op rfl (aop_move (.inl rfl) rfl) ?_
    rcases Bool.eq_false_or_eq_true (r17) with hb18 | hb18
    ·rw [hb18]
     replace h := Sh.if_t h hb18
     refine AR.op (r := G.api_Hist.av a_3) rfl (aop_load_pp rfl rfl sz24 rfl) <| AR.keep [2, 4, 28, 29] rfl <| AR.op (r := i64 a_2) rfl (aop_load_pp rfl rfl sz3 rfl) <| AR.op rfl (aop_field_pp rfl rfl fd35_0 (by decide)) <| AR.op (r := i64 c_0.Key) rfl (aop_load_pp rfl rfl sz3 rfl) <| AR.keep [28, 29, 30, 32] rfl ?_
     obtain ⟨r19, hr19, h⟩ := Sh.bind_some' h
     refine AR.op (r := bl r19) rfl (aop_call1 rfl rfl (by simp) (edge_writes_ok hT hr19)) <| AR.op rfl (aop_pick rfl rfl rfl) <| AR.op rfl (aop_move (.inr rfl) rfl) <| AR.nil <| hK2 _ (AWP.weak (Weak.kt [5] rfl) ?_)
     refine awp_ret ?_
     obtain rfl := Option.some.inj h
     refine ⟨.inr rfl, bl r19, rfl, ?_⟩
     exact Weak.e ⟨.k, trivial⟩
    ·rw [hb18]
     replace h := Sh.if_f h hb18
     refine AR.skip rfl <| AR.keep [2, 4, 28, 29] rfl <| AR.skip rfl <| AR.skip rfl <| AR.skip rfl <| AR.keep [28, 29, 30, 32] rfl <| AR.skip rfl <| AR.op rfl (aop_pick rfl rfl rfl) ?_
     refine AR.op rfl (aop_move (.inr rfl) rfl) <| AR.nil <| hK2 _ (AWP.weak (Weak.kt [5] rfl) ?_)
     refine awp_ret ?_
     obtain rfl := Option.some.inj h
     refine ⟨.inr rfl, bl false, rfl, ?_⟩
     exact Weak.e ⟨.k, trivial⟩
   ·rw [hb16]
    replace h := Sh.if_f h hb16
    refine AR.skip rfl <| AR.skip rfl <| AR.keep [2, 3, 4, 21, 22, 23] rfl <| AR.skip rfl <| AR.skip rfl <| AR.skip rfl <| AR.keep [2, 3, 4, 21, 26] rfl <| AR.op rfl (aop_pick rfl rfl rfl) ?_
    refine AR.op rfl (aop_move (.inl rfl) rfl) <| AR.skip rfl <| AR.keep [2, 4, 28, 29] rfl <| AR.skip rfl <| AR.skip rfl <| AR.skip rfl <| AR.keep [28, 29, 30, 32] rfl <| AR.skip rfl ?_
    refine AR.op rfl (aop_pick rfl rfl rfl) <| AR.op rfl (aop_move (.inr rfl) rfl) <| AR.nil <| hK2 _ (AWP.weak (Weak.kt [5] rfl) ?_)
    refine awp_ret ?_
    obtain rfl := Option.some.inj h
    refine ⟨.inr rfl, bl false, rfl, ?_⟩
    exact Weak.e ⟨.k, trivial⟩
  ·rw [hb15]
   replace h := Sh.if_f h hb15
   refine AR.skip rfl <| AR.keep [1, 2, 3, 4, 16, 17] rfl <| AR.skip rfl <| AR.skip rfl <| AR.op rfl (aop_pick rfl rfl rfl) <| AR.keep [1, 2, 3, 4, 20] rfl <| AR.op rfl (aop_move (.inl rfl) rfl) <| AR.skip rfl ?_
   refine AR.skip rfl <| AR.keep [2, 3, 4, 21, 22, 23] rfl <| AR.skip rfl <| AR.skip rfl <| AR.skip rfl <| AR.keep [2, 3, 4, 21, 26] rfl <| AR.op rfl (aop_pick rfl rfl rfl) <| AR.op rfl (aop_move (.inl rfl) rfl) ?_
   refine AR.skip rfl <| AR.keep [2, 4, 28, 29] rfl <| AR.skip rfl <| AR.skip rfl <| AR.skip rfl <| AR.keep [28, 29, 30, 32] rfl <| AR.skip rfl <| AR.op rfl (aop_pick rfl rfl rfl) ?_
   refine AR.op rfl (aop_move (.inr rfl) rfl) <| AR.nil <| hK2 _ (AWP.weak (Weak.kt [5] rfl) ?_)
   refine awp_ret ?_
   obtain rfl := Option.some.inj h
   refine ⟨.inr rfl, bl false, rfl, ?_⟩
   exact Weak.e ⟨.k, trivial⟩
 ·rw [hb14]
  replace h := Sh.if_f h hb14
  refine AR.skip rfl <| AR.keep [1, 2, 3, 4, 10, 11] rfl <| AR.skip rfl <| AR.skip rfl <| AR.skip rfl <| AR.keep [1, 2, 3, 4, 10, 14] rfl <| AR.op rfl (aop_pick rfl rfl rfl) <| AR.op rfl (aop_move (.inl rfl) rfl) ?_
  refine AR.skip rfl <| AR.keep [1, 2, 3, 4, 16, 17] rfl <| AR.skip rfl <| AR.skip rfl <| AR.op rfl (aop_pick rfl rfl rfl) <| AR.keep [1, 2, 3, 4, 20] rfl <| AR.op rfl (aop_move (.inl rfl) rfl) <| AR.skip rfl ?_
  refine AR.skip rfl <| AR.keep [2, 3, 4, 21, 22, 23] rfl <| AR.skip rfl <| AR.skip rfl <| AR.skip rfl <| AR.keep [2, 3, 4, 21, 26] rfl <| AR.op rfl (aop_pick rfl rfl rfl) <| AR.op rfl (aop_move (.inl rfl) rfl) ?_
  refine AR.skip rfl <| AR.keep [2, 4, 28, 29] rfl <| AR.skip rfl <| AR.skip rfl <| AR.skip rfl <| AR.keep [28, 29, 30, 32] rfl <| AR.skip rfl <| AR.op rfl (aop_pick rfl rfl rfl) ?_
  refine AR.op rfl (aop_move (.inr rfl) rfl) <| AR.nil <| hK2 _ (AWP.weak (Weak.kt [5] rfl) ?_)
  refine awp_ret ?_
  obtain rfl := Option.some.inj h
  refine ⟨.inr rfl, bl false, rfl, ?_⟩
  exact Weak.e ⟨.k, trivial⟩
theorem edge_written_is_1__1_ok {W0 : World} (hT : Tab W0) {c_0 : G.api_Choice} {a_1 : Int} {a_2 : Int} {a_3 : G.api_Hist} {r : Bool} (h : G.edge_written_is_1__1 c_0 a_1 a_2 a_3 = some r) : Fun1 Try.prog W0 94 [G.api_Choice.av c_0, .pp [i64 a_1] 0, .pp [i64 a_2] 0, .pp [.sl (List.map G.api_Txn.av a_3.Txns)] 0] (bl r) := Fun1.two (edge_written_is_1__1_ok0 hT h) (by simp)


theorem slices_IndexFunc_edge_written_api_Choice__edge_written_is_1_ok0 {W0 : World} (hT : Tab W0) {s_0 : List G.api_Choice} {f_1 : Int} {f_2 : Int} {f_3 : G.api_Hist} {r : Int} (h : G.slices_IndexFunc_edge_written_api_Choice__edge_written_is_1 s_0 f_1 f_2 f_3 = some r) : Fun2 Try.prog W0 96 [.sl (List.map G.api_Choice.av s_0), .clo (.func 94) [.pp [i64 f_1] 0, .pp [i64 f_2] 0, .pp [.sl (List.map G.api_Txn.av f_3.Txns)] 0]] (i64 r) .empty := by
 refine fun2_of_awp Try.func96 rfl (by kernel_rfl) Try.ntmps96 (by simp) ?_
 unfold G.slices_IndexFunc_edge_written_api_Choice__edge_written_is_1 at h
 show AWP _ _ _ _ ⟨[(0, .sl (List.map G.api_Choice.av s_0)), (1, .clo (.func 94) [.pp [i64 f_1] 0, .pp [i64 f_2] 0, .pp [.sl (List.map G.api_Txn.av f_3.Txns)] 0])], .empty⟩ _
 refine awp_seqK fun K1 hK1 => awp_reg rfl <| AR.op rfl (aop_move (.inr rfl) rfl) <| AR.nil <| hK1 _ (AWP.weak (Weak.kt [0, 1] rfl) ?_)
 refine awp_seqJ (fun (p : Unit) => (⟨[], .empty⟩ : St)) (fun (p : Unit) => G.slices_IndexFunc_edge_written_api_Choice__edge_written_is_1_j1 = some r) ?_ ?_
 ·rintro ⟨⟩ h
  replace h : G.slices_IndexFunc_edge_written_api_Choice__edge_written_is_1_j1 = some r := h
  unfold G.slices_IndexFunc_edge_written_api_Choice__edge_written_is_1_j1 at h
  refine awp_seqK fun K2 hK2 => awp_reg rfl <| AR.op rfl (aop_move (.inr rfl) rfl) <| AR.nil <| hK2 _ ?_
  refine awp_ret ?_
  obtain rfl := Option.some.inj h
  refine ⟨.inr rfl, i64 (-1), rfl, ?_⟩
  exact Weak.e ⟨.k, trivial⟩
 ·intro K3 hK3
  refine awp_seqK fun K4 hK4 => awp_reg rfl <| AR.op rfl (aop_move (.inl rfl) rfl) <| AR.op rfl (t_len_sl G.api_Choice.av s_0 rfl rfl el106) <| AR.op rfl (aop_move (.inl rfl) rfl) <| AR.nil <| hK4 _ (AWP.weak (Weak.kt [0, 1, 7, 8] rfl) ?_)
  refine awp_block <| awp_iter (fun (p : Int) => G.slices_IndexFunc_edge_written_api_Choice__edge_written_is_1_b1 s_0 f_1 f_2 f_3 p) (fun (p : Int) => (⟨[(0, .sl (List.map G.api_Choice.av s_0)), (1, .clo (.func 94) [.pp [i64 f_1] 0, .pp [i64 f_2] 0, .pp [.sl (List.map G.api_Txn.av f_3.Txns)] 0]), (7, i64 (Sh.len s_0)), (8, i64 p)], .empty⟩ : St)) h (Weak.kt [0, 1, 7, 8] rfl) ?_
  ·skip
   rintro v30 o1 h hx1
   replace h : G.slices_IndexFunc_edge_written_api_Choice__edge_written_is_1_b1 s_0 f_1 f_2 f_3 v30 = some o1 := h
   unfold G.slices_IndexFunc_edge_written_api_Choice__edge_written_is_1_b1 at h
   refine awp_seqK fun K5 hK5 => awp_reg rfl <| AR.op rfl (aop_lss rfl rfl rfl) <| AR.nil <| hK5 _ ?_
   refine awp_seqK fun K6 hK6 => awp_cond rfl (fun hb31 => ?_) (fun hb31 => ?_)
   ·replace h := Sh.if_t h hb31
    refine awp_skip <| hK6 _ (AWP.weak (Weak.kt [0, 1, 7, 8] rfl) ?_)
    refine awp_seqK fun K7 hK7 => awp_block <| awp_seqK fun K8 hK8 => awp_reg rfl <| AR.op rfl (aop_move (.inl rfl) rfl) <| AR.op rfl (aop_move (.inr rfl) rfl) <| AR.nil <| hK8 _ (AWP.weak (Weak.kt [0, 1, 7, 8, 5] rfl) ?_)
    refine awp_seqK fun K9 hK9 => awp_reg rfl <| AR.op rfl (aop_move (.inl rfl) rfl) <| AR.op rfl (aop_move (.inl rfl) rfl) <| AR.op rfl (aop_move (.inl rfl) rfl) <| AR.keep [0, 1, 7, 8, 5, 11, 12, 13] rfl ?_
    obtain ⟨x38, hx38, h⟩ := Sh.bind_some' h
    obtain ⟨k39, hi39, hl39⟩ := Sh.idx_some hx38
    refine AR.op rfl (t_index_sl G.api_Choice.av s_0 hi39 hl39 rfl rfl rfl el106 rfl) <| AR.op (r := G.api_Choice.av x38) rfl (aop_load_pp rfl rfl sz35 rfl) ?_
    obtain ⟨r40, hr40, h⟩ := Sh.bind_some' h
    refine AR.op (r := bl r40) rfl (aop_callNE (ys := [G.api_Choice.av x38, .pp [i64 f_1] 0, .pp [i64 f_2] 0, .pp [.sl (List.map G.api_Txn.av f_3.Txns)] 0]) (xs := [G.api_Choice.av x38, .pp [i64 f_1] 0, .pp [i64 f_2] 0, .pp [.sl (List.map G.api_Txn.av f_3.Txns)] 0]) (.clo (ys := [G.api_Choice.av x38]) (caps := [.pp [i64 f_1] 0, .pp [i64 f_2] 0, .pp [.sl (List.map G.api_Txn.av f_3.Txns)] 0]) rfl rfl rfl (edge_written_is_1__1_ok hT hr40).call) (Weak.refl _) rfl (by simp) (edge_written_is_1__1_ok hT hr40)) <| AR.nil <| hK9 _ (AWP.weak (Weak.kt [0, 1, 7, 8, 5, 16] rfl) ?_)
    refine awp_cond rfl (fun hb41 => ?_) (fun hb41 => ?_)
    ·replace h := Sh.if_t h hb41
     refine awp_seqK fun K10 hK10 => awp_reg rfl <| AR.op rfl (aop_move (.inl rfl) rfl) <| AR.op rfl (aop_move (.inr rfl) rfl) <| AR.nil <| hK10 _ (AWP.weak (Weak.kt [4] rfl) ?_)
     refine awp_ret ?_
     replace h := Sh.exit_eq h hx1
     obtain rfl := Option.some.inj h
     refine ⟨.inr rfl, i64 v30, rfl, ?_⟩
     exact Weak.e ⟨.k, trivial⟩
    ·replace h := Sh.if_f h hb41
     refine awp_skip <| hK7 _ (AWP.weak (Weak.kt [0, 1, 7, 8] rfl) ?_)
     refine awp_reg rfl <| AR.op rfl (aop_add rfl rfl rfl rfl) <| AR.op rfl (aop_move (.inl rfl) rfl) <| AR.nil ?_
     replace h := Sh.next_eq h
     exact ⟨_, h, Weak.kt [0, 1, 7, 8] rfl⟩
   ·replace h := Sh.if_f h hb31
    refine awp_exit ?_
    replace h := Sh.exit_eq h hx1
    exact hK3 () _ h (Weak.kt [] rfl)
theorem slices_IndexFunc_edge_written_api_Choice__edge_written_is_1_ok {W0 : World} (hT : Tab W0) {s_0 : List G.api_Choice} {f_1 : Int} {f_2 : Int} {f_3 : G.api_Hist} {r : Int} (h : G.slices_IndexFunc_edge_written_api_Choice__edge_written_is_1 s_0 f_1 f_2 f_3 = some r) : Fun1 Try.prog W0 96 [.sl (List.map G.api_Choice.av s_0), .clo (.func 94) [.pp [i64 f_1] 0, .pp [i64 f_2] 0, .pp [.sl (List.map G.api_Txn.av f_3.Txns)] 0]] (i64 r) := Fun1.two (slices_IndexFunc_edge_written_api_Choice__edge_written_is_1_ok0 hT h) (by simp)


theorem slices_ContainsFunc_edge_written_api_Choice__edge_written_is_1_ok0 {W0 : World} (hT : Tab W0) {s_0 : List G.api_Choice} {f_1 : Int} {f_2 : Int} {f_3 : G.api_Hist} {r : Bool} (h : G.slices_ContainsFunc_edge_written_api_Choice__edge_written_is_1 s_0 f_1 f_2 f_3 = some r) : Fun2 Try.prog W0 93 [.sl (List.map G.api_Choice.av s_0), .clo (.func 94) [.pp [i64 f_1] 0, .pp [i64 f_2] 0, .pp [.sl (List.map G.api_Txn.av f_3.Txns)] 0]] (bl r) .empty := by
 refine fun2_of_awp Try.func93 rfl (by kernel_rfl) Try.ntmps93 (by simp) ?_
 unfold G.slices_ContainsFunc_edge_written_api_Choice__edge_written_is_1 at h
 show AWP _ _ _ _ ⟨[(0, .sl (List.map G.api_Choice.av s_0)), (1, .clo (.func 94) [.pp [i64 f_1] 0, .pp [i64 f_2] 0, .pp [.sl (List.map G.api_Txn.av f_3.Txns)] 0])], .empty⟩ _
 refine awp_seqK fun K1 hK1 => awp_reg rfl <| AR.op rfl (aop_move (.inr rfl) rfl) <| AR.nil <| hK1 _ (AWP.weak (Weak.kt [0, 1] rfl) ?_)
 refine awp_seqK fun K2 hK2 => awp_reg rfl <| AR.op rfl (aop_move (.inl rfl) rfl) <| AR.op rfl (aop_move (.inl rfl) rfl) ?_
 obtain ⟨r3, hr3, h⟩ := Sh.bind_some' h
 refine AR.op (r := i64 r3) rfl (aop_call1 rfl rfl (by simp) (slices_IndexFunc_edge_written_api_Choice__edge_written_is_1_ok hT hr3)) <| AR.keep [7] rfl <| AR.op rfl (aop_geq rfl rfl rfl) <| AR.op rfl (aop_move (.inr rfl) rfl) <| AR.nil <| hK2 _ (AWP.weak (Weak.kt [4] rfl) ?_)
 refine awp_ret ?_
 obtain rfl := Option.some.inj h
 refine ⟨.inr rfl, bl (decide ((0 : Int) ≤ r3)), rfl, ?_⟩
 exact Weak.e ⟨.k, trivial⟩
theorem slices_ContainsFunc_edge_written_api_Choice__edge_written_is_1_ok {W0 : World} (hT : Tab W0) {s_0 : List G.api_Choice} {f_1 : Int} {f_2 : Int} {f_3 : G.api_Hist} {r : Bool} (h : G.slices_ContainsFunc_edge_written_api_Choice__edge_written_is_1 s_0 f_1 f_2 f_3 = some r) : Fun1 Try.prog W0 93 [.sl (List.map G.api_Choice.av s_0), .clo (.func 94) [.pp [i64 f_1] 0, .pp [i64 f_2] 0, .pp [.sl (List.map G.api_Txn.av f_3.Txns)] 0]] (bl r) := Fun1.two (slices_ContainsFunc_edge_written_api_Choice__edge_written_is_1_ok0 hT h) (by simp)


theorem edge_written_is_ok0 {W0 : World} (hT : Tab W0) {l_0 : List G.api_Choice} {h_1 : G.api_Hist} {x_2 : Int} {y_3 : Int} {r : Bool} (h : G.edge_written_is l_0 h_1 x_2 y_3 = some r) : Fun2 Try.prog W0 92 [.sl (List.map G.api_Choice.av l_0), G.api_Hist.av h_1, i64 x_2, i64 y_3] (bl r) .empty := by
 refine fun2_of_awp Try.func92 rfl (by kernel_rfl) Try.ntmps92 (by simp) ?_
 unfold G.edge_written_is at h
 show AWP _ _ _ _ ⟨[(0, .sl (List.map G.api_Choice.av l_0)), (1, G.api_Hist.av h_1), (2, i64 x_2), (3, i64 y_3)], .empty⟩ _
 refine awp_seqK fun K1 hK1 => awp_reg rfl <| AR.op (r := .ref 0 0 0) rfl (aop_box 1 [G.api_Hist.av h_1] rfl rfl rfl (.inl ⟨rfl, rfl⟩)) <| AR.op (r := .ref 1 0 0) rfl (aop_box 1 [i64 x_2] rfl rfl rfl (.inl ⟨rfl, rfl⟩)) <| AR.op (r := .ref 2 0 0) rfl (aop_box 1 [i64 y_3] rfl rfl rfl (.inl ⟨rfl, rfl⟩)) <| AR.keep [0, 5, 6, 7] rfl <| AR.op rfl (aop_move (.inr rfl) rfl) <| AR.nil ?_
 refine hK1 _ (AWP.weak (Weak.e (fr' := [(0, .sl (List.map G.api_Choice.av l_0)), (5, .pp [.sl (List.map G.api_Txn.av h_1.Txns)] 0), (6, .pp [i64 x_2] 0), (7, .pp [i64 y_3] 0)]) (H' := .empty) ⟨⟨.sl (List.map G.api_Choice.av l_0), rfl, .sm⟩, ⟨_, rfl, .frzA rfl rfl rfl rfl (by simp)⟩, ⟨_, rfl, .frzA rfl rfl rfl rfl (by simp)⟩, ⟨_, rfl, .frzA rfl rfl rfl rfl (by simp)⟩, trivial⟩) ?_)
 refine awp_seqK fun K2 hK2 => awp_reg rfl <| AR.op rfl (aop_move (.inl rfl) rfl) <| AR.op (r := .clo (.func 94) [.pp [i64 x_2] 0, .pp [i64 y_3] 0, .pp [.sl (List.map G.api_Txn.av h_1.Txns)] 0]) rfl (aop_makeFunc rfl rfl) ?_
 obtain ⟨r3, hr3, h⟩ := Sh.bind_some' h
 refine AR.op (r := bl r3) rfl (aop_call1 rfl rfl (by simp) (slices_ContainsFunc_edge_written_api_Choice__edge_written_is_1_ok hT hr3)) <| AR.keep [11] rfl <| AR.op rfl (aop_move (.inr rfl) rfl) <| AR.nil <| hK2 _ (AWP.weak (Weak.kt [8] rfl) ?_)
 refine awp_ret ?_
 obtain rfl := Option.some.inj h
 refine ⟨.inr rfl, bl r3, rfl, ?_⟩
 exact Weak.e ⟨.k, trivial⟩
theorem edge_written_is_ok {W0 : World} (hT : Tab W0) {l_0 : List G.api_Choice} {h_1 : G.api_Hist} {x_2 : Int} {y_3 : Int} {r : Bool} (h : G.edge_written_is l_0 h_1 x_2 y_3 = some r) : Fun1 Try.prog W0 92 [.sl (List.map G.api_Choice.av l_0), G.api_Hist.av h_1, i64 x_2, i64 y_3] (bl r) := Fun1.two (edge_written_is_ok0 hT h) (by simp)


theorem edge_some_1__edge_written_ok0 {W0 : World} (hT : Tab W0) {k_0 : List G.api_Choice} {a_1 : G.api_Hist} {a_2 : Int} {a_3 : Int} {r : Bool} (h : G.edge_some_1__edge_written k_0 a_1 a_2 a_3 = some r) : Fun2 Try.prog W0 68 [.ifc 106 (.sl (List.map G.api_Choice.av k_0)), .pp [.sl (List.map G.api_Txn.av a_1.Txns)] 0, .pp [i64 a_2] 0, .pp [i64 a_3] 0] (bl r) .empty := by
 refine fun2_of_awp Try.func68 rfl (by kernel_rfl) Try.ntmps68 (by simp) ?_
 unfold G.edge_some_1__edge_written at h
 show AWP _ _ _ _ ⟨[(0, .ifc 106 (.sl (List.map G.api_Choice.av k_0))), (1, .pp [.sl (List.map G.api_Txn.av a_1.Txns)] 0), (2, .pp [i64 a_2] 0), (3, .pp [i64 a_3] 0)], .empty⟩ _
 refine awp_seqK fun K1 hK1 => awp_reg rfl <| AR.op rfl (aop_move (.inr rfl) rfl) <| AR.nil <| hK1 _ (AWP.weak (Weak.kt [0, 1, 2, 3] rfl) ?_)
 refine awp_seqK fun K2 hK2 => awp_reg rfl <| AR.op rfl (aop_move (.inl rfl) rfl) <| AR.op (r := G.api_Hist.av a_1) rfl (aop_load_pp rfl rfl sz24 rfl) <| AR.op (r := i64 a_2) rfl (aop_load_pp rfl rfl sz3 rfl) <| AR.keep [3, 6, 7, 8] rfl <| AR.op (r := i64 a_3) rfl (aop_load_pp rfl rfl sz3 rfl) ?_
 obtain ⟨r3, hr3, h⟩ := Sh.bind_some' h
 refine AR.op (r := bl r3) rfl (aop_callNE (ys := [.sl (List.map G.api_Choice.av k_0), G.api_Hist.av a_1, i64 a_2, i64 a_3]) (xs := [.sl (List.map G.api_Choice.av k_0), G.api_Hist.av a_1, i64 a_2, i64 a_3]) (.iface rfl rfl rfl mt106_92 (edge_written_is_ok hT hr3).call) (Weak.refl _) rfl (by simp) (edge_written_is_ok hT hr3)) <| AR.op rfl (aop_move (.inr rfl) rfl) <| AR.nil <| hK2 _ (AWP.weak (Weak.kt [5] rfl) ?_)
 refine awp_ret ?_
 obtain rfl := Option.some.inj h
 refine ⟨.inr rfl, bl r3, rfl, ?_⟩
 exact Weak.e ⟨.k, trivial⟩
theorem edge_some_1__edge_written_ok {W0 : World} (hT : Tab W0) {k_0 : List G.api_Choice} {a_1 : G.api_Hist} {a_2 : Int} {a_3 : Int} {r : Bool} (h : G.edge_some_1__edge_written k_0 a_1 a_2 a_3 = some r) : Fun1 Try.prog W0 68 [.ifc 106 (.sl (List.map G.api_Choice.av k_0)), .pp [.sl (List.map G.api_Txn.av a_1.Txns)] 0, .pp [i64 a_2] 0, .pp [i64 a_3] 0] (bl r) := Fun1.two (edge_some_1__edge_written_ok0 hT h) (by simp)


theorem slices_IndexFunc_edge_kind_edge_kind__lit3_edge_some_1_ok0 {W0 : World} (hT : Tab W0) {s_0 : G.edge_session} {s_1 : G.edge_read} {s_2 : List G.api_Choice} {f_3 : G.api_Hist} {f_4 : Int} {f_5 : Int} {r : Int} (h : G.slices_IndexFunc_edge_kind_edge_kind__lit3_edge_some_1 s_0 s_1 s_2 f_3 f_4 f_5 = some r) : Fun2 Try.prog W0 70 [.clip [.ifc 104 (G.edge_session.av s_0), .ifc 105 (G.edge_read.av s_1), .ifc 106 (.sl (List.map G.api_Choice.av s_2))], .clo (.func 68) [.pp [.sl (List.map G.api_Txn.av f_3.Txns)] 0, .pp [i64 f_4] 0, .pp [i64 f_5] 0]] (i64 r) .empty := by
 refine fun2_of_awp Try.func70 rfl (by kernel_rfl) Try.ntmps70 (by simp) ?_
 unfold G.slices_IndexFunc_edge_kind_edge_kind__lit3_edge_some_1 at h
 show AWP _ _ _ _ ⟨[(0, .clip [.ifc 104 (G.edge_session.av s_0), .ifc 105 (G.edge_read.av s_1), .ifc 106 (.sl (List.map G.api_Choice.av s_2))]), (1, .clo (.func 68) [.pp [.sl (List.map G.api_Txn.av f_3.Txns)] 0, .pp [i64 f_4] 0, .pp [i64 f_5] 0])], .empty⟩ _
 refine awp_seqK fun K1 hK1 => awp_reg rfl <| AR.op rfl (aop_move (.inr rfl) rfl) <| AR.nil <| hK1 _ (AWP.weak (Weak.kt [0, 1] rfl) ?_)
 refine awp_seqJ (fun (p : Unit) => (⟨[], .empty⟩ : St)) (fun (p : Unit) => G.slices_IndexFunc_edge_kind_edge_kind__lit3_edge_some_1_j1 = some r) ?_ ?_
 ·rintro ⟨⟩ h
  replace h : G.slices_IndexFunc_edge_kind_edge_kind__lit3_edge_some_1_j1 = some r := h
  unfold G.slices_IndexFunc_edge_kind_edge_kind__lit3_edge_some_1_j1 at h
  refine awp_seqK fun K2 hK2 => awp_reg rfl <| AR.op rfl (aop_move (.inr rfl) rfl) <| AR.nil <| hK2 _ ?_
  refine awp_ret ?_
  obtain rfl := Option.some.inj h
  refine ⟨.inr rfl, i64 (-1), rfl, ?_⟩
  exact Weak.e ⟨.k, trivial⟩
 ·intro K3 hK3
  refine awp_seqK fun K4 hK4 => awp_reg rfl <| AR.op rfl (aop_move (.inl rfl) rfl) <| AR.op (r := i64 3) rfl ((aop_len rfl rfl rfl el108).conv rfl) <| AR.op rfl (aop_move (.inl rfl) rfl) <| AR.nil <| hK4 _ (AWP.weak (Weak.kt [0, 1, 7, 8] rfl) ?_)
  refine awp_block <| awp_unr 4 ?_
  refine AWP.weak (Weak.kt [0, 1, 7, 8] rfl) ?_
  refine awp_seqK fun K5 hK5 => awp_reg rfl <| AR.op (r := bl true) rfl ((aop_lss rfl rfl rfl).tt (by decide)) <| AR.nil <| hK5 _ ?_
  refine awp_seqK fun K6 hK6 => awp_cond_t rfl ?_
  refine awp_skip <| hK6 _ (AWP.weak (Weak.kt [0, 1, 7, 8] rfl) ?_)
  refine awp_seqK fun K7 hK7 => awp_block <| awp_seqK fun K8 hK8 => awp_reg rfl <| AR.op rfl (aop_move (.inl rfl) rfl) <| AR.op rfl (aop_move (.inr rfl) rfl) <| AR.nil <| hK8 _ (AWP.weak (Weak.kt [0, 1, 7, 8, 5] rfl) ?_)
  refine awp_seqK fun K9 hK9 => awp_reg rfl <| AR.op rfl (aop_move (.inl rfl) rfl) <| AR.op rfl (aop_move (.inl rfl) rfl) <| AR.op rfl (aop_move (.inl rfl) rfl) <| AR.keep [0, 1, 7, 8, 5, 11, 12, 13] rfl <| AR.op rfl (aop_index_sl rfl rfl (.inr rfl) rfl el108 rfl rfl rfl) <| AR.op (r := .ifc 104 (G.edge_session.av s_0)) rfl (aop_load_pp rfl rfl sz111 rfl) ?_
  obtain ⟨r12, hr12, h⟩ := Sh.bind_some' h
  refine AR.op (r := bl r12) rfl (aop_callNE (ys := [.ifc 104 (G.edge_session.av s_0), .pp [.sl (List.map G.api_Txn.av f_3.Txns)] 0, .pp [i64 f_4] 0, .pp [i64 f_5] 0]) (xs := [.ifc 104 (G.edge_session.av s_0), .pp [.sl (List.map G.api_Txn.av f_3.Txns)] 0, .pp [i64 f_4] 0, .pp [i64 f_5] 0]) (.clo (ys := [.ifc 104 (G.edge_session.av s_0)]) (caps := [.pp [.sl (List.map G.api_Txn.av f_3.Txns)] 0, .pp [i64 f_4] 0, .pp [i64 f_5] 0]) rfl rfl rfl (edge_some_1__edge_session_ok hT hr12).call) (Weak.refl _) rfl (by simp) (edge_some_1__edge_session_ok hT hr12)) <| AR.nil <| hK9 _ (AWP.weak (Weak.kt [0, 1, 7, 8, 5, 16] rfl) ?_)
  refine awp_cond rfl (fun hb13 => ?_) (fun hb13 => ?_)
  ·replace h := Sh.if_t h hb13
   refine awp_seqK fun K10 hK10 => awp_reg rfl <| AR.op rfl (aop_move (.inl rfl) rfl) <| AR.op rfl (aop_move (.inr rfl) rfl) <| AR.nil <| hK10 _ (AWP.weak (Weak.kt [4] rfl) ?_)
   refine awp_ret ?_
   obtain rfl := Option.some.inj h
   refine ⟨.inr rfl, i64 0, rfl, ?_⟩
   exact Weak.e ⟨.k, trivial⟩
  ·replace h := Sh.if_f h hb13
   refine awp_skip <| hK7 _ (AWP.weak (Weak.kt [0, 1, 7, 8] rfl) ?_)
   refine awp_reg rfl <| AR.op (r := i64 1) rfl ((aop_add rfl rfl rfl rfl).conv (congrArg i64 (by decide))) <| AR.op rfl (aop_move (.inl rfl) rfl) <| AR.nil <| awp_unrS ?_
   refine AWP.weak (Weak.kt [0, 1, 7, 8] rfl) ?_
   refine awp_seqK fun K11 hK11 => awp_reg rfl <| AR.op (r := bl true) rfl ((aop_lss rfl rfl rfl).tt (by decide)) <| AR.nil <| hK11 _ ?_
   refine awp_seqK fun K12 hK12 => awp_cond_t rfl ?_
   refine awp_skip <| hK12 _ (AWP.weak (Weak.kt [0, 1, 7, 8] rfl) ?_)
   refine awp_seqK fun K13 hK13 => awp_block <| awp_seqK fun K14 hK14 => awp_reg rfl <| AR.op rfl (aop_move (.inl rfl) rfl) <| AR.op rfl (aop_move (.inr rfl) rfl) <| AR.nil <| hK14 _ (AWP.weak (Weak.kt [0, 1, 7, 8, 5] rfl) ?_)
   refine awp_seqK fun K15 hK15 => awp_reg rfl <| AR.op rfl (aop_move (.inl rfl) rfl) <| AR.op rfl (aop_move (.inl rfl) rfl) <| AR.op rfl (aop_move (.inl rfl) rfl) <| AR.keep [0, 1, 7, 8, 5, 11, 12, 13] rfl <| AR.op rfl (aop_index_sl rfl rfl (.inr rfl) rfl el108 rfl rfl rfl) <| AR.op (r := .ifc 105 (G.edge_read.av s_1)) rfl (aop_load_pp rfl rfl sz111 rfl) ?_
   obtain ⟨r16, hr16, h⟩ := Sh.bind_some' h
   refine AR.op (r := bl r16) rfl (aop_callNE (ys := [.ifc 105 (G.edge_read.av s_1), .pp [.sl (List.map G.api_Txn.av f_3.Txns)] 0, .pp [i64 f_4] 0, .pp [i64 f_5] 0]) (xs := [.ifc 105 (G.edge_read.av s_1), .pp [.sl (List.map G.api_Txn.av f_3.Txns)] 0, .pp [i64 f_4] 0, .pp [i64 f_5] 0]) (.clo (ys := [.ifc 105 (G.edge_read.av s_1)]) (caps := [.pp [.sl (List.map G.api_Txn.av f_3.Txns)] 0, .pp [i64 f_4] 0, .pp [i64 f_5] 0]) rfl rfl rfl (edge_some_1__edge_read_ok hT hr16).call) (Weak.refl _) rfl (by simp) (edge_some_1__edge_read_ok hT hr16)) <| AR.nil <| hK15 _ (AWP.weak (Weak.kt [0, 1, 7, 8, 5, 16] rfl) ?_)
   refine awp_cond rfl (fun hb17 => ?_) (fun hb17 => ?_)
   ·replace h := Sh.if_t h hb17
    refine awp_seqK fun K16 hK16 => awp_reg rfl <| AR.op rfl (aop_move (.inl rfl) rfl) <| AR.op rfl (aop_move (.inr rfl) rfl) <| AR.nil <| hK16 _ (AWP.weak (Weak.kt [4] rfl) ?_)
    refine awp_ret ?_
    obtain rfl := Option.some.inj h
    refine ⟨.inr rfl, i64 1, rfl, ?_⟩
    exact Weak.e ⟨.k, trivial⟩
   ·replace h := Sh.if_f h hb17
    refine awp_skip <| hK13 _ (AWP.weak (Weak.kt [0, 1, 7, 8] rfl) ?_)
    refine awp_reg rfl <| AR.op (r := i64 2) rfl ((aop_add rfl rfl rfl rfl).conv (congrArg i64 (by decide))) <| AR.op rfl (aop_move (.inl rfl) rfl) <| AR.nil <| awp_unrS ?_
    refine AWP.weak (Weak.kt [0, 1, 7, 8] rfl) ?_
    refine awp_seqK fun K17 hK17 => awp_reg rfl <| AR.op (r := bl true) rfl ((aop_lss rfl rfl rfl).tt (by decide)) <| AR.nil <| hK17 _ ?_
    refine awp_seqK fun K18 hK18 => awp_cond_t rfl ?_
    refine awp_skip <| hK18 _ (AWP.weak (Weak.kt [0, 1, 7, 8] rfl) ?_)
    refine awp_seqK fun K19 hK19 => awp_block <| awp_seqK fun K20 hK20 => awp_reg rfl <| AR.op rfl (aop_move (.inl rfl) rfl) <| AR.op rfl (aop_move (.inr rfl) rfl) <| AR.nil <| hK20 _ (AWP.weak (Weak.kt [0, 1, 7, 8, 5] rfl) ?_)
    refine awp_seqK fun K21 hK21 => awp_reg rfl <| AR.op rfl (aop_move (.inl rfl) rfl) <| AR.op rfl (aop_move (.inl rfl) rfl) <| AR.op rfl (aop_move (.inl rfl) rfl) <| AR.keep [0, 1, 7, 8, 5, 11, 12, 13] rfl <| AR.op rfl (aop_index_sl rfl rfl (.inr rfl) rfl el108 rfl rfl rfl) <| AR.op (r := .ifc 106 (.sl (List.map G.api_Choice.av s_2))) rfl (aop_load_pp rfl rfl sz111 rfl) ?_
    obtain ⟨r20, hr20, h⟩ := Sh.bind_some' h
    refine AR.op (r := bl r20) rfl (aop_callNE (ys := [.ifc 106 (.sl (List.map G.api_Choice.av s_2)), .pp [.sl (List.map G.api_Txn.av f_3.Txns)] 0, .pp [i64 f_4] 0, .pp [i64 f_5] 0]) (xs := [.ifc 106 (.sl (List.map G.api_Choice.av s_2)), .pp [.sl (List.map G.api_Txn.av f_3.Txns)] 0, .pp [i64 f_4] 0, .pp [i64 f_5] 0]) (.clo (ys := [.ifc 106 (.sl (List.map G.api_Choice.av s_2))]) (caps := [.pp [.sl (List.map G.api_Txn.av f_3.Txns)] 0, .pp [i64 f_4] 0, .pp [i64 f_5] 0]) rfl rfl rfl (edge_some_1__edge_written_ok hT hr20).call) (Weak.refl _) rfl (by simp) (edge_some_1__edge_written_ok hT hr20)) <| AR.nil <| hK21 _ (AWP.weak (Weak.kt [0, 1, 7, 8, 5, 16] rfl) ?_)
    refine awp_cond rfl (fun hb21 => ?_) (fun hb21 => ?_)
    ·replace h := Sh.if_t h hb21
     refine awp_seqK fun K22 hK22 => awp_reg rfl <| AR.op rfl (aop_move (.inl rfl) rfl) <| AR.op rfl (aop_move (.inr rfl) rfl) <| AR.nil <| hK22 _ (AWP.weak (Weak.kt [4] rfl) ?_)
     refine awp_ret ?_
     obtain rfl := Option.some.inj h
     refine ⟨.inr rfl, i64 2, rfl, ?_⟩
     exact Weak.e ⟨.k, trivial⟩
    ·replace h := Sh.if_f h hb21
     refine awp_skip <| hK19 _ (AWP.weak (Weak.kt [0, 1, 7, 8] rfl) ?_)
     refine awp_reg rfl <| AR.op (r := i64 3) rfl ((aop_add rfl rfl rfl rfl).conv (congrArg i64 (by decide))) <| AR.op rfl (aop_move (.inl rfl) rfl) <| AR.nil <| awp_unrS ?_
     refine AWP.weak (Weak.kt [0, 1, 7, 8] rfl) ?_
     refine awp_seqK fun K23 hK23 => awp_reg rfl <| AR.op (r := bl false) rfl ((aop_lss rfl rfl rfl).ff (by decide)) <| AR.nil <| hK23 _ ?_
     refine awp_seqK fun K24 hK24 => awp_cond_f rfl ?_
     refine awp_exit ?_
     exact hK3 () _ h (Weak.kt [] rfl)
theorem slices_IndexFunc_edge_kind_edge_kind__lit3_edge_some_1_ok {W0 : World} (hT : Tab W0) {s_0 : G.edge_session} {s_1 : G.edge_read} {s_2 : List G.api_Choice} {f_3 : G.api_Hist} {f_4 : Int} {f_5 : Int} {r : Int} (h : G.slices_IndexFunc_edge_kind_edge_kind__lit3_edge_some_1 s_0 s_1 s_2 f_3 f_4 f_5 = some r) : Fun1 Try.prog W0 70 [.clip [.ifc 104 (G.edge_session.av s_0), .ifc 105 (G.edge_read.av s_1), .ifc 106 (.sl (List.map G.api_Choice.av s_2))], .clo (.func 68) [.pp [.sl (List.map G.api_Txn.av f_3.Txns)] 0, .pp [i64 f_4] 0, .pp [i64 f_5] 0]] (i64 r) := Fun1.two (slices_IndexFunc_edge_kind_edge_kind__lit3_edge_some_1_ok0 hT h) (by simp)


theorem slices_ContainsFunc_edge_kind_edge_kind__lit3_edge_some_1_ok0 {W0 : World} (hT : Tab W0) {s_0 : G.edge_session} {s_1 : G.edge_read} {s_2 : List G.api_Choice} {f_3 : G.api_Hist} {f_4 : Int} {f_5 : Int} {r : Bool} (h : G.slices_ContainsFunc_edge_kind_edge_kind__lit3_edge_some_1 s_0 s_1 s_2 f_3 f_4 f_5 = some r) : Fun2 Try.prog W0 67 [.clip [.ifc 104 (G.edge_session.av s_0), .ifc 105 (G.edge_read.av s_1), .ifc 106 (.sl (List.map G.api_Choice.av s_2))], .clo (.func 68) [.pp [.sl (List.map G.api_Txn.av f_3.Txns)] 0, .pp [i64 f_4] 0, .pp [i64 f_5] 0]] (bl r) .empty := by
 refine fun2_of_awp Try.func67 rfl (by kernel_rfl) Try.ntmps67 (by simp) ?_
 unfold G.slices_ContainsFunc_edge_kind_edge_kind__lit3_edge_some_1 at h
 show AWP _ _ _ _ ⟨[(0, .clip [.ifc 104 (G.edge_session.av s_0), .ifc 105 (G.edge_read.av s_1), .ifc 106 (.sl (List.map G.api_Choice.av s_2))]), (1, .clo (.func 68) [.pp [.sl (List.map G.api_Txn.av f_3.Txns)] 0, .pp [i64 f_4] 0, .pp [i64 f_5] 0])], .empty⟩ _
 refine awp_seqK fun K1 hK1 => awp_reg rfl <| AR.op rfl (aop_move (.inr rfl) rfl) <| AR.nil <| hK1 _ (AWP.weak (Weak.kt [0, 1] rfl) ?_)
 refine awp_seqK fun K2 hK2 => awp_reg rfl <| AR.op rfl (aop_move (.inl rfl) rfl) <| AR.op rfl (aop_move (.inl rfl) rfl) ?_
 obtain ⟨r3, hr3, h⟩ := Sh.bind_some' h
 refine AR.op (r := i64 r3) rfl (aop_call1 rfl rfl (by simp) (slices_IndexFunc_edge_kind_edge_kind__lit3_edge_some_1_ok hT hr3)) <| AR.keep [7] rfl <| AR.op rfl (aop_geq rfl rfl rfl) <| AR.op rfl (aop_move (.inr rfl) rfl) <| AR.nil <| hK2 _ (AWP.weak (Weak.kt [4] rfl) ?_)
 refine awp_ret ?_
 obtain rfl := Option.some.inj h
 refine ⟨.inr rfl, bl (decide ((0 : Int) ≤ r3)), rfl, ?_⟩
 exact Weak.e ⟨.k, trivial⟩
theorem slices_ContainsFunc_edge_kind_edge_kind__lit3_edge_some_1_ok {W0 : World} (hT : Tab W0) {s_0 : G.edge_session} {s_1 : G.edge_read} {s_2 : List G.api_Choice} {f_3 : G.api_Hist} {f_4 : Int} {f_5 : Int} {r : Bool} (h : G.slices_ContainsFunc_edge_kind_edge_kind__lit3_edge_some_1 s_0 s_1 s_2 f_3 f_4 f_5 = some r) : Fun1 Try.prog W0 67 [.clip [.ifc 104 (G.edge_session.av s_0), .ifc 105 (G.edge_read.av s_1), .ifc 106 (.sl (List.map G.api_Choice.av s_2))], .clo (.func 68) [.pp [.sl (List.map G.api_Txn.av f_3.Txns)] 0, .pp [i64 f_4] 0, .pp [i64 f_5] 0]] (bl r) := Fun1.two (slices_ContainsFunc_edge_kind_edge_kind__lit3_edge_some_1_ok0 hT h) (by simp)


theorem edge_some__lit3_ok0 {W0 : World} (hT : Tab W0) {h_0 : G.api_Hist} {x_1 : Int} {y_2 : Int} {kinds_3 : G.edge_session} {kinds_4 : G.edge_read} {kinds_5 : List G.api_Choice} {r : Bool} (h : G.edge_some__lit3 h_0 x_1 y_2 kinds_3 kinds_4 kinds_5 = some r) : Fun2 Try.prog W0 64 [G.api_Hist.av h_0, i64 x_1, i64 y_2, .clip [.ifc 104 (G.edge_session.av kinds_3), .ifc 105 (G.edge_read.av kinds_4), .ifc 106 (.sl (List.map G.api_Choice.av kinds_5))]] (bl r) .empty := by
 refine fun2_of_awp Try.func64 rfl (by kernel_rfl) Try.ntmps64 (by simp) ?_
 unfold G.edge_some__lit3 at h
 show AWP _ _ _ _ ⟨[(0, G.api_Hist.av h_0), (1, i64 x_1), (2, i64 y_2), (3, .clip [.ifc 104 (G.edge_session.av kinds_3), .ifc 105 (G.edge_read.av kinds_4), .ifc 106 (.sl (List.map G.api_Choice.av kinds_5))])], .empty⟩ _
 refine awp_seqK fun K1 hK1 => awp_reg rfl <| AR.op (r := .ref 0 0 0) rfl (aop_box 1 [G.api_Hist.av h_0] rfl rfl rfl (.inl ⟨rfl, rfl⟩)) <| AR.op (r := .ref 1 0 0) rfl (aop_box 1 [i64 x_1] rfl rfl rfl (.inl ⟨rfl, rfl⟩)) <| AR.op (r := .ref 2 0 0) rfl (aop_box 1 [i64 y_2] rfl rfl rfl (.inl ⟨rfl, rfl⟩)) <| AR.keep [3, 4, 5, 6] rfl <| AR.op rfl (aop_move (.inr rfl) rfl) <| AR.nil ?_
 refine hK1 _ (AWP.weak (Weak.e (fr' := [(3, .clip [.ifc 104 (G.edge_session.av kinds_3), .ifc 105 (G.edge_read.av kinds_4), .ifc 106 (.sl (List.map G.api_Choice.av kinds_5))]), (4, .pp [.sl (List.map G.api_Txn.av h_0.Txns)] 0), (5, .pp [i64 x_1] 0), (6, .pp [i64 y_2] 0)]) (H' := .empty) ⟨⟨.clip [.ifc 104 (G.edge_session.av kinds_3), .ifc 105 (G.edge_read.av kinds_4), .ifc 106 (.sl (List.map G.api_Choice.av kinds_5))], rfl, .sm⟩, ⟨_, rfl, .frzA rfl rfl rfl rfl (by simp)⟩, ⟨_, rfl, .frzA rfl rfl rfl rfl (by simp)⟩, ⟨_, rfl, .frzA rfl rfl rfl rfl (by simp)⟩, trivial⟩) ?_)
 refine awp_seqK fun K2 hK2 => awp_seqJ (fun (p : Bool) => (⟨[(3, .clip [.ifc 104 (G.edge_session.av kinds_3), .ifc 105 (G.edge_read.av kinds_4), .ifc 106 (.sl (List.map G.api_Choice.av kinds_5))]), (4, .pp [.sl (List.map G.api_Txn.av h_0.Txns)] 0), (5, .pp [i64 x_1] 0), (6, .pp [i64 y_2] 0), (26, bl p)], .empty⟩ : St)) (fun (p : Bool) => G.edge_some__lit3_j1 h_0 x_1 y_2 kinds_3 kinds_4 kinds_5 p = some r) ?_ ?_
 ·rintro v13 h
  replace h : G.edge_some__lit3_j1 h_0 x_1 y_2 kinds_3 kinds_4 kinds_5 v13 = some r := h
  unfold G.edge_some__lit3_j1 at h
  refine awp_cond rfl (fun hb14 => ?_) (fun hb14 => ?_)
  ·replace h := Sh.if_t h hb14
   refine awp_seqK fun K3 hK3 => awp_reg rfl <| AR.op rfl (aop_move (.inr rfl) rfl) <| AR.nil <| hK3 _ (AWP.weak (Weak.kt [8] rfl) ?_)
   refine awp_ret ?_
   obtain rfl := Option.some.inj h
   refine ⟨.inr rfl, bl false, rfl, ?_⟩
   exact Weak.e ⟨.k, trivial⟩
  ·replace h := Sh.if_f h hb14
   refine awp_skip <| hK2 _ (AWP.weak (Weak.kt [3, 4, 5, 6] rfl) ?_)
   refine awp_seqK fun K4 hK4 => awp_reg rfl <| AR.op rfl (aop_move (.inl rfl) rfl) <| AR.op (r := .clo (.func 68) [.pp [.sl (List.map G.api_Txn.av h_0.Txns)] 0, .pp [i64 x_1] 0, .pp [i64 y_2] 0]) rfl (aop_makeFunc rfl rfl) ?_
   obtain ⟨r16, hr16, h⟩ := Sh.bind_some' h
   refine AR.op (r := bl r16) rfl (aop_call1 rfl rfl (by simp) (slices_ContainsFunc_edge_kind_edge_kind__lit3_edge_some_1_ok hT hr16)) <| AR.keep [29] rfl <| AR.op rfl (aop_move (.inr rfl) rfl) <| AR.nil <| hK4 _ (AWP.weak (Weak.kt [8] rfl) ?_)
   refine awp_ret ?_
   obtain rfl := Option.some.inj h
   refine ⟨.inr rfl, bl r16, rfl, ?_⟩
   exact Weak.e ⟨.k, trivial⟩
 ·intro K5 hK5
  refine awp_reg rfl <| AR.op (r := G.api_Hist.av h_0) rfl (aop_load_pp rfl rfl sz24 rfl) ?_
  obtain ⟨r17, hr17, h⟩ := Sh.bind_some' h
  refine AR.op (r := bl r17) rfl (aop_call1 rfl rfl (by simp) (hist_Right_ok hT hr17)) <| AR.op (r := bl (!r17)) rfl (aop_not rfl rfl) <| AR.keep [3, 4, 5, 6, 11] rfl <| AR.op rfl (aop_move (.inl rfl) rfl) ?_
  rcases Bool.eq_false_or_eq_true (!r17) with hb18 | hb18
  ·rw [hb18]
   replace h := Sh.if_t h hb18
   refine AR.skip rfl <| AR.skip rfl <| AR.keep [3, 4, 5, 6, 12, 13, 14] rfl <| AR.skip rfl <| AR.skip rfl <| AR.op rfl (aop_pick rfl rfl rfl) <| AR.keep [3, 4, 5, 6, 17] rfl <| AR.op rfl (aop_move (.inl rfl) rfl) ?_
   refine AR.skip rfl <| AR.skip rfl <| AR.keep [3, 4, 5, 6, 18, 19, 20] rfl <| AR.skip rfl <| AR.skip rfl <| AR.skip rfl <| AR.keep [3, 4, 5, 6, 18, 21, 23] rfl <| AR.skip rfl ?_
   refine AR.skip rfl <| AR.op rfl (aop_pick rfl rfl rfl) <| AR.nil ?_
   exact hK5 true _ h (Weak.kt [3, 4, 5, 6, 26] rfl)
  ·rw [hb18]
   replace h := Sh.if_f h hb18
   refine AR.op (r := i64 x_1) rfl (aop_load_pp rfl rfl sz3 rfl) <| AR.op (r := i64 y_2) rfl (aop_load_pp rfl rfl sz3 rfl) <| AR.keep [3, 4, 5, 6, 12, 13, 14] rfl <| AR.op (r := i64 (Sh.min x_1 y_2)) rfl (aop_min2 rfl rfl rfl) <| AR.op rfl (aop_lss rfl rfl rfl) <| AR.op rfl (aop_pick rfl rfl rfl) <| AR.keep [3, 4, 5, 6, 17] rfl <| AR.op rfl (aop_move (.inl rfl) rfl) ?_
   rcases Bool.eq_false_or_eq_true (decide ((Sh.min x_1 y_2) < 0)) with hb19 | hb19
   ·rw [hb19]
    replace h := Sh.if_t h hb19
    refine AR.skip rfl <| AR.skip rfl <| AR.keep [3, 4, 5, 6, 18, 19, 20] rfl <| AR.skip rfl <| AR.skip rfl <| AR.skip rfl <| AR.keep [3, 4, 5, 6, 18, 21, 23] rfl <| AR.skip rfl ?_
    refine AR.skip rfl <| AR.op rfl (aop_pick rfl rfl rfl) <| AR.nil ?_
    exact hK5 true _ h (Weak.kt [3, 4, 5, 6, 26] rfl)
   ·rw [hb19]
    replace h := Sh.if_f h hb19
    refine AR.op (r := i64 x_1) rfl (aop_load_pp rfl rfl sz3 rfl) <| AR.op (r := i64 y_2) rfl (aop_load_pp rfl rfl sz3 rfl) <| AR.keep [3, 4, 5, 6, 18, 19, 20] rfl <| AR.op (r := i64 (Sh.max x_1 y_2)) rfl (aop_max2 rfl rfl rfl) <| AR.op rfl (aop_field_pp rfl rfl fd24_0 (by decide)) <| AR.op (r := .sl (List.map G.api_Txn.av h_0.Txns)) rfl (aop_load_pp rfl rfl sz22 rfl) <| AR.keep [3, 4, 5, 6, 18, 21, 23] rfl <| AR.op rfl (t_len_sl G.api_Txn.av h_0.Txns rfl rfl el22) ?_
    refine AR.op rfl (aop_geq rfl rfl rfl) <| AR.op rfl (aop_pick rfl rfl rfl) <| AR.nil ?_
    exact hK5 (decide ((Sh.len h_0.Txns) ≤ (Sh.max x_1 y_2))) _ h (Weak.kt [3, 4, 5, 6, 26] rfl)
theorem edge_some__lit3_ok {W0 : World} (hT : Tab W0) {h_0 : G.api_Hist} {x_1 : Int} {y_2 : Int} {kinds_3 : G.edge_session} {kinds_4 : G.edge_read} {kinds_5 : List G.api_Choice} {r : Bool} (h : G.edge_some__lit3 h_0 x_1 y_2 kinds_3 kinds_4 kinds_5 = some r) : Fun1 Try.prog W0 64 [G.api_Hist.av h_0, i64 x_1, i64 y_2, .clip [.ifc 104 (G.edge_session.av kinds_3), .ifc 105 (G.edge_read.av kinds_4), .ifc 106 (.sl (List.map G.api_Choice.av kinds_5))]] (bl r) := Fun1.two (edge_some__lit3_ok0 hT h) (by simp)


theorem edge_Direct_ok0 {W0 : World} (hT : Tab W0) {h_0 : G.api_Hist} {l_1 : List G.api_Choice} {x_2 : Int} {y_3 : Int} {r : Bool} (h : G.edge_Direct h_0 l_1 x_2 y_3 = some r) : Fun2 Try.prog W0 59 [G.api_Hist.av h_0, .sl (List.map G.api_Choice.av l_1), i64 x_2, i64 y_3] (bl r) .empty := by
 refine fun2_of_awp Try.func59 rfl (by kernel_rfl) Try.ntmps59 (by simp) ?_
 unfold G.edge_Direct at h
 show AWP _ _ _ _ ⟨[(0, G.api_Hist.av h_0), (1, .sl (List.map G.api_Choice.av l_1)), (2, i64 x_2), (3, i64 y_3)], .empty⟩ _
 refine awp_seqK fun K1 hK1 => awp_reg rfl <| AR.op (r := .ref 0 0 0) rfl (aop_box 1 [G.api_Hist.av h_0] rfl rfl rfl (.inl ⟨rfl, rfl⟩)) <| AR.op rfl (aop_move (.inr rfl) rfl) <| AR.nil <| hK1 _ (AWP.weak (Weak.e (fr' := [(1, .sl (List.map G.api_Choice.av l_1)), (2, i64 x_2), (3, i64 y_3), (4, .pp [.sl (List.map G.api_Txn.av h_0.Txns)] 0)]) (H' := .empty) ⟨⟨.sl (List.map G.api_Choice.av l_1), rfl, .sm⟩, .k, .k, ⟨_, rfl, .frzA rfl rfl rfl rfl (by simp)⟩, trivial⟩) ?_)
 refine awp_seqK fun K2 hK2 => awp_reg rfl <| AR.op (r := G.api_Hist.av h_0) rfl (aop_load_pp rfl rfl sz24 rfl) <| AR.op rfl (aop_move (.inl rfl) rfl) <| AR.op rfl (aop_move (.inl rfl) rfl) <| AR.keep [1, 9, 10, 11] rfl <| AR.op (r := .agg []) rfl (aop_build rfl bd104 rfl rfl rfl) <| AR.op (r := .ifc 104 (.agg [])) rfl (aop_makeInterface rfl rfl Try.underlying104 (fun _ h => by cases h)) ?_
 refine AR.op (r := .agg []) rfl (aop_build rfl bd105 rfl rfl rfl) <| AR.keep [1, 9, 10, 11, 13, 14] rfl <| AR.op (r := .ifc 105 (.agg [])) rfl (aop_makeInterface rfl rfl Try.underlying105 (fun _ h => by cases h)) <| AR.op rfl (aop_move (.inl rfl) rfl) <| AR.op (r := .ifc 106 (.sl (List.map G.api_Choice.av l_1))) rfl (aop_makeInterface rfl rfl Try.underlying106 (fun _ h => by cases h)) <| AR.keep [9, 10, 11, 13, 15, 17] rfl <| AR.op (r := .clip [.ifc 104 (.agg []), .ifc 105 (.agg []), .ifc 106 (.sl (List.map G.api_Choice.av l_1))]) rfl (aop_buildSlice rfl (xo := [.tmp 13, .tmp 15, .tmp 17]) rfl rfl rfl (by simp [AV.solid]) (by simp [AV.flat]) el108 ze108 (by decide)) ?_
 obtain ⟨r3, hr3, h⟩ := Sh.bind_some' h
 refine AR.op (r := bl r3) rfl (aop_callN rfl (ys := [G.api_Hist.av h_0, i64 x_2, i64 y_3, .clip [.ifc 104 (.agg []), .ifc 105 (.agg []), .ifc 106 (.sl (List.map G.api_Choice.av l_1))]]) (xs := [G.api_Hist.av h_0, i64 x_2, i64 y_3, .clip [.ifc 104 (G.edge_session.av G.edge_session.mk), .ifc 105 (G.edge_read.av G.edge_read.mk), .ifc 106 (.sl (List.map G.api_Choice.av l_1))]]) rfl (Weak.e (fr' := argsFr 0 [G.api_Hist.av h_0, i64 x_2, i64 y_3, .clip [.ifc 104 (G.edge_session.av G.edge_session.mk), .ifc 105 (G.edge_read.av G.edge_read.mk), .ifc 106 (.sl (List.map G.api_Choice.av l_1))]]) (H' := .empty) ⟨⟨G.api_Hist.av h_0, rfl, .sm⟩, .k, .k, ⟨.clip [.ifc 104 (.agg []), .ifc 105 (.agg []), .ifc 106 (.sl (List.map G.api_Choice.av l_1))], rfl, .sm⟩, trivial⟩) rfl (by simp) (edge_some__lit3_ok hT hr3)) <| AR.op rfl (aop_move (.inr rfl) rfl) <| AR.nil <| hK2 _ (AWP.weak (Weak.kt [8] rfl) ?_)
 refine awp_ret ?_
 obtain rfl := Option.some.inj h
 refine ⟨.inr rfl, bl r3, rfl, ?_⟩
 exact Weak.e ⟨.k, trivial⟩
theorem edge_Direct_ok {W0 : World} (hT : Tab W0) {h_0 : G.api_Hist} {l_1 : List G.api_Choice} {x_2 : Int} {y_3 : Int} {r : Bool} (h : G.edge_Direct h_0 l_1 x_2 y_3 = some r) : Fun1 Try.prog W0 59 [G.api_Hist.av h_0, .sl (List.map G.api_Choice.av l_1), i64 x_2, i64 y_3] (bl r) := Fun1.two (edge_Direct_ok0 hT h) (by simp)


theorem edge_over_is_1__1_ok0 {W0 : World} (hT : Tab W0) {r_0 : G.api_Take} {a_1 : G.api_Hist} {a_2 : Int} {a_3 : List G.api_Choice} {r : Bool} (h : G.edge_over_is_1__1 r_0 a_1 a_2 a_3 = some r) : Fun2 Try.prog W0 98 [G.api_Take.av r_0, .pp [.sl (List.map G.api_Txn.av a_1.Txns)] 0, .pp [i64 a_2] 0, .pp [.sl (List.map G.api_Choice.av a_3)] 0] (bl r) .empty := by
 refine fun2_of_awp Try.func98 rfl (by kernel_rfl) Try.ntmps98 (by simp) ?_
 unfold G.edge_over_is_1__1 at h
 show AWP _ _ _ _ ⟨[(0, G.api_Take.av r_0), (1, .pp [.sl (List.map G.api_Txn.av a_1.Txns)] 0), (2, .pp [i64 a_2] 0), (3, .pp [.sl (List.map G.api_Choice.av a_3)] 0)], .empty⟩ _
 refine awp_seqK fun K1 hK1 => awp_reg rfl <| AR.op (r := .ref 0 0 0) rfl (aop_box 2 [G.api_Take.av r_0] rfl rfl rfl (.inl ⟨rfl, rfl⟩)) <| AR.op rfl (aop_move (.inr rfl) rfl) <| AR.nil <| hK1 _ (AWP.weak (Weak.e (fr' := [(1, .pp [.sl (List.map G.api_Txn.av a_1.Txns)] 0), (2, .pp [i64 a_2] 0), (3, .pp [.sl (List.map G.api_Choice.av a_3)] 0), (4, .pp [i64 r_0.Key, i64 r_0.From] 0)]) (H' := .empty) ⟨.k, .k, .k, ⟨_, rfl, .frzA rfl rfl rfl rfl (by simp)⟩, trivial⟩) ?_)
 refine awp_seqK fun K2 hK2 => awp_reg rfl <| AR.op (r := G.api_Hist.av a_1) rfl (aop_load_pp rfl rfl sz24 rfl) <| AR.op (r := i64 a_2) rfl (aop_load_pp rfl rfl sz3 rfl) <| AR.op rfl (aop_field_pp rfl rfl fd78_0 (by decide)) <| AR.keep [2, 3, 4, 6, 7, 8] rfl <| AR.op (r := i64 r_0.Key) rfl (aop_load_pp rfl rfl sz3 rfl) ?_
 obtain ⟨r12, hr12, h⟩ := Sh.bind_some' h
 refine AR.op (r := bl r12) rfl (aop_call1 rfl rfl (by simp) (edge_writes_ok hT hr12)) <| AR.op rfl (aop_move (.inl rfl) rfl) <| AR.keep [2, 3, 4, 11] rfl ?_
 rcases Bool.eq_false_or_eq_true (r12) with hb13 | hb13
 ·rw [hb13]
  replace h := Sh.if_t h hb13
  refine AR.op rfl (aop_field_pp rfl rfl fd78_1 (by decide)) <| AR.op (r := i64 r_0.From) rfl (aop_load_pp rfl rfl sz3 rfl) <| AR.op rfl (aop_lss rfl rfl rfl) <| AR.keep [2, 3, 4, 11, 14] rfl <| AR.op rfl (aop_move (.inl rfl) rfl) ?_
  rcases Bool.eq_false_or_eq_true (decide (r_0.From < 0)) with hb14 | hb14
  ·rw [hb14]
   replace h := Sh.if_t h hb14
   refine AR.skip rfl <| AR.skip rfl <| AR.keep [2, 3, 4, 11, 15, 17] rfl <| AR.skip rfl <| AR.skip rfl <| AR.skip rfl <| AR.keep [2, 3, 4, 11, 15, 20] rfl <| AR.skip rfl ?_
   refine AR.skip rfl <| AR.skip rfl <| AR.keep [2, 4, 11, 15, 20, 21, 23] rfl <| AR.skip rfl <| AR.skip rfl <| AR.skip rfl <| AR.keep [11, 15, 20, 21, 23, 25, 26] rfl <| AR.skip rfl ?_
   refine AR.skip rfl <| AR.skip rfl <| AR.keep [11, 15, 29] rfl <| AR.op rfl (aop_pick rfl rfl rfl) <| AR.op rfl (aop_pick rfl rfl rfl) <| AR.op rfl (aop_move (.inr rfl) rfl) <| AR.nil <| hK2 _ (AWP.weak (Weak.kt [5] rfl) ?_)
   refine awp_ret ?_
   obtain rfl := Option.some.inj h
   refine ⟨.inr rfl, bl true, rfl, ?_⟩
   exact Weak.e ⟨.k, trivial⟩
  ·rw [hb14]
   replace h := Sh.if_f h hb14
   refine AR.op rfl (aop_field_pp rfl rfl fd78_1 (by decide)) <| AR.op (r := i64 r_0.From) rfl (aop_load_pp rfl rfl sz3 rfl) <| AR.keep [2, 3, 4, 11, 15, 17] rfl <| AR.op (r := i64 a_2) rfl (aop_load_pp rfl rfl sz3 rfl) <| AR.op (r := bl (decide (r_0.From ≠ a_2))) rfl (aop_neq rfl rfl rfl) <| AR.op rfl (aop_move (.inl rfl) rfl) <| AR.keep [2, 3, 4, 11, 15, 20] rfl ?_
   rcases Bool.eq_false_or_eq_true (decide (r_0.From ≠ a_2)) with hb15 | hb15
   ·rw [hb15]
    replace h := Sh.if_t h hb15
    refine AR.op (r := .sl (List.map G.api_Choice.av a_3)) rfl (aop_load_pp rfl rfl sz114 rfl) <| AR.op rfl (aop_field_pp rfl rfl fd78_0 (by decide)) <| AR.op (r := i64 r_0.Key) rfl (aop_load_pp rfl rfl sz3 rfl) <| AR.keep [2, 4, 11, 15, 20, 21, 23] rfl <| AR.op rfl (aop_field_pp rfl rfl fd78_1 (by decide)) <| AR.op (r := i64 r_0.From) rfl (aop_load_pp rfl rfl sz3 rfl) <| AR.op (r := i64 a_2) rfl (aop_load_pp rfl rfl sz3 rfl) <| AR.keep [11, 15, 20, 21, 23, 25, 26] rfl ?_
    refine AR.op (r := .agg [i64 r_0.Key, i64 r_0.From, i64 a_2]) rfl (aop_build rfl bd35 rfl rfl rfl) ?_
    obtain ⟨r16, hr16, h⟩ := Sh.bind_some' h
    refine AR.op (r := bl r16) rfl (aop_callN rfl (ys := [.sl (List.map G.api_Choice.av a_3), .agg [i64 r_0.Key, i64 r_0.From, i64 a_2]]) (xs := [.sl (List.map G.api_Choice.av a_3), G.api_Choice.av (G.api_Choice.mk r_0.Key r_0.From a_2)]) rfl (Weak.e (fr' := argsFr 0 [.sl (List.map G.api_Choice.av a_3), G.api_Choice.av (G.api_Choice.mk r_0.Key r_0.From a_2)]) (H' := .empty) ⟨⟨.sl (List.map G.api_Choice.av a_3), rfl, .sm⟩, ⟨.agg [i64 r_0.Key, i64 r_0.From, i64 a_2], rfl, .sm⟩, trivial⟩) rfl (by simp) (slices_Contains_edge_over_api_Choice_ok hT hr16)) <| AR.op rfl (aop_pick rfl rfl rfl) <| AR.keep [11, 15, 29] rfl <| AR.op rfl (aop_pick rfl rfl rfl) <| AR.op rfl (aop_pick rfl rfl rfl) <| AR.op rfl (aop_move (.inr rfl) rfl) <| AR.nil <| hK2 _ (AWP.weak (Weak.kt [5] rfl) ?_)
    refine awp_ret ?_
    obtain rfl := Option.some.inj h
    refine ⟨.inr rfl, bl r16, rfl, ?_⟩
    exact Weak.e ⟨.k, trivial⟩
   ·rw [hb15]
    replace h := Sh.if_f h hb15
    refine AR.skip rfl <| AR.skip rfl <| AR.skip rfl <| AR.keep [2, 4, 11, 15, 20, 21, 23] rfl <| AR.skip rfl <| AR.skip rfl <| AR.skip rfl <| AR.keep [11, 15, 20, 21, 23, 25, 26] rfl ?_
    refine AR.skip rfl <| AR.skip rfl <| AR.op rfl (aop_pick rfl rfl rfl) <| AR.keep [11, 15, 29] rfl <| AR.op rfl (aop_pick rfl rfl rfl) <| AR.op rfl (aop_pick rfl rfl rfl) <| AR.op rfl (aop_move (.inr rfl) rfl) <| AR.nil ?_
    refine hK2 _ (AWP.weak (Weak.kt [5] rfl) ?_)
    refine awp_ret ?_
    obtain rfl := Option.some.inj h
    refine ⟨.inr rfl, bl false, rfl, ?_⟩
    exact Weak.e ⟨.k, trivial⟩
 ·rw [hb13]
  replace h := Sh.if_f h hb13
  refine AR.skip rfl <| AR.skip rfl <| AR.skip rfl <| AR.keep [2, 3, 4, 11, 14] rfl <| AR.skip rfl <| AR.skip rfl <| AR.skip rfl <| AR.keep [2, 3, 4, 11, 15, 17] rfl ?_
  refine AR.skip rfl <| AR.skip rfl <| AR.skip rfl <| AR.keep [2, 3, 4, 11, 15, 20] rfl <| AR.skip rfl <| AR.skip rfl <| AR.skip rfl <| AR.keep [2, 4, 11, 15, 20, 21, 23] rfl ?_
  refine AR.skip rfl <| AR.skip rfl <| AR.skip rfl <| AR.keep [11, 15, 20, 21, 23, 25, 26] rfl <| AR.skip rfl <| AR.skip rfl <| AR.skip rfl <| AR.keep [11, 15, 29] rfl ?_
  refine AR.skip rfl <| AR.op rfl (aop_pick rfl rfl rfl) <| AR.op rfl (aop_move (.inr rfl) rfl) <| AR.nil <| hK2 _ (AWP.weak (Weak.kt [5] rfl) ?_)
  refine awp_ret ?_
  obtain rfl := Option.some.inj h
  refine ⟨.inr rfl, bl false, rfl, ?_⟩
  exact Weak.e ⟨.k, trivial⟩
theorem edge_over_is_1__1_ok {W0 : World} (hT : Tab W0) {r_0 : G.api_Take} {a_1 : G.api_Hist} {a_2 : Int} {a_3 : List G.api_Choice} {r : Bool} (h : G.edge_over_is_1__1 r_0 a_1 a_2 a_3 = some r) : Fun1 Try.prog W0 98 [G.api_Take.av r_0, .pp [.sl (List.map G.api_Txn.av a_1.Txns)] 0, .pp [i64 a_2] 0, .pp [.sl (List.map G.api_Choice.av a_3)] 0] (bl r) := Fun1.two (edge_over_is_1__1_ok0 hT h) (by simp)


theorem slices_IndexFunc_api_Take_api_Take__edge_over_is_1_ok0 {W0 : World} (hT : Tab W0) {s_0 : List G.api_Take} {f_1 : G.api_Hist} {f_2 : Int} {f_3 : List G.api_Choice} {r : Int} (h : G.slices_IndexFunc_api_Take_api_Take__edge_over_is_1 s_0 f_1 f_2 f_3 = some r) : Fun2 Try.prog W0 91 [.sl (List.map G.api_Take.av s_0), .clo (.func 98) [.pp [.sl (List.map G.api_Txn.av f_1.Txns)] 0, .pp [i64 f_2] 0, .pp [.sl (List.map G.api_Choice.av f_3)] 0]] (i64 r) .empty := by
 refine fun2_of_awp Try.func91 rfl (by kernel_rfl) Try.ntmps91 (by simp) ?_
 unfold G.slices_IndexFunc_api_Take_api_Take__edge_over_is_1 at h
 show AWP _ _ _ _ ⟨[(0, .sl (List.map G.api_Take.av s_0)), (1, .clo (.func 98) [.pp [.sl (List.map G.api_Txn.av f_1.Txns)] 0, .pp [i64 f_2] 0, .pp [.sl (List.map G.api_Choice.av f_3)] 0])], .empty⟩ _
 refine awp_seqK fun K1 hK1 => awp_reg rfl <| AR.op rfl (aop_move (.inr rfl) rfl) <| AR.nil <| hK1 _ (AWP.weak (Weak.kt [0, 1] rfl) ?_)
 refine awp_seqJ (fun (p : Unit) => (⟨[], .empty⟩ : St)) (fun (p : Unit) => G.slices_IndexFunc_api_Take_api_Take__edge_over_is_1_j1 = some r) ?_ ?_
 ·rintro ⟨⟩ h
  replace h : G.slices_IndexFunc_api_Take_api_Take__edge_over_is_1_j1 = some r := h
  unfold G.slices_IndexFunc_api_Take_api_Take__edge_over_is_1_j1 at h
  refine awp_seqK fun K2 hK2 => awp_reg rfl <| AR.op rfl (aop_move (.inr rfl) rfl) <| AR.nil <| hK2 _ ?_
  refine awp_ret ?_
  obtain rfl := Option.some.inj h
  refine ⟨.inr rfl, i64 (-1), rfl, ?_⟩
  exact Weak.e ⟨.k, trivial⟩
 ·intro K3 hK3
  refine awp_seqK fun K4 hK4 => awp_reg rfl <| AR.op rfl (aop_move (.inl rfl) rfl) <| AR.op rfl (t_len_sl G.api_Take.av s_0 rfl rfl el56) <| AR.op rfl (aop_move (.inl rfl) rfl) <| AR.nil <| hK4 _ (AWP.weak (Weak.kt [0, 1, 7, 8] rfl) ?_)
  refine awp_block <| awp_iter (fun (p : Int) => G.slices_IndexFunc_api_Take_api_Take__edge_over_is_1_b1 s_0 f_1 f_2 f_3 p) (fun (p : Int) => (⟨[(0, .sl (List.map G.api_Take.av s_0)), (1, .clo (.func 98) [.pp [.sl (List.map G.api_Txn.av f_1.Txns)] 0, .pp [i64 f_2] 0, .pp [.sl (List.map G.api_Choice.av f_3)] 0]), (7, i64 (Sh.len s_0)), (8, i64 p)], .empty⟩ : St)) h (Weak.kt [0, 1, 7, 8] rfl) ?_
  ·skip
   rintro v30 o1 h hx1
   replace h : G.slices_IndexFunc_api_Take_api_Take__edge_over_is_1_b1 s_0 f_1 f_2 f_3 v30 = some o1 := h
   unfold G.slices_IndexFunc_api_Take_api_Take__edge_over_is_1_b1 at h
   refine awp_seqK fun K5 hK5 => awp_reg rfl <| AR.op rfl (aop_lss rfl rfl rfl) <| AR.nil <| hK5 _ ?_
   refine awp_seqK fun K6 hK6 => awp_cond rfl (fun hb31 => ?_) (fun hb31 => ?_)
   ·replace h := Sh.if_t h hb31
    refine awp_skip <| hK6 _ (AWP.weak (Weak.kt [0, 1, 7, 8] rfl) ?_)
    refine awp_seqK fun K7 hK7 => awp_block <| awp_seqK fun K8 hK8 => awp_reg rfl <| AR.op rfl (aop_move (.inl rfl) rfl) <| AR.op rfl (aop_move (.inr rfl) rfl) <| AR.nil <| hK8 _ (AWP.weak (Weak.kt [0, 1, 7, 8, 5] rfl) ?_)
    refine awp_seqK fun K9 hK9 => awp_reg rfl <| AR.op rfl (aop_move (.inl rfl) rfl) <| AR.op rfl (aop_move (.inl rfl) rfl) <| AR.op rfl (aop_move (.inl rfl) rfl) <| AR.keep [0, 1, 7, 8, 5, 11, 12, 13] rfl ?_
    obtain ⟨x38, hx38, h⟩ := Sh.bind_some' h
    obtain ⟨k39, hi39, hl39⟩ := Sh.idx_some hx38
    refine AR.op rfl (t_index_sl G.api_Take.av s_0 hi39 hl39 rfl rfl rfl el56 rfl) <| AR.op (r := G.api_Take.av x38) rfl (aop_load_pp rfl rfl sz78 rfl) ?_
    obtain ⟨r40, hr40, h⟩ := Sh.bind_some' h
    refine AR.op (r := bl r40) rfl (aop_callNE (ys := [G.api_Take.av x38, .pp [.sl (List.map G.api_Txn.av f_1.Txns)] 0, .pp [i64 f_2] 0, .pp [.sl (List.map G.api_Choice.av f_3)] 0]) (xs := [G.api_Take.av x38, .pp [.sl (List.map G.api_Txn.av f_1.Txns)] 0, .pp [i64 f_2] 0, .pp [.sl (List.map G.api_Choice.av f_3)] 0]) (.clo (ys := [G.api_Take.av x38]) (caps := [.pp [.sl (List.map G.api_Txn.av f_1.Txns)] 0, .pp [i64 f_2] 0, .pp [.sl (List.map G.api_Choice.av f_3)] 0]) rfl rfl rfl (edge_over_is_1__1_ok hT hr40).call) (Weak.refl _) rfl (by simp) (edge_over_is_1__1_ok hT hr40)) <| AR.nil <| hK9 _ (AWP.weak (Weak.kt [0, 1, 7, 8, 5, 16] rfl) ?_)
    refine awp_cond rfl (fun hb41 => ?_) (fun hb41 => ?_)
    ·replace h := Sh.if_t h hb41
     refine awp_seqK fun K10 hK10 => awp_reg rfl <| AR.op rfl (aop_move (.inl rfl) rfl) <| AR.op rfl (aop_move (.inr rfl) rfl) <| AR.nil <| hK10 _ (AWP.weak (Weak.kt [4] rfl) ?_)
     refine awp_ret ?_
     replace h := Sh.exit_eq h hx1
     obtain rfl := Option.some.inj h
     refine ⟨.inr rfl, i64 v30, rfl, ?_⟩
     exact Weak.e ⟨.k, trivial⟩
    ·replace h := Sh.if_f h hb41
     refine awp_skip <| hK7 _ (AWP.weak (Weak.kt [0, 1, 7, 8] rfl) ?_)
     refine awp_reg rfl <| AR.op rfl (aop_add rfl rfl rfl rfl) <| AR.op rfl (aop_move (.inl rfl) rfl) <| AR.nil ?_
     replace h := Sh.next_eq h
     exact ⟨_, h, Weak.kt [0, 1, 7, 8] rfl⟩
   ·replace h := Sh.if_f h hb31
    refine awp_exit ?_
    replace h := Sh.exit_eq h hx1
    exact hK3 () _ h (Weak.kt [] rfl)
theorem slices_IndexFunc_api_Take_api_Take__edge_over_is_1_ok {W0 : World} (hT : Tab W0) {s_0 : List G.api_Take} {f_1 : G.api_Hist} {f_2 : Int} {f_3 : List G.api_Choice} {r : Int} (h : G.slices_IndexFunc_api_Take_api_Take__edge_over_is_1 s_0 f_1 f_2 f_3 = some r) : Fun1 Try.prog W0 91 [.sl (List.map G.api_Take.av s_0), .clo (.func 98) [.pp [.sl (List.map G.api_Txn.av f_1.Txns)] 0, .pp [i64 f_2] 0, .pp [.sl (List.map G.api_Choice.av f_3)] 0]] (i64 r) := Fun1.two (slices_IndexFunc_api_Take_api_Take__edge_over_is_1_ok0 hT h) (by simp)


theorem slices_ContainsFunc_api_Take_api_Take__edge_over_is_1_ok0 {W0 : World} (hT : Tab W0) {s_0 : List G.api_Take} {f_1 : G.api_Hist} {f_2 : Int} {f_3 : List G.api_Choice} {r : Bool} (h : G.slices_ContainsFunc_api_Take_api_Take__edge_over_is_1 s_0 f_1 f_2 f_3 = some r) : Fun2 Try.prog W0 89 [.sl (List.map G.api_Take.av s_0), .clo (.func 98) [.pp [.sl (List.map G.api_Txn.av f_1.Txns)] 0, .pp [i64 f_2] 0, .pp [.sl (List.map G.api_Choice.av f_3)] 0]] (bl r) .empty := by
 refine fun2_of_awp Try.func89 rfl (by kernel_rfl) Try.ntmps89 (by simp) ?_
 unfold G.slices_ContainsFunc_api_Take_api_Take__edge_over_is_1 at h
 show AWP _ _ _ _ ⟨[(0, .sl (List.map G.api_Take.av s_0)), (1, .clo (.func 98) [.pp [.sl (List.map G.api_Txn.av f_1.Txns)] 0, .pp [i64 f_2] 0, .pp [.sl (List.map G.api_Choice.av f_3)] 0])], .empty⟩ _
 refine awp_seqK fun K1 hK1 => awp_reg rfl <| AR.op rfl (aop_move (.inr rfl) rfl) <| AR.nil <| hK1 _ (AWP.weak (Weak.kt [0, 1] rfl) ?_)
 refine awp_seqK fun K2 hK2 => awp_reg rfl <| AR.op rfl (aop_move (.inl rfl) rfl) <| AR.op rfl (aop_move (.inl rfl) rfl) ?_
 obtain ⟨r3, hr3, h⟩ := Sh.bind_some' h
 refine AR.op (r := i64 r3) rfl (aop_call1 rfl rfl (by simp) (slices_IndexFunc_api_Take_api_Take__edge_over_is_1_ok hT hr3)) <| AR.keep [7] rfl <| AR.op rfl (aop_geq rfl rfl rfl) <| AR.op rfl (aop_move (.inr rfl) rfl) <| AR.nil <| hK2 _ (AWP.weak (Weak.kt [4] rfl) ?_)
 refine awp_ret ?_
 obtain rfl := Option.some.inj h
 refine ⟨.inr rfl, bl (decide ((0 : Int) ≤ r3)), rfl, ?_⟩
 exact Weak.e ⟨.k, trivial⟩
theorem slices_ContainsFunc_api_Take_api_Take__edge_over_is_1_ok {W0 : World} (hT : Tab W0) {s_0 : List G.api_Take} {f_1 : G.api_Hist} {f_2 : Int} {f_3 : List G.api_Choice} {r : Bool} (h : G.slices_ContainsFunc_api_Take_api_Take__edge_over_is_1 s_0 f_1 f_2 f_3 = some r) : Fun1 Try.prog W0 89 [.sl (List.map G.api_Take.av s_0), .clo (.func 98) [.pp [.sl (List.map G.api_Txn.av f_1.Txns)] 0, .pp [i64 f_2] 0, .pp [.sl (List.map G.api_Choice.av f_3)] 0]] (bl r) := Fun1.two (slices_ContainsFunc_api_Take_api_Take__edge_over_is_1_ok0 hT h) (by simp)


theorem edge_over_is_ok0 {W0 : World} (hT : Tab W0) {l_0 : List G.api_Choice} {h_1 : G.api_Hist} {x_2 : Int} {y_3 : Int} {r : Bool} (h : G.edge_over_is l_0 h_1 x_2 y_3 = some r) : Fun2 Try.prog W0 97 [.sl (List.map G.api_Choice.av l_0), G.api_Hist.av h_1, i64 x_2, i64 y_3] (bl r) .empty := by
 refine fun2_of_awp Try.func97 rfl (by kernel_rfl) Try.ntmps97 (by simp) ?_
 unfold G.edge_over_is at h
 show AWP _ _ _ _ ⟨[(0, .sl (List.map G.api_Choice.av l_0)), (1, G.api_Hist.av h_1), (2, i64 x_2), (3, i64 y_3)], .empty⟩ _
 refine awp_seqK fun K1 hK1 => awp_reg rfl <| AR.op (r := .ref 0 0 0) rfl (aop_box 1 [.sl (List.map G.api_Choice.av l_0)] rfl rfl rfl (.inl ⟨rfl, rfl⟩)) <| AR.op (r := .ref 1 0 0) rfl (aop_box 1 [G.api_Hist.av h_1] rfl rfl rfl (.inl ⟨rfl, rfl⟩)) <| AR.op (r := .ref 2 0 0) rfl (aop_box 1 [i64 y_3] rfl rfl rfl (.inl ⟨rfl, rfl⟩)) <| AR.keep [2, 4, 5, 7] rfl <| AR.op rfl (aop_move (.inr rfl) rfl) <| AR.nil ?_
 refine hK1 _ (AWP.weak (Weak.e (fr' := [(2, i64 x_2), (4, .pp [.sl (List.map G.api_Choice.av l_0)] 0), (5, .pp [.sl (List.map G.api_Txn.av h_1.Txns)] 0), (7, .pp [i64 y_3] 0)]) (H' := .empty) ⟨.k, ⟨_, rfl, .frzA rfl rfl rfl rfl (by simp)⟩, ⟨_, rfl, .frzA rfl rfl rfl rfl (by simp)⟩, ⟨_, rfl, .frzA rfl rfl rfl rfl (by simp)⟩, trivial⟩) ?_)
 refine awp_seqK fun K2 hK2 => awp_reg rfl <| AR.op rfl (aop_move (.inl rfl) rfl) <| AR.op (r := i64 y_3) rfl (aop_load_pp rfl rfl sz3 rfl) <| AR.op (r := bl (decide (x_2 ≠ y_3))) rfl (aop_neq rfl rfl rfl) <| AR.keep [2, 4, 5, 7, 11] rfl <| AR.op rfl (aop_move (.inl rfl) rfl) ?_
 rcases Bool.eq_false_or_eq_true (decide (x_2 ≠ y_3)) with hb10 | hb10
 ·rw [hb10]
  replace h := Sh.if_t h hb10
  refine AR.op rfl (aop_field_pp rfl rfl fd24_0 (by decide)) <| AR.op (r := .sl (List.map G.api_Txn.av h_1.Txns)) rfl (aop_load_pp rfl rfl sz22 rfl) <| AR.keep [2, 4, 5, 7, 12, 14] rfl <| AR.op rfl (aop_move (.inl rfl) rfl) ?_
  obtain ⟨x11, hx11, h⟩ := Sh.bind_some' h
  obtain ⟨k12, hi12, hl12⟩ := Sh.idx_some hx11
  refine AR.op rfl (t_index_sl G.api_Txn.av h_1.Txns hi12 hl12 rfl rfl rfl el22 rfl) <| AR.op rfl (aop_field_pp rfl rfl fd58_2 (by decide)) <| AR.keep [4, 5, 7, 12, 17] rfl <| AR.op (r := .sl (List.map G.api_Take.av x11.Reads)) rfl (aop_load_pp rfl rfl sz56 rfl) <| AR.op (r := .clo (.func 98) [.pp [.sl (List.map G.api_Txn.av h_1.Txns)] 0, .pp [i64 y_3] 0, .pp [.sl (List.map G.api_Choice.av l_0)] 0]) rfl (aop_makeFunc rfl rfl) ?_
  obtain ⟨r13, hr13, h⟩ := Sh.bind_some' h
  refine AR.op (r := bl r13) rfl (aop_call1 rfl rfl (by simp) (slices_ContainsFunc_api_Take_api_Take__edge_over_is_1_ok hT hr13)) <| AR.keep [12, 20] rfl <| AR.op rfl (aop_pick rfl rfl rfl) <| AR.op rfl (aop_move (.inr rfl) rfl) <| AR.nil <| hK2 _ (AWP.weak (Weak.kt [8] rfl) ?_)
  refine awp_ret ?_
  obtain rfl := Option.some.inj h
  refine ⟨.inr rfl, bl r13, rfl, ?_⟩
  exact Weak.e ⟨.k, trivial⟩
 ·rw [hb10]
  replace h := Sh.if_f h hb10
  refine AR.skip rfl <| AR.skip rfl <| AR.keep [2, 4, 5, 7, 12, 14] rfl <| AR.skip rfl <| AR.skip rfl <| AR.skip rfl <| AR.keep [4, 5, 7, 12, 17] rfl <| AR.skip rfl ?_
  refine AR.skip rfl <| AR.skip rfl <| AR.keep [12, 20] rfl <| AR.op rfl (aop_pick rfl rfl rfl) <| AR.op rfl (aop_move (.inr rfl) rfl) <| AR.nil <| hK2 _ (AWP.weak (Weak.kt [8] rfl) ?_)
  refine awp_ret ?_
  obtain rfl := Option.some.inj h
  refine ⟨.inr rfl, bl false, rfl, ?_⟩
  exact Weak.e ⟨.k, trivial⟩
theorem edge_over_is_ok {W0 : World} (hT : Tab W0) {l_0 : List G.api_Choice} {h_1 : G.api_Hist} {x_2 : Int} {y_3 : Int} {r : Bool} (h : G.edge_over_is l_0 h_1 x_2 y_3 = some r) : Fun1 Try.prog W0 97 [.sl (List.map G.api_Choice.av l_0), G.api_Hist.av h_1, i64 x_2, i64 y_3] (bl r) := Fun1.two (edge_over_is_ok0 hT h) (by simp)


theorem edge_some_1__edge_over_ok0 {W0 : World} (hT : Tab W0) {k_0 : List G.api_Choice} {a_1 : G.api_Hist} {a_2 : Int} {a_3 : Int} {r : Bool} (h : G.edge_some_1__edge_over k_0 a_1 a_2 a_3 = some r) : Fun2 Try.prog W0 68 [.ifc 114 (.sl (List.map G.api_Choice.av k_0)), .pp [.sl (List.map G.api_Txn.av a_1.Txns)] 0, .pp [i64 a_2] 0, .pp [i64 a_3] 0] (bl r) .empty := by
 refine fun2_of_awp Try.func68 rfl (by kernel_rfl) Try.ntmps68 (by simp) ?_
 unfold G.edge_some_1__edge_over at h
 show AWP _ _ _ _ ⟨[(0, .ifc 114 (.sl (List.map G.api_Choice.av k_0))), (1, .pp [.sl (List.map G.api_Txn.av a_1.Txns)] 0), (2, .pp [i64 a_2] 0), (3, .pp [i64 a_3] 0)], .empty⟩ _
 refine awp_seqK fun K1 hK1 => awp_reg rfl <| AR.op rfl (aop_move (.inr rfl) rfl) <| AR.nil <| hK1 _ (AWP.weak (Weak.kt [0, 1, 2, 3] rfl) ?_)
 refine awp_seqK fun K2 hK2 => awp_reg rfl <| AR.op rfl (aop_move (.inl rfl) rfl) <| AR.op (r := G.api_Hist.av a_1) rfl (aop_load_pp rfl rfl sz24 rfl) <| AR.op (r := i64 a_2) rfl (aop_load_pp rfl rfl sz3 rfl) <| AR.keep [3, 6, 7, 8] rfl <| AR.op (r := i64 a_3) rfl (aop_load_pp rfl rfl sz3 rfl) ?_
 obtain ⟨r3, hr3, h⟩ := Sh.bind_some' h
 refine AR.op (r := bl r3) rfl (aop_callNE (ys := [.sl (List.map G.api_Choice.av k_0), G.api_Hist.av a_1, i64 a_2, i64 a_3]) (xs := [.sl (List.map G.api_Choice.av k_0), G.api_Hist.av a_1, i64 a_2, i64 a_3]) (.iface rfl rfl rfl mt114_97 (edge_over_is_ok hT hr3).call) (Weak.refl _) rfl (by simp) (edge_over_is_ok hT hr3)) <| AR.op rfl (aop_move (.inr rfl) rfl) <| AR.nil <| hK2 _ (AWP.weak (Weak.kt [5] rfl) ?_)
 refine awp_ret ?_
 obtain rfl := Option.some.inj h
 refine ⟨.inr rfl, bl r3, rfl, ?_⟩
 exact Weak.e ⟨.k, trivial⟩
theorem edge_some_1__edge_over_ok {W0 : World} (hT : Tab W0) {k_0 : List G.api_Choice} {a_1 : G.api_Hist} {a_2 : Int} {a_3 : Int} {r : Bool} (h : G.edge_some_1__edge_over k_0 a_1 a_2 a_3 = some r) : Fun1 Try.prog W0 68 [.ifc 114 (.sl (List.map G.api_Choice.av k_0)), .pp [.sl (List.map G.api_Txn.av a_1.Txns)] 0, .pp [i64 a_2] 0, .pp [i64 a_3] 0] (bl r) := Fun1.two (edge_some_1__edge_over_ok0 hT h) (by simp)


theorem slices_IndexFunc_edge_kind_edge_kind__lit1_edge_some_1_ok0 {W0 : World} (hT : Tab W0) {s_0 : List G.api_Choice} {f_1 : G.api_Hist} {f_2 : Int} {f_3 : Int} {r : Int} (h : G.slices_IndexFunc_edge_kind_edge_kind__lit1_edge_some_1 s_0 f_1 f_2 f_3 = some r) : Fun2 Try.prog W0 70 [.clip [.ifc 114 (.sl (List.map G.api_Choice.av s_0))], .clo (.func 68) [.pp [.sl (List.map G.api_Txn.av f_1.Txns)] 0, .pp [i64 f_2] 0, .pp [i64 f_3] 0]] (i64 r) .empty := by
 refine fun2_of_awp Try.func70 rfl (by kernel_rfl) Try.ntmps70 (by simp) ?_
 unfold G.slices_IndexFunc_edge_kind_edge_kind__lit1_edge_some_1 at h
 show AWP _ _ _ _ ⟨[(0, .clip [.ifc 114 (.sl (List.map G.api_Choice.av s_0))]), (1, .clo (.func 68) [.pp [.sl (List.map G.api_Txn.av f_1.Txns)] 0, .pp [i64 f_2] 0, .pp [i64 f_3] 0])], .empty⟩ _
 refine awp_seqK fun K1 hK1 => awp_reg rfl <| AR.op rfl (aop_move (.inr rfl) rfl) <| AR.nil <| hK1 _ (AWP.weak (Weak.kt [0, 1] rfl) ?_)
 refine awp_seqJ (fun (p : Unit) => (⟨[], .empty⟩ : St)) (fun (p : Unit) => G.slices_IndexFunc_edge_kind_edge_kind__lit1_edge_some_1_j1 = some r) ?_ ?_
 ·rintro ⟨⟩ h
  replace h : G.slices_IndexFunc_edge_kind_edge_kind__lit1_edge_some_1_j1 = some r := h
  unfold G.slices_IndexFunc_edge_kind_edge_kind__lit1_edge_some_1_j1 at h
  refine awp_seqK fun K2 hK2 => awp_reg rfl <| AR.op rfl (aop_move (.inr rfl) rfl) <| AR.nil <| hK2 _ ?_
  refine awp_ret ?_
  obtain rfl := Option.some.inj h
  refine ⟨.inr rfl, i64 (-1), rfl, ?_⟩
  exact Weak.e ⟨.k, trivial⟩
 ·intro K3 hK3
  refine awp_seqK fun K4 hK4 => awp_reg rfl <| AR.op rfl (aop_move (.inl rfl) rfl) <| AR.op (r := i64 1) rfl ((aop_len rfl rfl rfl el108).conv rfl) <| AR.op rfl (aop_move (.inl rfl) rfl) <| AR.nil <| hK4 _ (AWP.weak (Weak.kt [0, 1, 7, 8] rfl) ?_)
  refine awp_block <| awp_unr 2 ?_
  refine AWP.weak (Weak.kt [0, 1, 7, 8] rfl) ?_
  refine awp_seqK fun K5 hK5 => awp_reg rfl <| AR.op (r := bl true) rfl ((aop_lss rfl rfl rfl).tt (by decide)) <| AR.nil <| hK5 _ ?_
  refine awp_seqK fun K6 hK6 => awp_cond_t rfl ?_
  refine awp_skip <| hK6 _ (AWP.weak (Weak.kt [0, 1, 7, 8] rfl) ?_)
  refine awp_seqK fun K7 hK7 => awp_block <| awp_seqK fun K8 hK8 => awp_reg rfl <| AR.op rfl (aop_move (.inl rfl) rfl) <| AR.op rfl (aop_move (.inr rfl) rfl) <| AR.nil <| hK8 _ (AWP.weak (Weak.kt [0, 1, 7, 8, 5] rfl) ?_)
  refine awp_seqK fun K9 hK9 => awp_reg rfl <| AR.op rfl (aop_move (.inl rfl) rfl) <| AR.op rfl (aop_move (.inl rfl) rfl) <| AR.op rfl (aop_move (.inl rfl) rfl) <| AR.keep [0, 1, 7, 8, 5, 11, 12, 13] rfl <| AR.op rfl (aop_index_sl rfl rfl (.inr rfl) rfl el108 rfl rfl rfl) <| AR.op (r := .ifc 114 (.sl (List.map G.api_Choice.av s_0))) rfl (aop_load_pp rfl rfl sz111 rfl) ?_
  obtain ⟨r6, hr6, h⟩ := Sh.bind_some' h
  refine AR.op (r := bl r6) rfl (aop_callNE (ys := [.ifc 114 (.sl (List.map G.api_Choice.av s_0)), .pp [.sl (List.map G.api_Txn.av f_1.Txns)] 0, .pp [i64 f_2] 0, .pp [i64 f_3] 0]) (xs := [.ifc 114 (.sl (List.map G.api_Choice.av s_0)), .pp [.sl (List.map G.api_Txn.av f_1.Txns)] 0, .pp [i64 f_2] 0, .pp [i64 f_3] 0]) (.clo (ys := [.ifc 114 (.sl (List.map G.api_Choice.av s_0))]) (caps := [.pp [.sl (List.map G.api_Txn.av f_1.Txns)] 0, .pp [i64 f_2] 0, .pp [i64 f_3] 0]) rfl rfl rfl (edge_some_1__edge_over_ok hT hr6).call) (Weak.refl _) rfl (by simp) (edge_some_1__edge_over_ok hT hr6)) <| AR.nil <| hK9 _ (AWP.weak (Weak.kt [0, 1, 7, 8, 5, 16] rfl) ?_)
  refine awp_cond rfl (fun hb7 => ?_) (fun hb7 => ?_)
  ·replace h := Sh.if_t h hb7
   refine awp_seqK fun K10 hK10 => awp_reg rfl <| AR.op rfl (aop_move (.inl rfl) rfl) <| AR.op rfl (aop_move (.inr rfl) rfl) <| AR.nil <| hK10 _ (AWP.weak (Weak.kt [4] rfl) ?_)
   refine awp_ret ?_
   obtain rfl := Option.some.inj h
   refine ⟨.inr rfl, i64 0, rfl, ?_⟩
   exact Weak.e ⟨.k, trivial⟩
  ·replace h := Sh.if_f h hb7
   refine awp_skip <| hK7 _ (AWP.weak (Weak.kt [0, 1, 7, 8] rfl) ?_)
   refine awp_reg rfl <| AR.op (r := i64 1) rfl ((aop_add rfl rfl rfl rfl).conv (congrArg i64 (by decide))) <| AR.op rfl (aop_move (.inl rfl) rfl) <| AR.nil <| awp_unrS ?_
   refine AWP.weak (Weak.kt [0, 1, 7, 8] rfl) ?_
   refine awp_seqK fun K11 hK11 => awp_reg rfl <| AR.op (r := bl false) rfl ((aop_lss rfl rfl rfl).ff (by decide)) <| AR.nil <| hK11 _ ?_
   refine awp_seqK fun K12 hK12 => awp_cond_f rfl ?_
   refine awp_exit ?_
   exact hK3 () _ h (Weak.kt [] rfl)
theorem slices_IndexFunc_edge_kind_edge_kind__lit1_edge_some_1_ok {W0 : World} (hT : Tab W0) {s_0 : List G.api_Choice} {f_1 : G.api_Hist} {f_2 : Int} {f_3 : Int} {r : Int} (h : G.slices_IndexFunc_edge_kind_edge_kind__lit1_edge_some_1 s_0 f_1 f_2 f_3 = some r) : Fun1 Try.prog W0 70 [.clip [.ifc 114 (.sl (List.map G.api_Choice.av s_0))], .clo (.func 68) [.pp [.sl (List.map G.api_Txn.av f_1.Txns)] 0, .pp [i64 f_2] 0, .pp [i64 f_3] 0]] (i64 r) := Fun1.two (slices_IndexFunc_edge_kind_edge_kind__lit1_edge_some_1_ok0 hT h) (by simp)


theorem slices_ContainsFunc_edge_kind_edge_kind__lit1_edge_some_1_ok0 {W0 : World} (hT : Tab W0) {s_0 : List G.api_Choice} {f_1 : G.api_Hist} {f_2 : Int} {f_3 : Int} {r : Bool} (h : G.slices_ContainsFunc_edge_kind_edge_kind__lit1_edge_some_1 s_0 f_1 f_2 f_3 = some r) : Fun2 Try.prog W0 67 [.clip [.ifc 114 (.sl (List.map G.api_Choice.av s_0))], .clo (.func 68) [.pp [.sl (List.map G.api_Txn.av f_1.Txns)] 0, .pp [i64 f_2] 0, .pp [i64 f_3] 0]] (bl r) .empty := by
 refine fun2_of_awp Try.func67 rfl (by kernel_rfl) Try.ntmps67 (by simp) ?_
 unfold G.slices_ContainsFunc_edge_kind_edge_kind__lit1_edge_some_1 at h
 show AWP _ _ _ _ ⟨[(0, .clip [.ifc 114 (.sl (List.map G.api_Choice.av s_0))]), (1, .clo (.func 68) [.pp [.sl (List.map G.api_Txn.av f_1.Txns)] 0, .pp [i64 f_2] 0, .pp [i64 f_3] 0])], .empty⟩ _
 refine awp_seqK fun K1 hK1 => awp_reg rfl <| AR.op rfl (aop_move (.inr rfl) rfl) <| AR.nil <| hK1 _ (AWP.weak (Weak.kt [0, 1] rfl) ?_)
 refine awp_seqK fun K2 hK2 => awp_reg rfl <| AR.op rfl (aop_move (.inl rfl) rfl) <| AR.op rfl (aop_move (.inl rfl) rfl) ?_
 obtain ⟨r3, hr3, h⟩ := Sh.bind_some' h
 refine AR.op (r := i64 r3) rfl (aop_call1 rfl rfl (by simp) (slices_IndexFunc_edge_kind_edge_kind__lit1_edge_some_1_ok hT hr3)) <| AR.keep [7] rfl <| AR.op rfl (aop_geq rfl rfl rfl) <| AR.op rfl (aop_move (.inr rfl) rfl) <| AR.nil <| hK2 _ (AWP.weak (Weak.kt [4] rfl) ?_)
 refine awp_ret ?_
 obtain rfl := Option.some.inj h
 refine ⟨.inr rfl, bl (decide ((0 : Int) ≤ r3)), rfl, ?_⟩
 exact Weak.e ⟨.k, trivial⟩
theorem slices_ContainsFunc_edge_kind_edge_kind__lit1_edge_some_1_ok {W0 : World} (hT : Tab W0) {s_0 : List G.api_Choice} {f_1 : G.api_Hist} {f_2 : Int} {f_3 : Int} {r : Bool} (h : G.slices_ContainsFunc_edge_kind_edge_kind__lit1_edge_some_1 s_0 f_1 f_2 f_3 = some r) : Fun1 Try.prog W0 67 [.clip [.ifc 114 (.sl (List.map G.api_Choice.av s_0))], .clo (.func 68) [.pp [.sl (List.map G.api_Txn.av f_1.Txns)] 0, .pp [i64 f_2] 0, .pp [i64 f_3] 0]] (bl r) := Fun1.two (slices_ContainsFunc_edge_kind_edge_kind__lit1_edge_some_1_ok0 hT h) (by simp)


theorem edge_some__lit1_ok0 {W0 : World} (hT : Tab W0) {h_0 : G.api_Hist} {x_1 : Int} {y_2 : Int} {kinds_3 : List G.api_Choice} {r : Bool} (h : G.edge_some__lit1 h_0 x_1 y_2 kinds_3 = some r) : Fun2 Try.prog W0 64 [G.api_Hist.av h_0, i64 x_1, i64 y_2, .clip [.ifc 114 (.sl (List.map G.api_Choice.av kinds_3))]] (bl r) .empty := by
 refine fun2_of_awp Try.func64 rfl (by kernel_rfl) Try.ntmps64 (by simp) ?_
 unfold G.edge_some__lit1 at h
 show AWP _ _ _ _ ⟨[(0, G.api_Hist.av h_0), (1, i64 x_1), (2, i64 y_2), (3, .clip [.ifc 114 (.sl (List.map G.api_Choice.av kinds_3))])], .empty⟩ _
 refine awp_seqK fun K1 hK1 => awp_reg rfl <| AR.op (r := .ref 0 0 0) rfl (aop_box 1 [G.api_Hist.av h_0] rfl rfl rfl (.inl ⟨rfl, rfl⟩)) <| AR.op (r := .ref 1 0 0) rfl (aop_box 1 [i64 x_1] rfl rfl rfl (.inl ⟨rfl, rfl⟩)) <| AR.op (r := .ref 2 0 0) rfl (aop_box 1 [i64 y_2] rfl rfl rfl (.inl ⟨rfl, rfl⟩)) <| AR.keep [3, 4, 5, 6] rfl <| AR.op rfl (aop_move (.inr rfl) rfl) <| AR.nil ?_
 refine hK1 _ (AWP.weak (Weak.e (fr' := [(3, .clip [.ifc 114 (.sl (List.map G.api_Choice.av kinds_3))]), (4, .pp [.sl (List.map G.api_Txn.av h_0.Txns)] 0), (5, .pp [i64 x_1] 0), (6, .pp [i64 y_2] 0)]) (H' := .empty) ⟨⟨.clip [.ifc 114 (.sl (List.map G.api_Choice.av kinds_3))], rfl, .sm⟩, ⟨_, rfl, .frzA rfl rfl rfl rfl (by simp)⟩, ⟨_, rfl, .frzA rfl rfl rfl rfl (by simp)⟩, ⟨_, rfl, .frzA rfl rfl rfl rfl (by simp)⟩, trivial⟩) ?_)
 refine awp_seqK fun K2 hK2 => awp_seqJ (fun (p : Bool) => (⟨[(3, .clip [.ifc 114 (.sl (List.map G.api_Choice.av kinds_3))]), (4, .pp [.sl (List.map G.api_Txn.av h_0.Txns)] 0), (5, .pp [i64 x_1] 0), (6, .pp [i64 y_2] 0), (26, bl p)], .empty⟩ : St)) (fun (p : Bool) => G.edge_some__lit1_j1 h_0 x_1 y_2 kinds_3 p = some r) ?_ ?_
 ·rintro v13 h
  replace h : G.edge_some__lit1_j1 h_0 x_1 y_2 kinds_3 v13 = some r := h
  unfold G.edge_some__lit1_j1 at h
  refine awp_cond rfl (fun hb14 => ?_) (fun hb14 => ?_)
  ·replace h := Sh.if_t h hb14
   refine awp_seqK fun K3 hK3 => awp_reg rfl <| AR.op rfl (aop_move (.inr rfl) rfl) <| AR.nil <| hK3 _ (AWP.weak (Weak.kt [8] rfl) ?_)
   refine awp_ret ?_
   obtain rfl := Option.some.inj h
   refine ⟨.inr rfl, bl false, rfl, ?_⟩
   exact Weak.e ⟨.k, trivial⟩
  ·replace h := Sh.if_f h hb14
   refine awp_skip <| hK2 _ (AWP.weak (Weak.kt [3, 4, 5, 6] rfl) ?_)
   refine awp_seqK fun K4 hK4 => awp_reg rfl <| AR.op rfl (aop_move (.inl rfl) rfl) <| AR.op (r := .clo (.func 68) [.pp [.sl (List.map G.api_Txn.av h_0.Txns)] 0, .pp [i64 x_1] 0, .pp [i64 y_2] 0]) rfl (aop_makeFunc rfl rfl) ?_
   obtain ⟨r16, hr16, h⟩ := Sh.bind_some' h
   refine AR.op (r := bl r16) rfl (aop_call1 rfl rfl (by simp) (slices_ContainsFunc_edge_kind_edge_kind__lit1_edge_some_1_ok hT hr16)) <| AR.keep [29] rfl <| AR.op rfl (aop_move (.inr rfl) rfl) <| AR.nil <| hK4 _ (AWP.weak (Weak.kt [8] rfl) ?_)
   refine awp_ret ?_
   obtain rfl := Option.some.inj h
   refine ⟨.inr rfl, bl r16, rfl, ?_⟩
   exact Weak.e ⟨.k, trivial⟩
 ·intro K5 hK5
  refine awp_reg rfl <| AR.op (r := G.api_Hist.av h_0) rfl (aop_load_pp rfl rfl sz24 rfl) ?_
  obtain ⟨r17, hr17, h⟩ := Sh.bind_some' h
  refine AR.op (r := bl r17) rfl (aop_call1 rfl rfl (by simp) (hist_Right_ok hT hr17)) <| AR.op (r := bl (!r17)) rfl (aop_not rfl rfl) <| AR.keep [3, 4, 5, 6, 11] rfl <| AR.op rfl (aop_move (.inl rfl) rfl) ?_
  rcases Bool.eq_false_or_eq_true (!r17) with hb18 | hb18
  ·rw [hb18]
   replace h := Sh.if_t h hb18
   refine AR.skip rfl <| AR.skip rfl <| AR.keep [3, 4, 5, 6, 12, 13, 14] rfl <| AR.skip rfl <| AR.skip rfl <| AR.op rfl (aop_pick rfl rfl rfl) <| AR.keep [3, 4, 5, 6, 17] rfl <| AR.op rfl (aop_move (.inl rfl) rfl) ?_
   refine AR.skip rfl <| AR.skip rfl <| AR.keep [3, 4, 5, 6, 18, 19, 20] rfl <| AR.skip rfl <| AR.skip rfl <| AR.skip rfl <| AR.keep [3, 4, 5, 6, 18, 21, 23] rfl <| AR.skip rfl ?_
   refine AR.skip rfl <| AR.op rfl (aop_pick rfl rfl rfl) <| AR.nil ?_
   exact hK5 true _ h (Weak.kt [3, 4, 5, 6, 26] rfl)
  ·rw [hb18]
   replace h := Sh.if_f h hb18
   refine AR.op (r := i64 x_1) rfl (aop_load_pp rfl rfl sz3 rfl) <| AR.op (r := i64 y_2) rfl (aop_load_pp rfl rfl sz3 rfl) <| AR.keep [3, 4, 5, 6, 12, 13, 14] rfl <| AR.op (r := i64 (Sh.min x_1 y_2)) rfl (aop_min2 rfl rfl rfl) <| AR.op rfl (aop_lss rfl rfl rfl) <| AR.op rfl (aop_pick rfl rfl rfl) <| AR.keep [3, 4, 5, 6, 17] rfl <| AR.op rfl (aop_move (.inl rfl) rfl) ?_
   rcases Bool.eq_false_or_eq_true (decide ((Sh.min x_1 y_2) < 0)) with hb19 | hb19
   ·rw [hb19]
    replace h := Sh.if_t h hb19
    refine AR.skip rfl <| AR.skip rfl <| AR.keep [3, 4, 5, 6, 18, 19, 20] rfl <| AR.skip rfl <| AR.skip rfl <| AR.skip rfl <| AR.keep [3, 4, 5, 6, 18, 21, 23] rfl <| AR.skip rfl ?_
    refine AR.skip rfl <| AR.op rfl (aop_pick rfl rfl rfl) <| AR.nil ?_
    exact hK5 true _ h (Weak.kt [3, 4, 5, 6, 26] rfl)
   ·rw [hb19]
    replace h := Sh.if_f h hb19
    refine AR.op (r := i64 x_1) rfl (aop_load_pp rfl rfl sz3 rfl) <| AR.op (r := i64 y_2) rfl (aop_load_pp rfl rfl sz3 rfl) <| AR.keep [3, 4, 5, 6, 18, 19, 20] rfl <| AR.op (r := i64 (Sh.max x_1 y_2)) rfl (aop_max2 rfl rfl rfl) <| AR.op rfl (aop_field_pp rfl rfl fd24_0 (by decide)) <| AR.op (r := .sl (List.map G.api_Txn.av h_0.Txns)) rfl (aop_load_pp rfl rfl sz22 rfl) <| AR.keep [3, 4, 5, 6, 18, 21, 23] rfl <| AR.op rfl (t_len_sl G.api_Txn.av h_0.Txns rfl rfl el22) ?_
    refine AR.op rfl (aop_geq rfl rfl rfl) <| AR.op rfl (aop_pick rfl rfl rfl) <| AR.nil ?_
    exact hK5 (decide ((Sh.len h_0.Txns) ≤ (Sh.max x_1 y_2))) _ h (Weak.kt [3, 4, 5, 6, 26] rfl)
theorem edge_some__lit1_ok {W0 : World} (hT : Tab W0) {h_0 : G.api_Hist} {x_1 : Int} {y_2 : Int} {kinds_3 : List G.api_Choice} {r : Bool} (h : G.edge_some__lit1 h_0 x_1 y_2 kinds_3 = some r) : Fun1 Try.prog W0 64 [G.api_Hist.av h_0, i64 x_1, i64 y_2, .clip [.ifc 114 (.sl (List.map G.api_Choice.av kinds_3))]] (bl r) := Fun1.two (edge_some__lit1_ok0 hT h) (by simp)


theorem edge_Anti_ok0 {W0 : World} (hT : Tab W0) {h_0 : G.api_Hist} {l_1 : List G.api_Choice} {x_2 : Int} {y_3 : Int} {r : Bool} (h : G.edge_Anti h_0 l_1 x_2 y_3 = some r) : Fun2 Try.prog W0 69 [G.api_Hist.av h_0, .sl (List.map G.api_Choice.av l_1), i64 x_2, i64 y_3] (bl r) .empty := by
 refine fun2_of_awp Try.func69 rfl (by kernel_rfl) Try.ntmps69 (by simp) ?_
 unfold G.edge_Anti at h
 show AWP _ _ _ _ ⟨[(0, G.api_Hist.av h_0), (1, .sl (List.map G.api_Choice.av l_1)), (2, i64 x_2), (3, i64 y_3)], .empty⟩ _
 refine awp_seqK fun K1 hK1 => awp_reg rfl <| AR.op (r := .ref 0 0 0) rfl (aop_box 1 [G.api_Hist.av h_0] rfl rfl rfl (.inl ⟨rfl, rfl⟩)) <| AR.op rfl (aop_move (.inr rfl) rfl) <| AR.nil <| hK1 _ (AWP.weak (Weak.e (fr' := [(1, .sl (List.map G.api_Choice.av l_1)), (2, i64 x_2), (3, i64 y_3), (4, .pp [.sl (List.map G.api_Txn.av h_0.Txns)] 0)]) (H' := .empty) ⟨⟨.sl (List.map G.api_Choice.av l_1), rfl, .sm⟩, .k, .k, ⟨_, rfl, .frzA rfl rfl rfl rfl (by simp)⟩, trivial⟩) ?_)
 refine awp_seqK fun K2 hK2 => awp_reg rfl <| AR.op (r := G.api_Hist.av h_0) rfl (aop_load_pp rfl rfl sz24 rfl) <| AR.op rfl (aop_move (.inl rfl) rfl) <| AR.op rfl (aop_move (.inl rfl) rfl) <| AR.keep [1, 9, 10, 11] rfl <| AR.op rfl (aop_move (.inl rfl) rfl) <| AR.op (r := .ifc 114 (.sl (List.map G.api_Choice.av l_1))) rfl (aop_makeInterface rfl rfl Try.underlying114 (fun _ h => by cases h)) ?_
 refine AR.op (r := .clip [.ifc 114 (.sl (List.map G.api_Choice.av l_1))]) rfl (aop_buildSlice rfl (xo := [.tmp 13]) rfl rfl rfl (by simp [AV.solid]) (by simp [AV.flat]) el108 ze108 (by decide)) <| AR.keep [9, 10, 11, 14] rfl ?_
 obtain ⟨r3, hr3, h⟩ := Sh.bind_some' h
 refine AR.op (r := bl r3) rfl (aop_call1 rfl rfl (by simp) (edge_some__lit1_ok hT hr3)) <| AR.op rfl (aop_move (.inr rfl) rfl) <| AR.nil <| hK2 _ (AWP.weak (Weak.kt [8] rfl) ?_)
 refine awp_ret ?_
 obtain rfl := Option.some.inj h
 refine ⟨.inr rfl, bl r3, rfl, ?_⟩
 exact Weak.e ⟨.k, trivial⟩
theorem edge_Anti_ok {W0 : World} (hT : Tab W0) {h_0 : G.api_Hist} {l_1 : List G.api_Choice} {x_2 : Int} {y_3 : Int} {r : Bool} (h : G.edge_Anti h_0 l_1 x_2 y_3 = some r) : Fun1 Try.prog W0 69 [G.api_Hist.av h_0, .sl (List.map G.api_Choice.av l_1), i64 x_2, i64 y_3] (bl r) := Fun1.two (edge_Anti_ok0 hT h) (by simp)


theorem edge_Is_ok0 {W0 : World} (hT : Tab W0) {h_0 : G.api_Hist} {level_1 : Int} {l_2 : List G.api_Choice} {x_3 : Int} {y_4 : Int} {r : Bool} (h : G.edge_Is h_0 level_1 l_2 x_3 y_4 = some r) : Fun2 Try.prog W0 66 [G.api_Hist.av h_0, i64 level_1, .sl (List.map G.api_Choice.av l_2), i64 x_3, i64 y_4] (bl r) .empty := by
 refine fun2_of_awp Try.func66 rfl (by kernel_rfl) Try.ntmps66 (by simp) ?_
 unfold G.edge_Is at h
 show AWP _ _ _ _ ⟨[(0, G.api_Hist.av h_0), (1, i64 level_1), (2, .sl (List.map G.api_Choice.av l_2)), (3, i64 x_3), (4, i64 y_4)], .empty⟩ _
 refine awp_seqK fun K1 hK1 => awp_reg rfl <| AR.op (r := .ref 0 0 0) rfl (aop_box 1 [G.api_Hist.av h_0] rfl rfl rfl (.inl ⟨rfl, rfl⟩)) <| AR.op rfl (aop_move (.inr rfl) rfl) <| AR.nil <| hK1 _ (AWP.weak (Weak.e (fr' := [(1, i64 level_1), (2, .sl (List.map G.api_Choice.av l_2)), (3, i64 x_3), (4, i64 y_4), (5, .pp [.sl (List.map G.api_Txn.av h_0.Txns)] 0)]) (H' := .empty) ⟨.k, ⟨.sl (List.map G.api_Choice.av l_2), rfl, .sm⟩, .k, .k, ⟨_, rfl, .frzA rfl rfl rfl rfl (by simp)⟩, trivial⟩) ?_)
 refine awp_seqJ (fun (p : Unit) => (⟨[], .empty⟩ : St)) (fun (p : Unit) => G.edge_Is_j1 = some r) ?_ ?_
 ·rintro ⟨⟩ h
  replace h : G.edge_Is_j1 = some r := h
  unfold G.edge_Is_j1 at h
  refine awp_seqK fun K2 hK2 => awp_reg rfl <| AR.op rfl (aop_move (.inr rfl) rfl) <| AR.nil <| hK2 _ ?_
  refine awp_ret ?_
  obtain rfl := Option.some.inj h
  refine ⟨.inr rfl, bl false, rfl, ?_⟩
  exact Weak.e ⟨.k, trivial⟩
 ·intro K3 hK3
  refine awp_seqK fun K4 hK4 => awp_reg rfl <| AR.op rfl (aop_move (.inl rfl) rfl) <| AR.nil <| hK4 _ (AWP.weak (Weak.kt [2, 3, 4, 5, 12] rfl) ?_)
  refine awp_block <| awp_seqK fun K5 hK5 => awp_reg rfl <| AR.op (r := bl (decide (level_1 = 0))) rfl (aop_eql rfl rfl rfl) <| AR.op rfl (aop_move (.inr rfl) rfl) <| AR.nil <| hK5 _ (AWP.weak (Weak.kt [2, 3, 4, 5, 12, 13] rfl) ?_)
  refine awp_cond rfl (fun hb43 => ?_) (fun hb43 => ?_)
  ·replace h := Sh.if_t h hb43
   refine awp_seqK fun K6 hK6 => awp_reg rfl <| AR.op (r := G.api_Hist.av h_0) rfl (aop_load_pp rfl rfl sz24 rfl) <| AR.op rfl (aop_move (.inl rfl) rfl) <| AR.op rfl (aop_move (.inl rfl) rfl) <| AR.keep [2, 3, 4, 5, 15, 16, 17] rfl <| AR.op rfl (aop_move (.inl rfl) rfl) ?_
   obtain ⟨r47, hr47, h⟩ := Sh.bind_some' h
   refine AR.op (r := bl r47) rfl (aop_call1 rfl rfl (by simp) (edge_Direct_ok hT hr47)) <| AR.op rfl (aop_move (.inl rfl) rfl) <| AR.keep [2, 3, 4, 5, 20] rfl ?_
   rcases Bool.eq_false_or_eq_true (r47) with hb48 | hb48
   ·rw [hb48]
    replace h := Sh.if_t h hb48
    refine AR.skip rfl <| AR.skip rfl <| AR.skip rfl <| AR.keep [4, 20, 21, 22, 23] rfl <| AR.skip rfl <| AR.skip rfl <| AR.op rfl (aop_pick rfl rfl rfl) <| AR.keep [26] rfl ?_
    refine AR.op rfl (aop_move (.inr rfl) rfl) <| AR.nil <| hK6 _ (AWP.weak (Weak.kt [10] rfl) ?_)
    refine awp_ret ?_
    obtain rfl := Option.some.inj h
    refine ⟨.inr rfl, bl true, rfl, ?_⟩
    exact Weak.e ⟨.k, trivial⟩
   ·rw [hb48]
    replace h := Sh.if_f h hb48
    refine AR.op (r := G.api_Hist.av h_0) rfl (aop_load_pp rfl rfl sz24 rfl) <| AR.op rfl (aop_move (.inl rfl) rfl) <| AR.op rfl (aop_move (.inl rfl) rfl) <| AR.keep [4, 20, 21, 22, 23] rfl <| AR.op rfl (aop_move (.inl rfl) rfl) ?_
    obtain ⟨r49, hr49, h⟩ := Sh.bind_some' h
    refine AR.op (r := bl r49) rfl (aop_call1 rfl rfl (by simp) (edge_Anti_ok hT hr49)) <| AR.op rfl (aop_pick rfl rfl rfl) <| AR.keep [26] rfl <| AR.op rfl (aop_move (.inr rfl) rfl) <| AR.nil <| hK6 _ (AWP.weak (Weak.kt [10] rfl) ?_)
    refine awp_ret ?_
    obtain rfl := Option.some.inj h
    refine ⟨.inr rfl, bl r49, rfl, ?_⟩
    exact Weak.e ⟨.k, trivial⟩
  ·replace h := Sh.if_f h hb43
   refine awp_seqK fun K7 hK7 => awp_reg rfl <| AR.op (r := bl (decide (level_1 = 1))) rfl (aop_eql rfl rfl rfl) <| AR.op rfl (aop_move (.inr rfl) rfl) <| AR.nil <| hK7 _ (AWP.weak (Weak.kt [2, 3, 4, 5, 27] rfl) ?_)
   refine awp_cond rfl (fun hb50 => ?_) (fun hb50 => ?_)
   ·replace h := Sh.if_t h hb50
    refine awp_seqK fun K8 hK8 => awp_reg rfl <| AR.op rfl (aop_field_pp rfl rfl fd24_0 (by decide)) <| AR.op (r := .sl (List.map G.api_Txn.av h_0.Txns)) rfl (aop_load_pp rfl rfl sz22 rfl) <| AR.op rfl (t_len_sl G.api_Txn.av h_0.Txns rfl rfl el22) <| AR.keep [2, 3, 4, 5, 31] rfl <| AR.op rfl (aop_move (.inl rfl) rfl) <| AR.nil ?_
    refine hK8 _ ?_
    refine awp_block <| awp_iter (fun (p : Int) => G.edge_Is_b1 h_0 l_2 x_3 y_4 p) (fun (p : Int) => (⟨[(2, .sl (List.map G.api_Choice.av l_2)), (3, i64 x_3), (4, i64 y_4), (5, .pp [.sl (List.map G.api_Txn.av h_0.Txns)] 0), (31, i64 (Sh.len h_0.Txns)), (32, i64 p)], .empty⟩ : St)) h (Weak.kt [2, 3, 4, 5, 31, 32] rfl) ?_
    ·skip
     rintro v62 o1 h hx1
     replace h : G.edge_Is_b1 h_0 l_2 x_3 y_4 v62 = some o1 := h
     unfold G.edge_Is_b1 at h
     refine awp_seqK fun K9 hK9 => awp_reg rfl <| AR.op rfl (aop_lss rfl rfl rfl) <| AR.nil <| hK9 _ ?_
     refine awp_seqK fun K10 hK10 => awp_cond rfl (fun hb63 => ?_) (fun hb63 => ?_)
     ·replace h := Sh.if_t h hb63
      refine awp_skip <| hK10 _ (AWP.weak (Weak.kt [2, 3, 4, 5, 31, 32] rfl) ?_)
      refine awp_seqK fun K11 hK11 => awp_block <| awp_seqK fun K12 hK12 => awp_reg rfl <| AR.op rfl (aop_move (.inl rfl) rfl) <| AR.op rfl (aop_move (.inr rfl) rfl) <| AR.nil <| hK12 _ (AWP.weak (Weak.kt [2, 3, 4, 5, 31, 32, 11] rfl) ?_)
      refine awp_seqJ (fun (p : Bool) => (⟨[(2, .sl (List.map G.api_Choice.av l_2)), (3, i64 x_3), (4, i64 y_4), (5, .pp [.sl (List.map G.api_Txn.av h_0.Txns)] 0), (31, i64 (Sh.len h_0.Txns)), (32, i64 v62), (51, bl p)], .empty⟩ : St)) (fun (p : Bool) => G.edge_Is_j2 v62 p = some o1) ?_ ?_
      ·rintro v73 h
       replace h : G.edge_Is_j2 v62 v73 = some o1 := h
       unfold G.edge_Is_j2 at h
       refine awp_cond rfl (fun hb74 => ?_) (fun hb74 => ?_)
       ·replace h := Sh.if_t h hb74
        refine awp_seqK fun K13 hK13 => awp_reg rfl <| AR.op rfl (aop_move (.inr rfl) rfl) <| AR.nil <| hK13 _ (AWP.weak (Weak.kt [10] rfl) ?_)
        refine awp_ret ?_
        replace h := Sh.exit_eq h hx1
        obtain rfl := Option.some.inj h
        refine ⟨.inr rfl, bl true, rfl, ?_⟩
        exact Weak.e ⟨.k, trivial⟩
       ·replace h := Sh.if_f h hb74
        refine awp_skip <| hK11 _ (AWP.weak (Weak.kt [2, 3, 4, 5, 31, 32] rfl) ?_)
        refine awp_reg rfl <| AR.op rfl (aop_add rfl rfl rfl rfl) <| AR.op rfl (aop_move (.inl rfl) rfl) <| AR.nil ?_
        replace h := Sh.next_eq h
        exact ⟨_, h, Weak.kt [2, 3, 4, 5, 31, 32] rfl⟩
      ·intro K14 hK14
       refine awp_reg rfl <| AR.op (r := G.api_Hist.av h_0) rfl (aop_load_pp rfl rfl sz24 rfl) <| AR.op rfl (aop_move (.inl rfl) rfl) <| AR.op rfl (aop_move (.inl rfl) rfl) <| AR.keep [2, 3, 4, 5, 31, 32, 11, 35, 36, 37] rfl <| AR.op rfl (aop_move (.inl rfl) rfl) ?_
       obtain ⟨r75, hr75, h⟩ := Sh.bind_some' h
       refine AR.op (r := bl r75) rfl (aop_call1 rfl rfl (by simp) (edge_Direct_ok hT hr75)) <| AR.op rfl (aop_move (.inl rfl) rfl) <| AR.keep [2, 3, 4, 5, 31, 32, 11, 40] rfl ?_
       rcases Bool.eq_false_or_eq_true (r75) with hb76 | hb76
       ·rw [hb76]
        replace h := Sh.if_t h hb76
        refine AR.op rfl (aop_move (.inl rfl) rfl) <| AR.op rfl (aop_move (.inl rfl) rfl) <| AR.op (r := bl (decide (v62 = y_4))) rfl (aop_eql rfl rfl rfl) <| AR.keep [2, 3, 4, 5, 31, 32, 11, 40, 41, 42, 43] rfl <| AR.op rfl (aop_move (.inl rfl) rfl) ?_
        rcases Bool.eq_false_or_eq_true (decide (v62 = y_4)) with hb77 | hb77
        ·rw [hb77]
         replace h := Sh.if_t h hb77
         refine AR.skip rfl <| AR.skip rfl <| AR.keep [2, 3, 4, 5, 31, 32, 11, 40, 41, 42, 43, 44, 45, 46] rfl <| AR.skip rfl <| AR.skip rfl <| AR.skip rfl <| AR.keep [2, 3, 4, 5, 31, 32, 40, 41, 42, 43, 44, 45, 46, 47, 48, 49] rfl <| AR.op rfl (aop_pick rfl rfl rfl) ?_
         refine AR.op rfl (aop_pick rfl rfl rfl) <| AR.nil ?_
         exact hK14 true _ h (Weak.kt [2, 3, 4, 5, 31, 32, 51] rfl)
        ·rw [hb77]
         replace h := Sh.if_f h hb77
         refine AR.op (r := G.api_Hist.av h_0) rfl (aop_load_pp rfl rfl sz24 rfl) <| AR.op rfl (aop_move (.inl rfl) rfl) <| AR.keep [2, 3, 4, 5, 31, 32, 11, 40, 41, 42, 43, 44, 45, 46] rfl <| AR.op rfl (aop_move (.inl rfl) rfl) <| AR.op rfl (aop_move (.inl rfl) rfl) ?_
         obtain ⟨r78, hr78, h⟩ := Sh.bind_some' h
         refine AR.op (r := bl r78) rfl (aop_call1 rfl rfl (by simp) (edge_Anti_ok hT hr78)) <| AR.keep [2, 3, 4, 5, 31, 32, 40, 41, 42, 43, 44, 45, 46, 47, 48, 49] rfl <| AR.op rfl (aop_pick rfl rfl rfl) <| AR.op rfl (aop_pick rfl rfl rfl) <| AR.nil ?_
         exact hK14 r78 _ h (Weak.kt [2, 3, 4, 5, 31, 32, 51] rfl)
       ·rw [hb76]
        replace h := Sh.if_f h hb76
        refine AR.skip rfl <| AR.skip rfl <| AR.skip rfl <| AR.keep [2, 3, 4, 5, 31, 32, 11, 40, 41, 42, 43] rfl <| AR.skip rfl <| AR.skip rfl <| AR.skip rfl <| AR.keep [2, 3, 4, 5, 31, 32, 11, 40, 41, 42, 43, 44, 45, 46] rfl ?_
        refine AR.skip rfl <| AR.skip rfl <| AR.skip rfl <| AR.keep [2, 3, 4, 5, 31, 32, 40, 41, 42, 43, 44, 45, 46, 47, 48, 49] rfl <| AR.skip rfl <| AR.op rfl (aop_pick rfl rfl rfl) <| AR.nil ?_
        exact hK14 false _ h (Weak.kt [2, 3, 4, 5, 31, 32, 51] rfl)
     ·replace h := Sh.if_f h hb63
      refine awp_exit ?_
      replace h := Sh.exit_eq h hx1
      exact hK3 () _ h (Weak.kt [] rfl)
   ·replace h := Sh.if_f h hb50
    refine awp_skip ?_
    exact hK3 () _ h (Weak.kt [] rfl)
theorem edge_Is_ok {W0 : World} (hT : Tab W0) {h_0 : G.api_Hist} {level_1 : Int} {l_2 : List G.api_Choice} {x_3 : Int} {y_4 : Int} {r : Bool} (h : G.edge_Is h_0 level_1 l_2 x_3 y_4 = some r) : Fun1 Try.prog W0 66 [G.api_Hist.av h_0, i64 level_1, .sl (List.map G.api_Choice.av l_2), i64 x_3, i64 y_4] (bl r) := Fun1.two (edge_Is_ok0 hT h) (by simp)


theorem edge_Cycle_ok0 {W0 : World} (hT : Tab W0) {h_0 : G.api_Hist} {level_1 : Int} {l_2 : List G.api_Choice} {row_3 : List Int} {r : Bool} (h : G.edge_Cycle h_0 level_1 l_2 row_3 = some r) : Fun2 Try.prog W0 61 [G.api_Hist.av h_0, i64 level_1, .sl (List.map G.api_Choice.av l_2), .sl (List.map i64 row_3)] (bl r) .empty := by
 refine fun2_of_awp Try.func61 rfl (by kernel_rfl) Try.ntmps61 (by simp) ?_
 unfold G.edge_Cycle at h
 show AWP _ _ _ _ ⟨[(0, G.api_Hist.av h_0), (1, i64 level_1), (2, .sl (List.map G.api_Choice.av l_2)), (3, .sl (List.map i64 row_3))], .empty⟩ _
 refine awp_seqK fun K1 hK1 => awp_reg rfl <| AR.op (r := .ref 0 0 0) rfl (aop_box 1 [G.api_Hist.av h_0] rfl rfl rfl (.inl ⟨rfl, rfl⟩)) <| AR.op rfl (aop_move (.inr rfl) rfl) <| AR.nil <| hK1 _ (AWP.weak (Weak.e (fr' := [(1, i64 level_1), (2, .sl (List.map G.api_Choice.av l_2)), (3, .sl (List.map i64 row_3)), (4, .pp [.sl (List.map G.api_Txn.av h_0.Txns)] 0)]) (H' := .empty) ⟨.k, ⟨.sl (List.map G.api_Choice.av l_2), rfl, .sm⟩, ⟨.sl (List.map i64 row_3), rfl, .sm⟩, ⟨_, rfl, .frzA rfl rfl rfl rfl (by simp)⟩, trivial⟩) ?_)
 refine awp_seqJ (fun (p : Unit) => (⟨[(3, .sl (List.map i64 row_3))], .empty⟩ : St)) (fun (p : Unit) => G.edge_Cycle_j1 row_3 = some r) ?_ ?_
 ·rintro ⟨⟩ h
  replace h : G.edge_Cycle_j1 row_3 = some r := h
  unfold G.edge_Cycle_j1 at h
  refine awp_seqK fun K2 hK2 => awp_reg rfl <| AR.op rfl (aop_move (.inl rfl) rfl) <| AR.op rfl (t_len_sl i64 row_3 rfl rfl el36) <| AR.op rfl (aop_gtr rfl rfl rfl) <| AR.keep [42] rfl <| AR.op rfl (aop_move (.inr rfl) rfl) <| AR.nil ?_
  refine hK2 _ (AWP.weak (Weak.kt [8] rfl) ?_)
  refine awp_ret ?_
  obtain rfl := Option.some.inj h
  refine ⟨.inr rfl, bl (decide ((0 : Int) < (Sh.len row_3))), rfl, ?_⟩
  exact Weak.e ⟨.k, trivial⟩
 ·intro K3 hK3
  refine awp_seqK fun K4 hK4 => awp_reg rfl <| AR.op rfl (aop_move (.inl rfl) rfl) <| AR.op rfl (t_len_sl i64 row_3 rfl rfl el36) <| AR.op rfl (aop_move (.inl rfl) rfl) <| AR.nil <| hK4 _ ?_
  refine awp_block <| awp_iter (fun (p : Int) => G.edge_Cycle_b1 h_0 level_1 l_2 row_3 p) (fun (p : Int) => (⟨[(1, i64 level_1), (2, .sl (List.map G.api_Choice.av l_2)), (3, .sl (List.map i64 row_3)), (4, .pp [.sl (List.map G.api_Txn.av h_0.Txns)] 0), (11, .sl (List.map i64 row_3)), (12, i64 (Sh.len row_3)), (13, i64 p)], .empty⟩ : St)) h (Weak.kt [1, 2, 3, 4, 11, 12, 13] rfl) ?_
  ·skip
   rintro v86 o1 h hx1
   replace h : G.edge_Cycle_b1 h_0 level_1 l_2 row_3 v86 = some o1 := h
   unfold G.edge_Cycle_b1 at h
   refine awp_seqK fun K5 hK5 => awp_reg rfl <| AR.op rfl (aop_lss rfl rfl rfl) <| AR.nil <| hK5 _ ?_
   refine awp_seqK fun K6 hK6 => awp_cond rfl (fun hb87 => ?_) (fun hb87 => ?_)
   ·replace h := Sh.if_t h hb87
    refine awp_skip <| hK6 _ (AWP.weak (Weak.kt [1, 2, 3, 4, 11, 12, 13] rfl) ?_)
    refine awp_seqK fun K7 hK7 => awp_block <| awp_seqK fun K8 hK8 => awp_reg rfl <| AR.op rfl (aop_move (.inl rfl) rfl) ?_
    obtain ⟨x100, hx100, h⟩ := Sh.bind_some' h
    obtain ⟨k101, hi101, hl101⟩ := Sh.idx_some hx100
    refine AR.op rfl (t_index_sl i64 row_3 hi101 hl101 rfl rfl rfl el36 rfl) <| AR.op (r := i64 x100) rfl (aop_load_pp rfl rfl sz3 rfl) <| AR.keep [1, 2, 3, 4, 11, 12, 13, 15, 17] rfl <| AR.op rfl (aop_move (.inr rfl) rfl) <| AR.op rfl (aop_move (.inr rfl) rfl) <| AR.nil <| hK8 _ (AWP.weak (Weak.kt [1, 2, 3, 4, 11, 12, 13, 9, 10] rfl) ?_)
    refine awp_seqJ (fun (p : Bool) => (⟨[(1, i64 level_1), (2, .sl (List.map G.api_Choice.av l_2)), (3, .sl (List.map i64 row_3)), (4, .pp [.sl (List.map G.api_Txn.av h_0.Txns)] 0), (11, .sl (List.map i64 row_3)), (12, i64 (Sh.len row_3)), (13, i64 v86), (38, bl p)], .empty⟩ : St)) (fun (p : Bool) => G.edge_Cycle_j2 v86 p = some o1) ?_ ?_
    ·rintro v109 h
     replace h : G.edge_Cycle_j2 v86 v109 = some o1 := h
     unfold G.edge_Cycle_j2 at h
     refine awp_cond rfl (fun hb110 => ?_) (fun hb110 => ?_)
     ·replace h := Sh.if_t h hb110
      refine awp_seqK fun K9 hK9 => awp_reg rfl <| AR.op rfl (aop_move (.inr rfl) rfl) <| AR.nil <| hK9 _ (AWP.weak (Weak.kt [8] rfl) ?_)
      refine awp_ret ?_
      replace h := Sh.exit_eq h hx1
      obtain rfl := Option.some.inj h
      refine ⟨.inr rfl, bl false, rfl, ?_⟩
      exact Weak.e ⟨.k, trivial⟩
     ·replace h := Sh.if_f h hb110
      refine awp_skip <| hK7 _ (AWP.weak (Weak.kt [1, 2, 3, 4, 11, 12, 13] rfl) ?_)
      refine awp_reg rfl <| AR.op rfl (aop_add rfl rfl rfl rfl) <| AR.op rfl (aop_move (.inl rfl) rfl) <| AR.nil ?_
      replace h := Sh.next_eq h
      exact ⟨_, h, Weak.kt [1, 2, 3, 4, 11, 12, 13] rfl⟩
    ·intro K10 hK10
     refine awp_any [(true, false), (true, false), (true, false), (true, false), (true, false), (true, false), (true, false), (true, false), (true, false), (true, false), (true, false), (true, false), (true, false), (true, false), (true, false), (true, false), (true, false), (true, false), (true, false), (true, false), (true, false)] (by kernel_rfl) (by kernel_rfl) rfl ?_
     refine ARH.dry rfl (fun _ => aop_move (.inl rfl) rfl) <| ARH.dry rfl (fun _ => aop_move (.inl rfl) rfl) ?_
     obtain ⟨part111, hpart111, h⟩ := Sh.bind_some' h
     refine ARH.dry (r := .sl (List.map i64 part111)) rfl (fun _ => t_sub i64 row_3 part111 hpart111 (fun _ => rfl) rfl rfl (.inl rfl) (.inl ⟨rfl, rfl⟩) (.inr ⟨_, _, rfl, rfl⟩) el36) <| ARH.keep [1, 2, 3, 4, 11, 12, 13, 9, 10, 20] rfl <| ARH.dry rfl (fun _ => aop_move (.inl rfl) rfl) ?_
     obtain ⟨r112, hr112, h⟩ := Sh.bind_some' h
     refine ARH.dry (r := bl r112) rfl (fun _ => aop_call1 rfl rfl (by simp) (slices_Contains_int_int_ok hT hr112)) <| ARH.dry rfl (fun _ => aop_move (.inl rfl) rfl) <| ARH.keep [1, 2, 3, 4, 11, 12, 13, 9, 10, 23] rfl ?_
     rcases Bool.eq_false_or_eq_true (r112) with hb113 | hb113
     ·rw [hb113]
      replace h := Sh.if_t h hb113
      refine ARH.skip rfl <| ARH.skip rfl <| ARH.skip rfl <| ARH.keep [1, 2, 3, 4, 11, 12, 13, 9, 10, 23, 24, 25, 26] rfl <| ARH.skip rfl <| ARH.skip rfl <| ARH.skip rfl <| ARH.keep [1, 2, 3, 4, 11, 12, 13, 23, 24, 25, 26, 27, 28, 29] rfl ?_
      refine ARH.skip rfl <| ARH.skip rfl <| ARH.skip rfl <| ARH.keep [1, 2, 3, 4, 11, 12, 13, 23, 24, 25, 26, 27, 28, 29, 30, 31, 32] rfl <| ARH.skip rfl <| ARH.skip rfl <| ARH.skip rfl <| ARH.keep [1, 2, 3, 4, 11, 12, 13, 23, 24, 25, 26, 27, 28, 29, 30, 31, 32, 33, 34, 35] rfl ?_
      refine ARH.skip rfl <| ARH.skip rfl <| ARH.dry rfl (fun _ => aop_pick rfl rfl rfl) <| ARH.nil ?_
      exact hK10 true _ h (Weak.kt [1, 2, 3, 4, 11, 12, 13, 38] rfl)
     ·rw [hb113]
      replace h := Sh.if_f h hb113
      refine ARH.dry (r := G.api_Hist.av h_0) rfl (fun _ => aop_load_pp rfl rfl sz24 rfl) <| ARH.dry rfl (fun _ => aop_move (.inl rfl) rfl) <| ARH.dry rfl (fun _ => aop_move (.inl rfl) rfl) <| ARH.keep [1, 2, 3, 4, 11, 12, 13, 9, 10, 23, 24, 25, 26] rfl <| ARH.dry rfl (fun _ => aop_move (.inl rfl) rfl) <| ARH.dry rfl (fun _ => aop_move (.inl rfl) rfl) <| ARH.dry rfl (fun _ => aop_move (.inl rfl) rfl) <| ARH.keep [1, 2, 3, 4, 11, 12, 13, 23, 24, 25, 26, 27, 28, 29] rfl ?_
      refine ARH.dry rfl (fun _ => aop_add rfl rfl rfl rfl) <| ARH.dry rfl (fun _ => aop_move (.inl rfl) rfl) <| ARH.dry rfl (fun _ => t_len_sl i64 row_3 rfl rfl el36) <| ARH.keep [1, 2, 3, 4, 11, 12, 13, 23, 24, 25, 26, 27, 28, 29, 30, 31, 32] rfl ?_
      obtain ⟨q114, hq114, h⟩ := Sh.bind_some' h
      refine ARH.dry (r := i64 q114) rfl (fun _ => aop_rem rfl rfl rfl (Sh.rem_some hq114).1 (Sh.rem_some hq114).2) ?_
      obtain ⟨x115, hx115, h⟩ := Sh.bind_some' h
      obtain ⟨k116, hi116, hl116⟩ := Sh.idx_some hx115
      refine ARH.dry rfl (fun _ => t_index_sl i64 row_3 hi116 hl116 rfl rfl rfl el36 rfl) <| ARH.dry (r := i64 x115) rfl (fun _ => aop_load_pp rfl rfl sz3 rfl) <| ARH.keep [1, 2, 3, 4, 11, 12, 13, 23, 24, 25, 26, 27, 28, 29, 30, 31, 32, 33, 34, 35] rfl ?_
      obtain ⟨r117, hr117, h⟩ := Sh.bind_some' h
      refine ARH.dry (r := bl r117) rfl (fun _ => aop_call1 rfl rfl (by simp) (edge_Is_ok hT hr117)) <| ARH.dry (r := bl (!r117)) rfl (fun _ => aop_not rfl rfl) <| ARH.dry rfl (fun _ => aop_pick rfl rfl rfl) <| ARH.nil ?_
      exact hK10 (!r117) _ h (Weak.kt [1, 2, 3, 4, 11, 12, 13, 38] rfl)
   ·replace h := Sh.if_f h hb87
    refine awp_exit ?_
    replace h := Sh.exit_eq h hx1
    exact hK3 () _ h (Weak.kt [3] rfl)
theorem edge_Cycle_ok {W0 : World} (hT : Tab W0) {h_0 : G.api_Hist} {level_1 : Int} {l_2 : List G.api_Choice} {row_3 : List Int} {r : Bool} (h : G.edge_Cycle h_0 level_1 l_2 row_3 = some r) : Fun1 Try.prog W0 61 [G.api_Hist.av h_0, i64 level_1, .sl (List.map G.api_Choice.av l_2), .sl (List.map i64 row_3)] (bl r) := Fun1.two (edge_Cycle_ok0 hT h) (by simp)

end Wk
