/- That a statement does what its plain function says. -/
import Derived.Test.YtcoegkcdabpijaaWkEinquestlaw20
open Go Go.Av Go.Proofs
set_option linter.unusedVariables false
set_option maxHeartbeats 8000000
set_option maxRecDepth 20000
namespace Wk
theorem inquestlaw20_SerSwaps_ok0 {W0 : World} (hT : Tab W0) {h_0 : G.api_Hist} {order_1 : List Int} {at_2 : Int} {r : Bool} (h : G.inquestlaw20_SerSwaps h_0 order_1 at_2 = some r) : Fun2 Try.prog W0 5 [G.api_Hist.av h_0, .sl (List.map i64 order_1), i64 at_2] (bl r) .empty := by
 refine fun2_of_awp Try.func5 rfl (by kernel_rfl) Try.ntmps5 (by simp) ?_
 unfold G.inquestlaw20_SerSwaps at h
 show AWP _ _ _ _ ⟨[(0, G.api_Hist.av h_0), (1, .sl (List.map i64 order_1)), (2, i64 at_2)], .empty⟩ _
 refine awp_seqK fun K1 hK1 => awp_reg rfl <| AR.op (r := .ref 0 0 0) rfl (aop_box 1 [G.api_Hist.av h_0] rfl rfl rfl (.inl ⟨rfl, rfl⟩)) <| AR.op rfl (aop_move (.inr rfl) rfl) <| AR.nil <| hK1 _ (AWP.weak (Weak.e (fr' := [(1, .sl (List.map i64 order_1)), (2, i64 at_2), (3, .pp [.sl (List.map G.api_Txn.av h_0.Txns)] 0)]) (H' := .empty) ⟨⟨.sl (List.map i64 order_1), rfl, .sm⟩, .k, ⟨_, rfl, .frzA rfl rfl rfl rfl (by simp)⟩, trivial⟩) ?_)
 refine awp_seqK fun K2 hK2 => awp_reg rfl ?_
 obtain ⟨r158, hr158, h⟩ := Sh.bind_some' h
 refine AR.op (r := bl r158) rfl (aop_call1 rfl rfl (by simp) (inquestlaw20_awake_ok hT hr158)) <| AR.op rfl (aop_move (.inr rfl) rfl) <| AR.nil <| hK2 _ (AWP.weak (Weak.kt [1, 2, 3, 7] rfl) ?_)
 refine awp_seqK fun K3 hK3 => awp_seqK fun K4 hK4 => awp_reg rfl <| AR.op rfl (aop_move (.inl rfl) rfl) <| AR.op (r := bl (!r158)) rfl (aop_not rfl rfl) <| AR.nil <| hK4 _ (AWP.weak (Weak.kt [1, 2, 3, 20] rfl) ?_)
 refine awp_cond rfl (fun hb159 => ?_) (fun hb159 => ?_)
 ·replace h := Sh.if_t h hb159
  refine awp_seqK fun K5 hK5 => awp_reg rfl <| AR.op rfl (aop_move (.inr rfl) rfl) <| AR.nil <| hK5 _ (AWP.weak (Weak.kt [6] rfl) ?_)
  refine awp_ret ?_
  obtain rfl := Option.some.inj h
  refine ⟨.inr rfl, bl false, rfl, ?_⟩
  exact Weak.e ⟨.k, trivial⟩
 ·replace h := Sh.if_f h hb159
  refine awp_skip <| hK3 _ (AWP.weak (Weak.kt [1, 2, 3] rfl) ?_)
  refine awp_seqK fun K6 hK6 => awp_reg rfl <| AR.op (r := G.api_Hist.av h_0) rfl (aop_load_pp rfl rfl sz24 rfl) ?_
  obtain ⟨r161, hr161, h⟩ := Sh.bind_some' h
  refine AR.op (r := bl r161) rfl (aop_call1 rfl rfl (by simp) (inquestref08_Few_ok hT hr161)) <| AR.op rfl (aop_move (.inr rfl) rfl) <| AR.nil <| hK6 _ (AWP.weak (Weak.kt [1, 2, 3, 8] rfl) ?_)
  refine awp_seqK fun K7 hK7 => awp_reg rfl <| AR.op rfl (aop_move (.inl rfl) rfl) <| AR.op rfl (aop_field_pp rfl rfl fd24_0 (by decide)) <| AR.op (r := .sl (List.map G.api_Txn.av h_0.Txns)) rfl (aop_load_pp rfl rfl sz22 rfl) <| AR.keep [1, 2, 3, 8, 23, 25] rfl <| AR.op rfl (t_len_sl G.api_Txn.av h_0.Txns rfl rfl el22) ?_
  obtain ⟨r163, hr163, h⟩ := Sh.bind_some' h
  refine AR.op (r := bl r163) rfl (aop_call1 rfl rfl (by simp) (inquestref18_Perm_ok hT hr163)) <| AR.op rfl (aop_move (.inr rfl) rfl) <| AR.nil <| hK7 _ (AWP.weak (Weak.kt [1, 2, 3, 8, 9] rfl) ?_)
  refine awp_seqK fun K8 hK8 => awp_seqJ (fun (p : Bool) => (⟨[(1, .sl (List.map i64 order_1)), (2, i64 at_2), (3, .pp [.sl (List.map G.api_Txn.av h_0.Txns)] 0), (49, bl p)], .empty⟩ : St)) (fun (p : Bool) => G.inquestlaw20_SerSwaps_j1 h_0 order_1 at_2 p = some r) ?_ ?_
  ·rintro v175 h
   replace h : G.inquestlaw20_SerSwaps_j1 h_0 order_1 at_2 v175 = some r := h
   unfold G.inquestlaw20_SerSwaps_j1 at h
   refine awp_cond rfl (fun hb176 => ?_) (fun hb176 => ?_)
   ·replace h := Sh.if_t h hb176
    refine awp_seqK fun K9 hK9 => awp_reg rfl <| AR.op rfl (aop_move (.inr rfl) rfl) <| AR.nil <| hK9 _ (AWP.weak (Weak.kt [6] rfl) ?_)
    refine awp_ret ?_
    obtain rfl := Option.some.inj h
    refine ⟨.inr rfl, bl true, rfl, ?_⟩
    exact Weak.e ⟨.k, trivial⟩
   ·replace h := Sh.if_f h hb176
    refine awp_skip <| hK8 _ (AWP.weak (Weak.kt [1, 2, 3] rfl) ?_)
    refine awp_seqK fun K10 hK10 => awp_any [(true, false), (true, false), (true, false), (true, false), (true, false), (true, false), (true, false), (true, false), (false, true), (false, true)] (by kernel_rfl) (by kernel_rfl) rfl ?_
    refine ARH.dry rfl (fun _ => aop_field_pp rfl rfl fd24_0 (by decide)) <| ARH.dry (r := .sl (List.map G.api_Txn.av h_0.Txns)) rfl (fun _ => aop_load_pp rfl rfl sz22 rfl) <| ARH.dry rfl (fun _ => aop_move (.inl rfl) rfl) <| ARH.keep [1, 2, 3, 51, 52] rfl <| ARH.dry rfl (fun _ => aop_move (.inl rfl) rfl) ?_
    obtain ⟨x181, hx181, h⟩ := Sh.bind_some' h
    obtain ⟨k182, hi182, hl182⟩ := Sh.idx_some hx181
    refine ARH.dry rfl (fun _ => t_index_sl i64 order_1 hi182 hl182 rfl rfl rfl el25 rfl) <| ARH.dry (r := i64 x181) rfl (fun _ => aop_load_pp rfl rfl sz3 rfl) <| ARH.keep [1, 2, 3, 51, 55] rfl ?_
    obtain ⟨x183, hx183, h⟩ := Sh.bind_some' h
    obtain ⟨k184, hi184, hl184⟩ := Sh.idx_some hx183
    refine ARH.dry rfl (fun _ => t_index_sl G.api_Txn.av h_0.Txns hi184 hl184 rfl rfl rfl el22 rfl) <| ARH.dry (r := G.api_Txn.av x183) rfl (fun _ => aop_load_pp rfl rfl sz36 rfl) <| ARH.loud (r := .ref 0 0 0) rfl rfl (aop_alloc 3 [.agg [i64 0, nilS, nilS]] rfl zr36 (by kernel_rfl) (.inl ⟨rfl, rfl⟩)) <| ARH.keep [1, 2, 3, 57, 10] rfl <| ARH.loud rfl rfl (aop_store (e' := G.api_Txn.av x183) rfl rfl rfl rfl rfl rfl sz36 rfl dt rfl) <| ARH.nil <| hK10 _ (AWP.weak (Weak.e (fr' := [(1, .sl (List.map i64 order_1)), (2, i64 at_2), (3, .pp [.sl (List.map G.api_Txn.av h_0.Txns)] 0), (10, .pp [i64 x183.Session, .sl (List.map i64 x183.Writes), .sl (List.map G.api_Take.av x183.Reads)] 0)]) (H' := .empty) ⟨⟨.sl (List.map i64 order_1), rfl, .sm⟩, .k, .k, ⟨_, rfl, .frzA rfl rfl rfl rfl (by simp)⟩, trivial⟩) ?_)
    refine awp_seqK fun K11 hK11 => awp_any [(true, false), (true, false), (true, false), (true, false), (true, false), (true, false), (true, false), (true, false), (true, false), (false, true), (false, true)] (by kernel_rfl) (by kernel_rfl) rfl ?_
    refine ARH.dry rfl (fun _ => aop_field_pp rfl rfl fd24_0 (by decide)) <| ARH.dry (r := .sl (List.map G.api_Txn.av h_0.Txns)) rfl (fun _ => aop_load_pp rfl rfl sz22 rfl) <| ARH.dry rfl (fun _ => aop_move (.inl rfl) rfl) <| ARH.keep [1, 2, 3, 10, 59, 60] rfl <| ARH.dry rfl (fun _ => aop_move (.inl rfl) rfl) <| ARH.dry rfl (fun _ => aop_add rfl rfl rfl rfl) ?_
    obtain ⟨x189, hx189, h⟩ := Sh.bind_some' h
    obtain ⟨k190, hi190, hl190⟩ := Sh.idx_some hx189
    refine ARH.dry rfl (fun _ => t_index_sl i64 order_1 hi190 hl190 rfl rfl rfl el25 rfl) <| ARH.keep [1, 2, 3, 10, 59, 63] rfl <| ARH.dry (r := i64 x189) rfl (fun _ => aop_load_pp rfl rfl sz3 rfl) ?_
    obtain ⟨x191, hx191, h⟩ := Sh.bind_some' h
    obtain ⟨k192, hi192, hl192⟩ := Sh.idx_some hx191
    refine ARH.dry rfl (fun _ => t_index_sl G.api_Txn.av h_0.Txns hi192 hl192 rfl rfl rfl el22 rfl) <| ARH.dry (r := G.api_Txn.av x191) rfl (fun _ => aop_load_pp rfl rfl sz36 rfl) <| ARH.keep [1, 2, 3, 10, 66] rfl <| ARH.loud (r := .ref 0 0 0) rfl rfl (aop_alloc 3 [.agg [i64 0, nilS, nilS]] rfl zr36 (by kernel_rfl) (.inl ⟨rfl, rfl⟩)) <| ARH.loud rfl rfl (aop_store (e' := G.api_Txn.av x191) rfl rfl rfl rfl rfl rfl sz36 rfl dt rfl) <| ARH.nil <| hK11 _ (AWP.weak (Weak.e (fr' := [(1, .sl (List.map i64 order_1)), (2, i64 at_2), (3, .pp [.sl (List.map G.api_Txn.av h_0.Txns)] 0), (10, .pp [i64 x183.Session, .sl (List.map i64 x183.Writes), .sl (List.map G.api_Take.av x183.Reads)] 0), (11, .pp [i64 x191.Session, .sl (List.map i64 x191.Writes), .sl (List.map G.api_Take.av x191.Reads)] 0)]) (H' := .empty) ⟨⟨.sl (List.map i64 order_1), rfl, .sm⟩, .k, .k, .k, ⟨_, rfl, .frzA rfl rfl rfl rfl (by simp)⟩, trivial⟩) ?_)
    refine awp_seqK fun K12 hK12 => awp_seqK fun K13 hK13 => awp_reg rfl <| AR.op rfl (aop_field_pp rfl rfl fd36_0 (by decide)) <| AR.op (r := i64 x183.Session) rfl (aop_load_pp rfl rfl sz3 rfl) <| AR.op rfl (aop_field_pp rfl rfl fd36_0 (by decide)) <| AR.keep [1, 2, 3, 10, 11, 68, 69] rfl <| AR.op (r := i64 x191.Session) rfl (aop_load_pp rfl rfl sz3 rfl) ?_
    refine AR.op (r := bl (decide (x183.Session = x191.Session))) rfl (aop_eql rfl rfl rfl) <| AR.nil <| hK13 _ (AWP.weak (Weak.kt [1, 2, 3, 10, 11, 71] rfl) ?_)
    refine awp_cond rfl (fun hb193 => ?_) (fun hb193 => ?_)
    ·replace h := Sh.if_t h hb193
     refine awp_seqK fun K14 hK14 => awp_reg rfl <| AR.op rfl (aop_move (.inr rfl) rfl) <| AR.nil <| hK14 _ (AWP.weak (Weak.kt [6] rfl) ?_)
     refine awp_ret ?_
     obtain rfl := Option.some.inj h
     refine ⟨.inr rfl, bl true, rfl, ?_⟩
     exact Weak.e ⟨.k, trivial⟩
    ·replace h := Sh.if_f h hb193
     refine awp_skip <| hK12 _ (AWP.weak (Weak.kt [1, 2, 3, 10, 11] rfl) ?_)
     refine awp_seqJ (fun (p : Unit) => (⟨[(1, .sl (List.map i64 order_1)), (2, i64 at_2), (3, .pp [.sl (List.map G.api_Txn.av h_0.Txns)] 0)], .empty⟩ : St)) (fun (p : Unit) => G.inquestlaw20_SerSwaps_j2 h_0 order_1 at_2 = some r) ?_ ?_
     ·rintro ⟨⟩ h
      replace h : G.inquestlaw20_SerSwaps_j2 h_0 order_1 at_2 = some r := h
      unfold G.inquestlaw20_SerSwaps_j2 at h
      refine awp_seqK fun K15 hK15 => awp_reg rfl <| AR.op rfl (aop_move (.inr rfl) rfl) <| AR.nil <| hK15 _ ?_
      refine awp_seqK fun K16 hK16 => awp_reg rfl <| AR.op rfl (aop_move (.inl rfl) rfl) <| AR.op rfl (aop_move (.inl rfl) rfl) ?_
      obtain ⟨other323, hother323, h⟩ := Sh.bind_some' h
      refine AR.op (r := .view 0 0 (List.map i64 other323).length) rfl (t_app_nil i64 order_1 other323 hother323 et25 (fun _ => rfl) rfl rfl rfl rfl rfl) <| AR.keep [1, 2, 3, 124] rfl <| AR.op rfl (aop_move (.inr rfl) rfl) <| AR.nil <| hK16 _ (AWP.weak (Weak.kt [1, 2, 3, 17] rfl) ?_)
      refine awp_seqK fun K17 hK17 => awp_reg rfl <| AR.op rfl (aop_move (.inl rfl) rfl) <| AR.op rfl (aop_move (.inl rfl) rfl) <| AR.op rfl (aop_move (.inl rfl) rfl) <| AR.keep [1, 2, 3, 17, 125, 126, 127] rfl <| AR.op rfl (aop_move (.inl rfl) rfl) <| AR.op rfl (aop_add rfl rfl rfl rfl) ?_
      obtain ⟨x328, hx328, h⟩ := Sh.bind_some' h
      obtain ⟨k329, hi329, hl329⟩ := Sh.idx_some hx328
      refine AR.op rfl (t_index_sl i64 order_1 hi329 hl329 rfl rfl rfl el25 rfl) <| AR.keep [1, 2, 3, 17, 125, 126, 130] rfl <| AR.op (r := i64 x328) rfl (aop_load_pp rfl rfl sz3 rfl) ?_
      obtain ⟨x330, hx330, h⟩ := Sh.bind_some' h
      obtain ⟨k331, hi331, hl331⟩ := Sh.idx_some hx330
      refine AR.op (r := .ref 0 k331 0) rfl (t_index_view i64 other323 hi331 hl331 rfl rfl rfl rfl rfl el25 rfl) <| AR.op rfl (t_store_el i64 other323 x328 hi331 hl331 rfl rfl rfl rfl rfl sz3 rfl dt rfl) <| AR.nil <| hK17 _ (AWP.weak (Weak.re (fr' := [(1, .sl (List.map i64 order_1)), (2, i64 at_2), (3, .pp [.sl (List.map G.api_Txn.av h_0.Txns)] 0), (17, .view 0 0 (List.map i64 (Sh.set other323 at_2 x328)).length)]) (H' := ⟨1, [(0, (1, List.map i64 (Sh.set other323 at_2 x328)))], []⟩) [(0, 0)] [] rfl rfl rfl (.cons rfl rfl (.same (by simp)) dt trivial) ⟨⟨.sl (List.map i64 order_1), rfl, .sm⟩, .k, .k, ⟨_, rfl, .viewL rfl (by simp [])⟩, trivial⟩) ?_)
      refine awp_seqK fun K18 hK18 => awp_reg rfl <| AR.op rfl (aop_move (.inl rfl) rfl) <| AR.op rfl (aop_move (.inl rfl) rfl) <| AR.op rfl (aop_add rfl rfl rfl rfl) <| AR.keep [1, 2, 3, 17, 133, 135] rfl <| AR.op rfl (aop_move (.inl rfl) rfl) <| AR.op rfl (aop_move (.inl rfl) rfl) ?_
      obtain ⟨x336, hx336, h⟩ := Sh.bind_some' h
      obtain ⟨k337, hi337, hl337⟩ := Sh.idx_some hx336
      refine AR.op rfl (t_index_sl i64 order_1 hi337 hl337 rfl rfl rfl el25 rfl) <| AR.keep [1, 3, 17, 133, 135, 138] rfl <| AR.op (r := i64 x336) rfl (aop_load_pp rfl rfl sz3 rfl) ?_
      obtain ⟨x338, hx338, h⟩ := Sh.bind_some' h
      obtain ⟨k339, hi339, hl339⟩ := Sh.idx_some hx338
      refine AR.op (r := .ref 0 k339 0) rfl (t_index_view i64 (Sh.set other323 at_2 x328) hi339 hl339 rfl rfl rfl rfl rfl el25 rfl) <| AR.op rfl (t_store_el i64 (Sh.set other323 at_2 x328) x336 hi339 hl339 rfl rfl rfl rfl rfl sz3 rfl dt rfl) <| AR.nil <| hK18 _ (AWP.weak (Weak.e (fr' := [(1, .sl (List.map i64 order_1)), (3, .pp [.sl (List.map G.api_Txn.av h_0.Txns)] 0), (17, .sl (List.map i64 (Sh.set (Sh.set other323 at_2 x328) (w64 (at_2 + 1)) x336)))]) (H' := .empty) ⟨⟨.sl (List.map i64 order_1), rfl, .sm⟩, .k, ⟨_, rfl, .lendL rfl rfl (by simp []) (by simp)⟩, trivial⟩) ?_)
      refine awp_seqK fun K19 hK19 => awp_any [(true, false), (true, false), (true, false), (true, false), (true, false), (true, false), (true, false), (true, false)] (by kernel_rfl) (by kernel_rfl) rfl ?_
      refine ARH.dry (r := G.api_Hist.av h_0) rfl (fun _ => aop_load_pp rfl rfl sz24 rfl) <| ARH.dry rfl (fun _ => aop_move (.inl rfl) rfl) ?_
      obtain ⟨r342, hr342, h⟩ := Sh.bind_some' h
      refine ARH.dry (r := bl r342) rfl (fun _ => aop_call1 rfl rfl (by simp) (ser_Check_ok hT hr342)) <| ARH.keep [3, 17, 143] rfl <| ARH.dry (r := G.api_Hist.av h_0) rfl (fun _ => aop_load_pp rfl rfl sz24 rfl) <| ARH.dry rfl (fun _ => aop_move (.inl rfl) rfl) ?_
      obtain ⟨r343, hr343, h⟩ := Sh.bind_some' h
      refine ARH.dry (r := bl r343) rfl (fun _ => aop_call1 rfl rfl (by simp) (ser_Check_ok hT hr343)) <| ARH.keep [143, 146] rfl <| ARH.dry (r := bl (r342 == r343)) rfl (fun _ => aop_eqb rfl rfl rfl Try.underlying4) <| ARH.dry rfl (fun _ => aop_move (.inr rfl) rfl) <| ARH.nil <| hK19 _ (AWP.weak (Weak.kt [6] rfl) ?_)
      refine awp_ret ?_
      obtain rfl := Option.some.inj h
      refine ⟨.inr rfl, bl (r342 == r343), rfl, ?_⟩
      exact Weak.e ⟨.k, trivial⟩
     ·intro K20 hK20
      refine awp_seqK fun K21 hK21 => awp_reg rfl <| AR.op rfl (aop_move (.inr rfl) rfl) <| AR.nil <| hK21 _ ?_
      refine awp_block <| awp_iter (fun (p : Int) => G.inquestlaw20_SerSwaps_b1 h_0 order_1 at_2 x183 x191 p) (fun (p : Int) => (⟨[(1, .sl (List.map i64 order_1)), (2, i64 at_2), (3, .pp [.sl (List.map G.api_Txn.av h_0.Txns)] 0), (10, .pp [i64 x183.Session, .sl (List.map i64 x183.Writes), .sl (List.map G.api_Take.av x183.Reads)] 0), (11, .pp [i64 x191.Session, .sl (List.map i64 x191.Writes), .sl (List.map G.api_Take.av x191.Reads)] 0), (12, i64 p)], .empty⟩ : St)) h (Weak.kt [1, 2, 3, 10, 11, 12] rfl) ?_
      ·skip
       rintro key429 o1 h hx1
       replace h : G.inquestlaw20_SerSwaps_b1 h_0 order_1 at_2 x183 x191 key429 = some o1 := h
       unfold G.inquestlaw20_SerSwaps_b1 at h
       refine awp_seqK fun K22 hK22 => awp_seqK fun K23 hK23 => awp_reg rfl <| AR.op rfl (aop_move (.inl rfl) rfl) <| AR.op rfl (aop_lss rfl rfl rfl) <| AR.nil <| hK23 _ (AWP.weak (Weak.kt [1, 2, 3, 10, 11, 12, 73] rfl) ?_)
       refine awp_cond rfl (fun hb430 => ?_) (fun hb430 => ?_)
       ·replace h := Sh.if_t h hb430
        refine awp_skip <| hK22 _ (AWP.weak (Weak.kt [1, 2, 3, 10, 11, 12] rfl) ?_)
        refine awp_seqJ (fun (p : Unit) => (⟨[(1, .sl (List.map i64 order_1)), (2, i64 at_2), (3, .pp [.sl (List.map G.api_Txn.av h_0.Txns)] 0), (10, .pp [i64 x183.Session, .sl (List.map i64 x183.Writes), .sl (List.map G.api_Take.av x183.Reads)] 0), (11, .pp [i64 x191.Session, .sl (List.map i64 x191.Writes), .sl (List.map G.api_Take.av x191.Reads)] 0), (12, i64 key429)], .empty⟩ : St)) (fun (p : Unit) => G.inquestlaw20_SerSwaps_j3 key429 = some o1) ?_ ?_
        ·rintro ⟨⟩ h
         replace h : G.inquestlaw20_SerSwaps_j3 key429 = some o1 := h
         unfold G.inquestlaw20_SerSwaps_j3 at h
         refine awp_reg rfl <| AR.op rfl (aop_move (.inl rfl) rfl) <| AR.op rfl (aop_add rfl rfl rfl rfl) <| AR.op rfl (aop_move (.inr rfl) rfl) <| AR.nil ?_
         replace h := Sh.next_eq h
         exact ⟨_, h, Weak.kt [1, 2, 3, 10, 11, 12] rfl⟩
        ·intro K24 hK24
         refine awp_block <| awp_seqK fun K25 hK25 => awp_reg rfl <| AR.op (r := G.api_Txn.av x183) rfl (aop_load_pp rfl rfl sz36 rfl) <| AR.op rfl (aop_move (.inl rfl) rfl) ?_
         obtain ⟨r474, hr474, h⟩ := Sh.bind_some' h
         refine AR.op (r := bl r474) rfl (aop_call1 rfl rfl (by simp) (inquestref08_Writes_ok hT hr474)) <| AR.keep [1, 2, 3, 10, 11, 12, 78] rfl <| AR.op rfl (aop_move (.inr rfl) rfl) <| AR.nil <| hK25 _ (AWP.weak (Weak.kt [1, 2, 3, 10, 11, 12, 13] rfl) ?_)
         refine awp_seqK fun K26 hK26 => awp_reg rfl <| AR.op (r := G.api_Txn.av x191) rfl (aop_load_pp rfl rfl sz36 rfl) <| AR.op rfl (aop_move (.inl rfl) rfl) ?_
         obtain ⟨r476, hr476, h⟩ := Sh.bind_some' h
         refine AR.op (r := bl r476) rfl (aop_call1 rfl rfl (by simp) (inquestref08_Writes_ok hT hr476)) <| AR.keep [1, 2, 3, 10, 11, 12, 13, 81] rfl <| AR.op rfl (aop_move (.inr rfl) rfl) <| AR.nil <| hK26 _ (AWP.weak (Weak.kt [1, 2, 3, 10, 11, 12, 13, 14] rfl) ?_)
         refine awp_seqJ (fun (p : Bool) => (⟨[(1, .sl (List.map i64 order_1)), (2, i64 at_2), (3, .pp [.sl (List.map G.api_Txn.av h_0.Txns)] 0), (10, .pp [i64 x183.Session, .sl (List.map i64 x183.Writes), .sl (List.map G.api_Take.av x183.Reads)] 0), (11, .pp [i64 x191.Session, .sl (List.map i64 x191.Writes), .sl (List.map G.api_Take.av x191.Reads)] 0), (12, i64 key429), (13, bl r474), (14, bl p)], .empty⟩ : St)) (fun (p : Bool) => G.inquestlaw20_SerSwaps_j4 x191 key429 r474 p = some o1) ?_ ?_
         ·rintro b496 h
          replace h : G.inquestlaw20_SerSwaps_j4 x191 key429 r474 b496 = some o1 := h
          unfold G.inquestlaw20_SerSwaps_j4 at h
          refine awp_seqJ (fun (p : Bool) => (⟨[(1, .sl (List.map i64 order_1)), (2, i64 at_2), (3, .pp [.sl (List.map G.api_Txn.av h_0.Txns)] 0), (10, .pp [i64 x183.Session, .sl (List.map i64 x183.Writes), .sl (List.map G.api_Take.av x183.Reads)] 0), (11, .pp [i64 x191.Session, .sl (List.map i64 x191.Writes), .sl (List.map G.api_Take.av x191.Reads)] 0), (12, i64 key429), (13, bl p), (14, bl b496)], .empty⟩ : St)) (fun (p : Bool) => G.inquestlaw20_SerSwaps_j5 key429 b496 p = some o1) ?_ ?_
          ·rintro a516 h
           replace h : G.inquestlaw20_SerSwaps_j5 key429 b496 a516 = some o1 := h
           unfold G.inquestlaw20_SerSwaps_j5 at h
           refine awp_seqJ (fun (p : Bool) => (⟨[(1, .sl (List.map i64 order_1)), (2, i64 at_2), (3, .pp [.sl (List.map G.api_Txn.av h_0.Txns)] 0), (10, .pp [i64 x183.Session, .sl (List.map i64 x183.Writes), .sl (List.map G.api_Take.av x183.Reads)] 0), (11, .pp [i64 x191.Session, .sl (List.map i64 x191.Writes), .sl (List.map G.api_Take.av x191.Reads)] 0), (12, i64 key429), (121, bl p)], .empty⟩ : St)) (fun (p : Bool) => G.inquestlaw20_SerSwaps_j6 key429 p = some o1) ?_ ?_
           ·rintro v518 h
            replace h : G.inquestlaw20_SerSwaps_j6 key429 v518 = some o1 := h
            unfold G.inquestlaw20_SerSwaps_j6 at h
            refine awp_cond rfl (fun hb519 => ?_) (fun hb519 => ?_)
            ·replace h := Sh.if_t h hb519
             refine awp_seqK fun K27 hK27 => awp_reg rfl <| AR.op rfl (aop_move (.inr rfl) rfl) <| AR.nil <| hK27 _ (AWP.weak (Weak.kt [6] rfl) ?_)
             refine awp_ret ?_
             replace h := Sh.exit_eq h hx1
             obtain rfl := Option.some.inj h
             refine ⟨.inr rfl, bl true, rfl, ?_⟩
             exact Weak.e ⟨.k, trivial⟩
            ·replace h := Sh.if_f h hb519
             refine awp_skip ?_
             exact hK24 () _ h (Weak.kt [1, 2, 3, 10, 11, 12] rfl)
           ·intro K28 hK28
            refine awp_reg rfl <| AR.op rfl (aop_move (.inl rfl) rfl) <| AR.op rfl (aop_move (.inl rfl) rfl) ?_
            rcases Bool.eq_false_or_eq_true (a516) with hb520 | hb520
            ·rw [hb520]
             replace h := Sh.if_t h hb520
             refine AR.op rfl (aop_move (.inl rfl) rfl) <| AR.keep [1, 2, 3, 10, 11, 12, 119, 120] rfl <| AR.op rfl (aop_pick rfl rfl rfl) <| AR.nil ?_
             exact hK28 b496 _ h (Weak.kt [1, 2, 3, 10, 11, 12, 121] rfl)
            ·rw [hb520]
             replace h := Sh.if_f h hb520
             refine AR.skip rfl <| AR.keep [1, 2, 3, 10, 11, 12, 119, 120] rfl <| AR.op rfl (aop_pick rfl rfl rfl) <| AR.nil ?_
             exact hK28 false _ h (Weak.kt [1, 2, 3, 10, 11, 12, 121] rfl)
          ·intro K29 hK29
           refine awp_seqK fun K30 hK30 => awp_reg rfl <| AR.op rfl (aop_move (.inr rfl) rfl) <| AR.nil <| hK30 _ ?_
           refine awp_block <| awp_iter (fun (p : Bool × Int) => G.inquestlaw20_SerSwaps_b2 x191 key429 b496 p.1 p.2) (fun (p : Bool × Int) => (⟨[(1, .sl (List.map i64 order_1)), (2, i64 at_2), (3, .pp [.sl (List.map G.api_Txn.av h_0.Txns)] 0), (10, .pp [i64 x183.Session, .sl (List.map i64 x183.Writes), .sl (List.map G.api_Take.av x183.Reads)] 0), (11, .pp [i64 x191.Session, .sl (List.map i64 x191.Writes), .sl (List.map G.api_Take.av x191.Reads)] 0), (12, i64 key429), (13, bl p.1), (14, bl b496), (16, i64 p.2)], .empty⟩ : St)) h (Weak.kt [1, 2, 3, 10, 11, 12, 13, 14, 16] rfl) ?_
           ·skip
            rintro ⟨a533, i534⟩ o2 h hx2
            replace h : G.inquestlaw20_SerSwaps_b2 x191 key429 b496 a533 i534 = some o2 := h
            unfold G.inquestlaw20_SerSwaps_b2 at h
            refine awp_seqK fun K31 hK31 => awp_seqK fun K32 hK32 => awp_reg rfl <| AR.op rfl (aop_move (.inl rfl) rfl) <| AR.op rfl (aop_field_pp rfl rfl fd36_2 (by decide)) <| AR.op (r := .sl (List.map G.api_Take.av x191.Reads)) rfl (aop_load_pp rfl rfl sz32 rfl) <| AR.keep [1, 2, 3, 10, 11, 12, 13, 14, 16, 100, 102] rfl <| AR.op rfl (t_len_sl G.api_Take.av x191.Reads rfl rfl el32) ?_
            refine AR.op rfl (aop_lss rfl rfl rfl) <| AR.nil <| hK32 _ (AWP.weak (Weak.kt [1, 2, 3, 10, 11, 12, 13, 14, 16, 104] rfl) ?_)
            refine awp_cond rfl (fun hb535 => ?_) (fun hb535 => ?_)
            ·replace h := Sh.if_t h hb535
             refine awp_skip <| hK31 _ (AWP.weak (Weak.kt [1, 2, 3, 10, 11, 12, 13, 14, 16] rfl) ?_)
             refine awp_seqK fun K33 hK33 => awp_block <| awp_seqJ (fun (p : Bool × Bool) => (⟨[(1, .sl (List.map i64 order_1)), (2, i64 at_2), (3, .pp [.sl (List.map G.api_Txn.av h_0.Txns)] 0), (10, .pp [i64 x183.Session, .sl (List.map i64 x183.Writes), .sl (List.map G.api_Take.av x183.Reads)] 0), (11, .pp [i64 x191.Session, .sl (List.map i64 x191.Writes), .sl (List.map G.api_Take.av x191.Reads)] 0), (12, i64 key429), (13, bl p.1), (14, bl b496), (16, i64 i534), (117, bl p.2)], .empty⟩ : St)) (fun (p : Bool × Bool) => G.inquestlaw20_SerSwaps_j7 i534 p.1 p.2 = some o2) ?_ ?_
             ·rintro ⟨a544, v545⟩ h
              replace h : G.inquestlaw20_SerSwaps_j7 i534 a544 v545 = some o2 := h
              unfold G.inquestlaw20_SerSwaps_j7 at h
              refine awp_cond rfl (fun hb546 => ?_) (fun hb546 => ?_)
              ·replace h := Sh.if_t h hb546
               refine awp_seqK fun K34 hK34 => awp_reg rfl <| AR.op rfl (aop_move (.inr rfl) rfl) <| AR.nil <| hK34 _ (AWP.weak (Weak.kt [6] rfl) ?_)
               refine awp_ret ?_
               replace h := Sh.exit_eq h hx2
               replace h := Sh.exit_eq h hx1
               obtain rfl := Option.some.inj h
               refine ⟨.inr rfl, bl true, rfl, ?_⟩
               exact Weak.e ⟨.k, trivial⟩
              ·replace h := Sh.if_f h hb546
               refine awp_skip <| hK33 _ (AWP.weak (Weak.kt [1, 2, 3, 10, 11, 12, 13, 14, 16] rfl) ?_)
               refine awp_reg rfl <| AR.op rfl (aop_move (.inl rfl) rfl) <| AR.op rfl (aop_add rfl rfl rfl rfl) <| AR.op rfl (aop_move (.inr rfl) rfl) <| AR.nil ?_
               replace h := Sh.next_eq h
               exact ⟨_, h, Weak.kt [1, 2, 3, 10, 11, 12, 13, 14, 16] rfl⟩
             ·intro K35 hK35
              refine awp_reg rfl <| AR.op rfl (aop_move (.inl rfl) rfl) <| AR.op rfl (aop_move (.inl rfl) rfl) ?_
              rcases Bool.eq_false_or_eq_true (a533) with hb547 | hb547
              ·rw [hb547]
               replace h := Sh.if_t h hb547
               refine AR.op rfl (aop_field_pp rfl rfl fd36_2 (by decide)) <| AR.keep [1, 2, 3, 10, 11, 12, 13, 14, 16, 108, 109] rfl <| AR.op (r := .sl (List.map G.api_Take.av x191.Reads)) rfl (aop_load_pp rfl rfl sz32 rfl) <| AR.op rfl (aop_move (.inl rfl) rfl) ?_
               obtain ⟨x548, hx548, h⟩ := Sh.bind_some' h
               obtain ⟨k549, hi549, hl549⟩ := Sh.idx_some hx548
               refine AR.op rfl (t_index_sl G.api_Take.av x191.Reads hi549 hl549 rfl rfl rfl el32 rfl) <| AR.keep [1, 2, 3, 10, 11, 12, 13, 14, 16, 108, 109, 110, 111, 112] rfl <| AR.op rfl (aop_field_pp rfl rfl fd39_0 (by decide)) <| AR.op (r := i64 x548.Key) rfl (aop_load_pp rfl rfl sz3 rfl) <| AR.op rfl (aop_move (.inl rfl) rfl) <| AR.keep [1, 2, 3, 10, 11, 12, 13, 14, 16, 108, 109, 110, 111, 112, 113, 114, 115] rfl <| AR.op (r := bl (decide (x548.Key = key429))) rfl (aop_eql rfl rfl rfl) <| AR.op rfl (aop_pick rfl rfl rfl) ?_
               refine AR.nil ?_
               exact hK35 (true, decide (x548.Key = key429)) _ h (Weak.kt [1, 2, 3, 10, 11, 12, 13, 14, 16, 117] rfl)
              ·rw [hb547]
               replace h := Sh.if_f h hb547
               refine AR.skip rfl <| AR.keep [1, 2, 3, 10, 11, 12, 13, 14, 16, 108, 109] rfl <| AR.skip rfl <| AR.skip rfl <| AR.skip rfl <| AR.keep [1, 2, 3, 10, 11, 12, 13, 14, 16, 108, 109, 110, 111, 112] rfl <| AR.skip rfl <| AR.skip rfl ?_
               refine AR.skip rfl <| AR.keep [1, 2, 3, 10, 11, 12, 13, 14, 16, 108, 109, 110, 111, 112, 113, 114, 115] rfl <| AR.skip rfl <| AR.op rfl (aop_pick rfl rfl rfl) <| AR.nil ?_
               exact hK35 (false, false) _ h (Weak.kt [1, 2, 3, 10, 11, 12, 13, 14, 16, 117] rfl)
            ·replace h := Sh.if_f h hb535
             refine awp_exit ?_
             replace h := Sh.exit_eq h hx2
             exact hK29 a533 _ h (Weak.kt [1, 2, 3, 10, 11, 12, 13, 14] rfl)
         ·intro K36 hK36
          refine awp_seqK fun K37 hK37 => awp_reg rfl <| AR.op rfl (aop_move (.inr rfl) rfl) <| AR.nil <| hK37 _ ?_
          refine awp_block <| awp_iter (fun (p : Bool × Int) => G.inquestlaw20_SerSwaps_b3 x183 x191 key429 r474 p.1 p.2) (fun (p : Bool × Int) => (⟨[(1, .sl (List.map i64 order_1)), (2, i64 at_2), (3, .pp [.sl (List.map G.api_Txn.av h_0.Txns)] 0), (10, .pp [i64 x183.Session, .sl (List.map i64 x183.Writes), .sl (List.map G.api_Take.av x183.Reads)] 0), (11, .pp [i64 x191.Session, .sl (List.map i64 x191.Writes), .sl (List.map G.api_Take.av x191.Reads)] 0), (12, i64 key429), (13, bl r474), (14, bl p.1), (15, i64 p.2)], .empty⟩ : St)) h (Weak.kt [1, 2, 3, 10, 11, 12, 13, 14, 15] rfl) ?_
          ·skip
           rintro ⟨b562, i563⟩ o3 h hx3
           replace h : G.inquestlaw20_SerSwaps_b3 x183 x191 key429 r474 b562 i563 = some o3 := h
           unfold G.inquestlaw20_SerSwaps_b3 at h
           refine awp_seqK fun K38 hK38 => awp_seqK fun K39 hK39 => awp_reg rfl <| AR.op rfl (aop_move (.inl rfl) rfl) <| AR.op rfl (aop_field_pp rfl rfl fd36_2 (by decide)) <| AR.op (r := .sl (List.map G.api_Take.av x183.Reads)) rfl (aop_load_pp rfl rfl sz32 rfl) <| AR.keep [1, 2, 3, 10, 11, 12, 13, 14, 15, 82, 84] rfl <| AR.op rfl (t_len_sl G.api_Take.av x183.Reads rfl rfl el32) ?_
           refine AR.op rfl (aop_lss rfl rfl rfl) <| AR.nil <| hK39 _ (AWP.weak (Weak.kt [1, 2, 3, 10, 11, 12, 13, 14, 15, 86] rfl) ?_)
           refine awp_cond rfl (fun hb564 => ?_) (fun hb564 => ?_)
           ·replace h := Sh.if_t h hb564
            refine awp_skip <| hK38 _ (AWP.weak (Weak.kt [1, 2, 3, 10, 11, 12, 13, 14, 15] rfl) ?_)
            refine awp_seqK fun K40 hK40 => awp_block <| awp_seqJ (fun (p : Bool × Bool) => (⟨[(1, .sl (List.map i64 order_1)), (2, i64 at_2), (3, .pp [.sl (List.map G.api_Txn.av h_0.Txns)] 0), (10, .pp [i64 x183.Session, .sl (List.map i64 x183.Writes), .sl (List.map G.api_Take.av x183.Reads)] 0), (11, .pp [i64 x191.Session, .sl (List.map i64 x191.Writes), .sl (List.map G.api_Take.av x191.Reads)] 0), (12, i64 key429), (13, bl r474), (14, bl p.1), (15, i64 i563), (99, bl p.2)], .empty⟩ : St)) (fun (p : Bool × Bool) => G.inquestlaw20_SerSwaps_j8 i563 p.1 p.2 = some o3) ?_ ?_
            ·rintro ⟨b573, v574⟩ h
             replace h : G.inquestlaw20_SerSwaps_j8 i563 b573 v574 = some o3 := h
             unfold G.inquestlaw20_SerSwaps_j8 at h
             refine awp_cond rfl (fun hb575 => ?_) (fun hb575 => ?_)
             ·replace h := Sh.if_t h hb575
              refine awp_seqK fun K41 hK41 => awp_reg rfl <| AR.op rfl (aop_move (.inr rfl) rfl) <| AR.nil <| hK41 _ (AWP.weak (Weak.kt [6] rfl) ?_)
              refine awp_ret ?_
              replace h := Sh.exit_eq h hx3
              replace h := Sh.exit_eq h hx1
              obtain rfl := Option.some.inj h
              refine ⟨.inr rfl, bl true, rfl, ?_⟩
              exact Weak.e ⟨.k, trivial⟩
             ·replace h := Sh.if_f h hb575
              refine awp_skip <| hK40 _ (AWP.weak (Weak.kt [1, 2, 3, 10, 11, 12, 13, 14, 15] rfl) ?_)
              refine awp_reg rfl <| AR.op rfl (aop_move (.inl rfl) rfl) <| AR.op rfl (aop_add rfl rfl rfl rfl) <| AR.op rfl (aop_move (.inr rfl) rfl) <| AR.nil ?_
              replace h := Sh.next_eq h
              exact ⟨_, h, Weak.kt [1, 2, 3, 10, 11, 12, 13, 14, 15] rfl⟩
            ·intro K42 hK42
             refine awp_reg rfl <| AR.op rfl (aop_move (.inl rfl) rfl) <| AR.op rfl (aop_move (.inl rfl) rfl) ?_
             rcases Bool.eq_false_or_eq_true (b562) with hb576 | hb576
             ·rw [hb576]
              replace h := Sh.if_t h hb576
              refine AR.op rfl (aop_field_pp rfl rfl fd36_2 (by decide)) <| AR.keep [1, 2, 3, 10, 11, 12, 13, 14, 15, 90, 91] rfl <| AR.op (r := .sl (List.map G.api_Take.av x183.Reads)) rfl (aop_load_pp rfl rfl sz32 rfl) <| AR.op rfl (aop_move (.inl rfl) rfl) ?_
              obtain ⟨x577, hx577, h⟩ := Sh.bind_some' h
              obtain ⟨k578, hi578, hl578⟩ := Sh.idx_some hx577
              refine AR.op rfl (t_index_sl G.api_Take.av x183.Reads hi578 hl578 rfl rfl rfl el32 rfl) <| AR.keep [1, 2, 3, 10, 11, 12, 13, 14, 15, 90, 91, 92, 93, 94] rfl <| AR.op rfl (aop_field_pp rfl rfl fd39_0 (by decide)) <| AR.op (r := i64 x577.Key) rfl (aop_load_pp rfl rfl sz3 rfl) <| AR.op rfl (aop_move (.inl rfl) rfl) <| AR.keep [1, 2, 3, 10, 11, 12, 13, 14, 15, 90, 91, 92, 93, 94, 95, 96, 97] rfl <| AR.op (r := bl (decide (x577.Key = key429))) rfl (aop_eql rfl rfl rfl) <| AR.op rfl (aop_pick rfl rfl rfl) ?_
              refine AR.nil ?_
              exact hK42 (true, decide (x577.Key = key429)) _ h (Weak.kt [1, 2, 3, 10, 11, 12, 13, 14, 15, 99] rfl)
             ·rw [hb576]
              replace h := Sh.if_f h hb576
              refine AR.skip rfl <| AR.keep [1, 2, 3, 10, 11, 12, 13, 14, 15, 90, 91] rfl <| AR.skip rfl <| AR.skip rfl <| AR.skip rfl <| AR.keep [1, 2, 3, 10, 11, 12, 13, 14, 15, 90, 91, 92, 93, 94] rfl <| AR.skip rfl <| AR.skip rfl ?_
              refine AR.skip rfl <| AR.keep [1, 2, 3, 10, 11, 12, 13, 14, 15, 90, 91, 92, 93, 94, 95, 96, 97] rfl <| AR.skip rfl <| AR.op rfl (aop_pick rfl rfl rfl) <| AR.nil ?_
              exact hK42 (false, false) _ h (Weak.kt [1, 2, 3, 10, 11, 12, 13, 14, 15, 99] rfl)
           ·replace h := Sh.if_f h hb564
            refine awp_exit ?_
            replace h := Sh.exit_eq h hx3
            exact hK36 b562 _ h (Weak.kt [1, 2, 3, 10, 11, 12, 13, 14] rfl)
       ·replace h := Sh.if_f h hb430
        refine awp_exit ?_
        replace h := Sh.exit_eq h hx1
        exact hK20 () _ h (Weak.kt [1, 2, 3] rfl)
  ·intro K43 hK43
   refine awp_reg rfl <| AR.op rfl (aop_move (.inl rfl) rfl) <| AR.op (r := bl (!r161)) rfl (aop_not rfl rfl) <| AR.op rfl (aop_move (.inl rfl) rfl) <| AR.keep [1, 2, 3, 9, 30] rfl ?_
   rcases Bool.eq_false_or_eq_true (!r161) with hb579 | hb579
   ·rw [hb579]
    replace h := Sh.if_t h hb579
    refine AR.skip rfl <| AR.skip rfl <| AR.op rfl (aop_pick rfl rfl rfl) <| AR.keep [1, 2, 3, 33] rfl <| AR.op rfl (aop_move (.inl rfl) rfl) <| AR.skip rfl <| AR.skip rfl <| AR.keep [1, 2, 3, 34, 36] rfl ?_
    refine AR.skip rfl <| AR.op rfl (aop_pick rfl rfl rfl) <| AR.op rfl (aop_move (.inl rfl) rfl) <| AR.keep [1, 2, 3, 39] rfl <| AR.skip rfl <| AR.skip rfl <| AR.op rfl (aop_pick rfl rfl rfl) <| AR.keep [1, 2, 3, 42] rfl ?_
    refine AR.op rfl (aop_move (.inl rfl) rfl) <| AR.skip rfl <| AR.skip rfl <| AR.keep [1, 2, 3, 43, 44, 45] rfl <| AR.skip rfl <| AR.skip rfl <| AR.skip rfl <| AR.keep [1, 2, 3, 43, 48] rfl ?_
    refine AR.op rfl (aop_pick rfl rfl rfl) <| AR.nil ?_
    exact hK43 true _ h (Weak.kt [1, 2, 3, 49] rfl)
   ·rw [hb579]
    replace h := Sh.if_f h hb579
    refine AR.op rfl (aop_move (.inl rfl) rfl) <| AR.op (r := bl (!r163)) rfl (aop_not rfl rfl) <| AR.op rfl (aop_pick rfl rfl rfl) <| AR.keep [1, 2, 3, 33] rfl <| AR.op rfl (aop_move (.inl rfl) rfl) ?_
    rcases Bool.eq_false_or_eq_true (!r163) with hb580 | hb580
    ·rw [hb580]
     replace h := Sh.if_t h hb580
     refine AR.skip rfl <| AR.skip rfl <| AR.keep [1, 2, 3, 34, 36] rfl <| AR.skip rfl <| AR.op rfl (aop_pick rfl rfl rfl) <| AR.op rfl (aop_move (.inl rfl) rfl) <| AR.keep [1, 2, 3, 39] rfl <| AR.skip rfl ?_
     refine AR.skip rfl <| AR.op rfl (aop_pick rfl rfl rfl) <| AR.keep [1, 2, 3, 42] rfl <| AR.op rfl (aop_move (.inl rfl) rfl) <| AR.skip rfl <| AR.skip rfl <| AR.keep [1, 2, 3, 43, 44, 45] rfl <| AR.skip rfl ?_
     refine AR.skip rfl <| AR.skip rfl <| AR.keep [1, 2, 3, 43, 48] rfl <| AR.op rfl (aop_pick rfl rfl rfl) <| AR.nil ?_
     exact hK43 true _ h (Weak.kt [1, 2, 3, 49] rfl)
    ·rw [hb580]
     replace h := Sh.if_f h hb580
     refine AR.op (r := G.api_Hist.av h_0) rfl (aop_load_pp rfl rfl sz24 rfl) ?_
     obtain ⟨r581, hr581, h⟩ := Sh.bind_some' h
     refine AR.op (r := bl r581) rfl (aop_call1 rfl rfl (by simp) (hist_Right_ok hT hr581)) <| AR.keep [1, 2, 3, 34, 36] rfl <| AR.op (r := bl (!r581)) rfl (aop_not rfl rfl) <| AR.op rfl (aop_pick rfl rfl rfl) <| AR.op rfl (aop_move (.inl rfl) rfl) <| AR.keep [1, 2, 3, 39] rfl ?_
     rcases Bool.eq_false_or_eq_true (!r581) with hb582 | hb582
     ·rw [hb582]
      replace h := Sh.if_t h hb582
      refine AR.skip rfl <| AR.skip rfl <| AR.op rfl (aop_pick rfl rfl rfl) <| AR.keep [1, 2, 3, 42] rfl <| AR.op rfl (aop_move (.inl rfl) rfl) <| AR.skip rfl <| AR.skip rfl <| AR.keep [1, 2, 3, 43, 44, 45] rfl ?_
      refine AR.skip rfl <| AR.skip rfl <| AR.skip rfl <| AR.keep [1, 2, 3, 43, 48] rfl <| AR.op rfl (aop_pick rfl rfl rfl) <| AR.nil ?_
      exact hK43 true _ h (Weak.kt [1, 2, 3, 49] rfl)
     ·rw [hb582]
      replace h := Sh.if_f h hb582
      refine AR.op rfl (aop_move (.inl rfl) rfl) <| AR.op rfl (aop_lss rfl rfl rfl) <| AR.op rfl (aop_pick rfl rfl rfl) <| AR.keep [1, 2, 3, 42] rfl <| AR.op rfl (aop_move (.inl rfl) rfl) ?_
      rcases Bool.eq_false_or_eq_true (decide (at_2 < 0)) with hb583 | hb583
      ·rw [hb583]
       replace h := Sh.if_t h hb583
       refine AR.skip rfl <| AR.skip rfl <| AR.keep [1, 2, 3, 43, 44, 45] rfl <| AR.skip rfl <| AR.skip rfl <| AR.skip rfl <| AR.keep [1, 2, 3, 43, 48] rfl <| AR.op rfl (aop_pick rfl rfl rfl) ?_
       refine AR.nil ?_
       exact hK43 true _ h (Weak.kt [1, 2, 3, 49] rfl)
      ·rw [hb583]
       replace h := Sh.if_f h hb583
       refine AR.op rfl (aop_move (.inl rfl) rfl) <| AR.op rfl (aop_move (.inl rfl) rfl) <| AR.keep [1, 2, 3, 43, 44, 45] rfl <| AR.op rfl (t_len_sl i64 order_1 rfl rfl el25) <| AR.op rfl (aop_sub rfl rfl rfl rfl) <| AR.op rfl (aop_geq rfl rfl rfl) <| AR.keep [1, 2, 3, 43, 48] rfl <| AR.op rfl (aop_pick rfl rfl rfl) ?_
       refine AR.nil ?_
       exact hK43 (decide ((w64 ((Sh.len order_1) - 1)) ≤ at_2)) _ h (Weak.kt [1, 2, 3, 49] rfl)
theorem inquestlaw20_SerSwaps_ok {W0 : World} (hT : Tab W0) {h_0 : G.api_Hist} {order_1 : List Int} {at_2 : Int} {r : Bool} (h : G.inquestlaw20_SerSwaps h_0 order_1 at_2 = some r) : Fun1 Try.prog W0 5 [G.api_Hist.av h_0, .sl (List.map i64 order_1), i64 at_2] (bl r) := Fun1.two (inquestlaw20_SerSwaps_ok0 hT h) (by simp)

end Wk
