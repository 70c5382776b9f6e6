/- That the functions of a package do what their plain functions say. -/
import Derived.Test.YtmnmbaehidfebaaSh
import Derived.Test.YtmnmbaehidfebaaWkFFacts
import Derived.Test.YtmnmbaehidfebaaWkFinquestref09
import Derived.Test.YtmnmbaehidfebaaWkFinquestref18
open Go Go.Av Go.Proofs
set_option linter.unusedVariables false
set_option maxHeartbeats 8000000
set_option maxRecDepth 20000
namespace Wk
theorem inquestref21_some_step_ok {W0 : World} (hT : Tab W0) {self : G.api_Hist → Int → (List G.api_Choice) → (List G.api_Choice) → Option (Bool)} (ih : ∀ {h_0 : G.api_Hist} {level_1 : Int} {p_2 : List G.api_Choice} {l_3 : List G.api_Choice} {r : Bool}, self h_0 level_1 p_2 l_3 = some r → Fun1 Try.prog W0 44 [G.api_Hist.av h_0, i64 level_1, .sl (List.map G.api_Choice.av p_2), .sl (List.map G.api_Choice.av l_3)] (bl r)) {h_0 : G.api_Hist} {level_1 : Int} {p_2 : List G.api_Choice} {l_3 : List G.api_Choice} {r : Bool} (h : G.inquestref21_some_step self h_0 level_1 p_2 l_3 = some r) : Fun2 Try.prog W0 44 [G.api_Hist.av h_0, i64 level_1, .sl (List.map G.api_Choice.av p_2), .sl (List.map G.api_Choice.av l_3)] (bl r) .empty := by
 refine fun2_of_awp Try.func44 rfl (by kernel_rfl) Try.ntmps44 (by simp) ?_
 unfold G.inquestref21_some_step at h
 show AWP _ _ _ _ ⟨[(0, G.api_Hist.av h_0), (1, i64 level_1), (2, .sl (List.map G.api_Choice.av p_2)), (3, .sl (List.map G.api_Choice.av l_3))], .empty⟩ _
 refine awp_seqK fun K1 hK1 => awp_reg rfl <| AR.op (r := .ref 0 0 0) rfl (aop_box 1 [G.api_Hist.av h_0] rfl rfl rfl (.inl ⟨rfl, rfl⟩)) <| AR.op rfl (aop_move (.inr rfl) rfl) <| AR.nil <| hK1 _ (AWP.weak (Weak.e (fr' := [(1, i64 level_1), (2, .sl (List.map G.api_Choice.av p_2)), (3, .sl (List.map G.api_Choice.av l_3)), (4, .pp [.sl (List.map G.api_Txn.av h_0.Txns)] 0)]) (H' := .empty) ⟨.k, ⟨.sl (List.map G.api_Choice.av p_2), rfl, .sm⟩, ⟨.sl (List.map G.api_Choice.av l_3), rfl, .sm⟩, ⟨_, rfl, .frzA rfl rfl rfl rfl (by simp)⟩, trivial⟩) ?_)
 refine awp_seqK fun K2 hK2 => awp_seqK fun K3 hK3 => awp_reg rfl <| AR.op rfl (aop_move (.inl rfl) rfl) <| AR.op rfl (t_len_sl G.api_Choice.av l_3 rfl rfl el25) <| AR.op rfl (aop_move (.inl rfl) rfl) <| AR.keep [1, 2, 3, 4, 14, 15] rfl <| AR.op rfl (t_len_sl G.api_Choice.av p_2 rfl rfl el25) ?_
 refine AR.op (r := bl (decide ((Sh.len l_3) = (Sh.len p_2)))) rfl (aop_eql rfl rfl rfl) <| AR.nil <| hK3 _ (AWP.weak (Weak.kt [1, 2, 3, 4, 17] rfl) ?_)
 refine awp_cond rfl (fun hb12 => ?_) (fun hb12 => ?_)
 ·replace h := Sh.if_t h hb12
  refine awp_seqK fun K4 hK4 => awp_reg rfl <| AR.op (r := G.api_Hist.av h_0) rfl (aop_load_pp rfl rfl sz24 rfl) <| AR.op rfl (aop_move (.inl rfl) rfl) <| AR.op rfl (aop_move (.inl rfl) rfl) <| AR.keep [18, 19, 20] rfl ?_
  obtain ⟨r14, hr14, h⟩ := Sh.bind_some' h
  refine AR.op (r := bl r14) rfl (aop_call1 rfl rfl (by simp) (inquestref18_Good_ok hT hr14)) <| AR.op rfl (aop_move (.inr rfl) rfl) <| AR.nil <| hK4 _ (AWP.weak (Weak.kt [9] rfl) ?_)
  refine awp_seqK fun K5 hK5 => awp_reg rfl <| AR.op rfl (aop_move (.inl rfl) rfl) <| AR.op rfl (aop_move (.inr rfl) rfl) <| AR.nil <| hK5 _ (AWP.weak (Weak.kt [8] rfl) ?_)
  refine awp_ret ?_
  obtain rfl := Option.some.inj h
  refine ⟨.inr rfl, bl r14, rfl, ?_⟩
  exact Weak.e ⟨.k, trivial⟩
 ·replace h := Sh.if_f h hb12
  refine awp_skip <| hK2 _ (AWP.weak (Weak.kt [1, 2, 3, 4] rfl) ?_)
  refine awp_seqK fun K6 hK6 => awp_reg rfl <| AR.op rfl (aop_move (.inl rfl) rfl) <| AR.op rfl (aop_move (.inl rfl) rfl) <| AR.op rfl (t_len_sl G.api_Choice.av l_3 rfl rfl el25) <| AR.keep [1, 2, 3, 4, 23, 25] rfl ?_
  obtain ⟨x17, hx17, h⟩ := Sh.bind_some' h
  obtain ⟨k18, hi18, hl18⟩ := Sh.idx_some hx17
  refine AR.op rfl (t_index_sl G.api_Choice.av p_2 hi18 hl18 rfl rfl rfl el25 rfl) <| AR.op (r := G.api_Choice.av x17) rfl (aop_load_pp rfl rfl sz42 rfl) <| AR.op (r := .ref 0 0 0) rfl (aop_alloc 3 [.agg [i64 0, i64 0, i64 0]] rfl zr42 (by kernel_rfl) (.inl ⟨rfl, rfl⟩)) <| AR.keep [1, 2, 3, 4, 27, 10] rfl <| AR.op rfl (aop_store (e' := G.api_Choice.av x17) rfl rfl rfl rfl rfl rfl sz42 rfl dt rfl) <| AR.nil <| hK6 _ (AWP.weak (Weak.e (fr' := [(1, i64 level_1), (2, .sl (List.map G.api_Choice.av p_2)), (3, .sl (List.map G.api_Choice.av l_3)), (4, .pp [.sl (List.map G.api_Txn.av h_0.Txns)] 0), (10, .pp [i64 x17.Key, i64 x17.A, i64 x17.B] 0)]) (H' := .empty) ⟨.k, ⟨.sl (List.map G.api_Choice.av p_2), rfl, .sm⟩, ⟨.sl (List.map G.api_Choice.av l_3), rfl, .sm⟩, .k, ⟨_, rfl, .frzA rfl rfl rfl rfl (by simp)⟩, trivial⟩) ?_)
  refine awp_seqK fun K7 hK7 => awp_reg rfl <| AR.op rfl (aop_move (.inr rfl) rfl) <| AR.nil <| hK7 _ ?_
  refine awp_seqK fun K8 hK8 => awp_reg rfl <| AR.op rfl (aop_move (.inl rfl) rfl) <| AR.op rfl (aop_move (.inl rfl) rfl) ?_
  obtain ⟨one20, hone20, h⟩ := Sh.bind_some' h
  refine AR.op (r := .view 0 0 (List.map G.api_Choice.av one20).length) rfl (t_app_nil G.api_Choice.av l_3 one20 hone20 et25 (fun _ => rfl) rfl rfl rfl rfl rfl) <| AR.keep [1, 2, 3, 4, 10, 30] rfl <| AR.op rfl (aop_move (.inr rfl) rfl) <| AR.nil <| hK8 _ (AWP.weak (Weak.kt [1, 2, 3, 4, 10, 11] rfl) ?_)
  refine awp_seqK fun K9 hK9 => awp_reg rfl <| AR.op rfl (aop_move (.inl rfl) rfl) <| AR.op (r := G.api_Choice.av x17) rfl (aop_load_pp rfl rfl sz42 rfl) <| AR.op (r := .clip (List.map G.api_Choice.av ([x17] : List G.api_Choice))) rfl (aop_buildSlice rfl (xo := [.tmp 32]) rfl rfl rfl (by simp) (by simp) el25 ze25 (by decide)) <| AR.keep [1, 2, 3, 4, 10, 31, 33] rfl ?_
  obtain ⟨one22, hone22, h⟩ := Sh.bind_some' h
  refine AR.op (r := .view 1 0 (List.map G.api_Choice.av one22).length) rfl (t_app_view G.api_Choice.av one20 ([x17] : List G.api_Choice) one22 hone22 rfl et25 (fun _ => rfl) rfl rfl rfl rfl rfl rfl rfl) <| AR.op rfl (aop_move (.inr rfl) rfl) <| AR.nil <| hK9 _ (AWP.weak (Weak.re (fr' := [(1, i64 level_1), (2, .sl (List.map G.api_Choice.av p_2)), (3, .sl (List.map G.api_Choice.av l_3)), (4, .pp [.sl (List.map G.api_Txn.av h_0.Txns)] 0), (10, .pp [i64 x17.Key, i64 x17.A, i64 x17.B] 0), (11, .view 0 0 (List.map G.api_Choice.av one22).length)]) (H' := ⟨1, [(0, (3, List.map G.api_Choice.av one22))], []⟩) [(0, 1)] [] rfl rfl rfl (.cons rfl rfl (.same (by simp)) dt trivial) ⟨.k, ⟨.sl (List.map G.api_Choice.av p_2), rfl, .sm⟩, ⟨.sl (List.map G.api_Choice.av l_3), rfl, .sm⟩, .k, .k, ⟨_, rfl, .view rfl⟩, trivial⟩) ?_)
  refine awp_seqK fun K10 hK10 => awp_reg rfl <| AR.op (r := G.api_Hist.av h_0) rfl (aop_load_pp rfl rfl sz24 rfl) <| AR.op rfl (aop_move (.inl rfl) rfl) <| AR.op rfl (aop_move (.inl rfl) rfl) <| AR.keep [1, 2, 3, 4, 10, 11, 35, 36, 37] rfl <| AR.op rfl (aop_move (.inl rfl) rfl) ?_
  obtain ⟨r24, hr24, h⟩ := Sh.bind_some' h
  refine AR.op (r := bl r24) rfl (aop_callL rfl (ys := [G.api_Hist.av h_0, i64 level_1, .sl (List.map G.api_Choice.av p_2), .view 0 0 (List.map G.api_Choice.av one22).length]) (xs := [G.api_Hist.av h_0, i64 level_1, .sl (List.map G.api_Choice.av p_2), .sl (List.map G.api_Choice.av one22)]) rfl (Weak.e (fr' := argsFr 0 [G.api_Hist.av h_0, i64 level_1, .sl (List.map G.api_Choice.av p_2), .sl (List.map G.api_Choice.av one22)]) (H' := .empty) ⟨⟨G.api_Hist.av h_0, rfl, .sm⟩, .k, ⟨.sl (List.map G.api_Choice.av p_2), rfl, .sm⟩, ⟨_, rfl, .lendAll rfl rfl (by simp)⟩, trivial⟩) rfl (ih hr24) (by simp)) <| AR.op rfl (aop_move (.inr rfl) rfl) <| AR.nil <| hK10 _ (AWP.weak (Weak.kt [1, 2, 3, 4, 10, 11, 12] rfl) ?_)
  refine awp_seqK fun K11 hK11 => awp_seqK fun K12 hK12 => awp_reg rfl <| AR.op rfl (aop_move (.inl rfl) rfl) <| AR.nil <| hK12 _ (AWP.weak (Weak.kt [1, 2, 3, 4, 10, 11, 40] rfl) ?_)
  refine awp_cond rfl (fun hb25 => ?_) (fun hb25 => ?_)
  ·replace h := Sh.if_t h hb25
   refine awp_seqK fun K13 hK13 => awp_reg rfl <| AR.op rfl (aop_move (.inr rfl) rfl) <| AR.nil <| hK13 _ (AWP.weak (Weak.e (fr' := [(8, bl true)]) (H' := .empty) ⟨.k, trivial⟩) ?_)
   refine awp_ret ?_
   obtain rfl := Option.some.inj h
   refine ⟨.inr rfl, bl true, rfl, ?_⟩
   exact Weak.e ⟨.k, trivial⟩
  ·replace h := Sh.if_f h hb25
   refine awp_skip <| hK11 _ (AWP.weak (Weak.kt [1, 2, 3, 4, 10, 11] rfl) ?_)
   refine awp_seqK fun K14 hK14 => awp_reg rfl <| AR.op rfl (aop_move (.inl rfl) rfl) <| AR.op rfl (aop_move (.inl rfl) rfl) <| AR.op rfl (t_len_sl G.api_Choice.av l_3 rfl rfl el25) <| AR.keep [1, 2, 4, 10, 11, 41, 43] rfl <| AR.op (r := G.api_Choice.av x17) rfl (aop_load_pp rfl rfl sz42 rfl) ?_
   obtain ⟨r29, hr29, h⟩ := Sh.bind_some' h
   refine AR.op (r := G.api_Choice.av r29) rfl (aop_call1 rfl rfl (by simp) (inquestref18_Back_ok hT hr29)) ?_
   obtain ⟨x30, hx30, h⟩ := Sh.bind_some' h
   obtain ⟨k31, hi31, hl31⟩ := Sh.idx_some hx30
   refine AR.op (r := .ref 0 k31 0) rfl (t_index_view G.api_Choice.av one22 hi31 hl31 rfl rfl rfl rfl rfl el25 rfl) <| AR.keep [1, 2, 4, 11, 45, 46] rfl <| AR.op rfl (t_store_el G.api_Choice.av one22 r29 hi31 hl31 rfl rfl rfl rfl rfl sz42 rfl dt rfl) <| AR.nil <| hK14 _ (AWP.weak (Weak.e (fr' := [(1, i64 level_1), (2, .sl (List.map G.api_Choice.av p_2)), (4, .pp [.sl (List.map G.api_Txn.av h_0.Txns)] 0), (11, .sl (List.map G.api_Choice.av (Sh.set one22 (Sh.len l_3) r29)))]) (H' := .empty) ⟨.k, ⟨.sl (List.map G.api_Choice.av p_2), rfl, .sm⟩, .k, ⟨_, rfl, .lendL rfl rfl (by simp []) (by simp)⟩, trivial⟩) ?_)
   refine awp_seqK fun K15 hK15 => awp_reg rfl <| AR.op (r := G.api_Hist.av h_0) rfl (aop_load_pp rfl rfl sz24 rfl) <| AR.op rfl (aop_move (.inl rfl) rfl) <| AR.op rfl (aop_move (.inl rfl) rfl) <| AR.keep [11, 47, 48, 49] rfl <| AR.op rfl (aop_move (.inl rfl) rfl) ?_
   obtain ⟨r33, hr33, h⟩ := Sh.bind_some' h
   refine AR.op (r := bl r33) rfl (aop_call1 rfl rfl (by simp) (ih hr33)) <| AR.op rfl (aop_move (.inr rfl) rfl) <| AR.nil <| hK15 _ (AWP.weak (Weak.kt [12] rfl) ?_)
   refine awp_seqK fun K16 hK16 => awp_reg rfl <| AR.op rfl (aop_move (.inl rfl) rfl) <| AR.op rfl (aop_move (.inr rfl) rfl) <| AR.nil <| hK16 _ (AWP.weak (Weak.kt [8] rfl) ?_)
   refine awp_ret ?_
   obtain rfl := Option.some.inj h
   refine ⟨.inr rfl, bl r33, rfl, ?_⟩
   exact Weak.e ⟨.k, trivial⟩
theorem inquestref21_some_fuel {W0 : World} (hT : Tab W0) : ∀ (n : Nat) {h_0 : G.api_Hist} {level_1 : Int} {p_2 : List G.api_Choice} {l_3 : List G.api_Choice} {r : Bool}, G.inquestref21_some_n n h_0 level_1 p_2 l_3 = some r → Fun1 Try.prog W0 44 [G.api_Hist.av h_0, i64 level_1, .sl (List.map G.api_Choice.av p_2), .sl (List.map G.api_Choice.av l_3)] (bl r) := by
 intro n
 induction n with
 | zero => intro _ _ _ _ _ h; cases h
 | succ n ih => intro _ _ _ _ _ h; exact Fun1.two (inquestref21_some_step_ok hT ih h) (by simp)
theorem inquestref21_some_ok {W0 : World} (hT : Tab W0) {h_0 : G.api_Hist} {level_1 : Int} {p_2 : List G.api_Choice} {l_3 : List G.api_Choice} {r : Bool} (h : G.inquestref21_some h_0 level_1 p_2 l_3 = some r) : Fun1 Try.prog W0 44 [G.api_Hist.av h_0, i64 level_1, .sl (List.map G.api_Choice.av p_2), .sl (List.map G.api_Choice.av l_3)] (bl r) := inquestref21_some_fuel hT _ h


theorem inquestref21_Has_ok0 {W0 : World} (hT : Tab W0) {h_0 : G.api_Hist} {level_1 : Int} {r : Bool} (h : G.inquestref21_Has h_0 level_1 = some r) : Fun2 Try.prog W0 19 [G.api_Hist.av h_0, i64 level_1] (bl r) .empty := by
 refine fun2_of_awp Try.func19 rfl (by kernel_rfl) Try.ntmps19 (by simp) ?_
 unfold G.inquestref21_Has at h
 show AWP _ _ _ _ ⟨[(0, G.api_Hist.av h_0), (1, i64 level_1)], .empty⟩ _
 refine awp_seqK fun K1 hK1 => awp_reg rfl <| AR.op (r := .ref 0 0 0) rfl (aop_box 1 [G.api_Hist.av h_0] rfl rfl rfl (.inl ⟨rfl, rfl⟩)) <| AR.op rfl (aop_move (.inr rfl) rfl) <| AR.nil <| hK1 _ (AWP.weak (Weak.e (fr' := [(1, i64 level_1), (2, .pp [.sl (List.map G.api_Txn.av h_0.Txns)] 0)]) (H' := .empty) ⟨.k, ⟨_, rfl, .frzA rfl rfl rfl rfl (by simp)⟩, trivial⟩) ?_)
 refine awp_seqK fun K2 hK2 => awp_any [(true, false), (true, false), (true, false), (true, false), (true, false), (true, false)] (by kernel_rfl) (by kernel_rfl) rfl ?_
 refine ARH.dry (r := G.api_Hist.av h_0) rfl (fun _ => aop_load_pp rfl rfl sz24 rfl) <| ARH.dry rfl (fun _ => aop_move (.inl rfl) rfl) <| ARH.dry (r := G.api_Hist.av h_0) rfl (fun _ => aop_load_pp rfl rfl sz24 rfl) <| ARH.keep [5, 6, 7] rfl ?_
 obtain ⟨r5, hr5, h⟩ := Sh.bind_some' h
 refine ARH.dry (r := .sl (List.map G.api_Choice.av r5)) rfl (fun _ => aop_call1 rfl rfl (by simp) (inquestref09_Pairs_ok hT hr5)) ?_
 obtain ⟨r6, hr6, h⟩ := Sh.bind_some' h
 refine ARH.dry (r := bl r6) rfl (fun _ => aop_callN rfl (ys := [G.api_Hist.av h_0, i64 level_1, .sl (List.map G.api_Choice.av r5), nilS]) (xs := [G.api_Hist.av h_0, i64 level_1, .sl (List.map G.api_Choice.av r5), .sl (List.map G.api_Choice.av [])]) rfl (Weak.e (fr' := argsFr 0 [G.api_Hist.av h_0, i64 level_1, .sl (List.map G.api_Choice.av r5), .sl (List.map G.api_Choice.av [])]) (H' := .empty) ⟨⟨G.api_Hist.av h_0, rfl, .sm⟩, .k, ⟨.sl (List.map G.api_Choice.av r5), rfl, .sm⟩, ⟨_, rfl, .nilsl⟩, trivial⟩) rfl (by simp) (inquestref21_some_ok hT hr6)) <| ARH.dry rfl (fun _ => aop_move (.inr rfl) rfl) <| ARH.nil <| hK2 _ (AWP.weak (Weak.kt [4] rfl) ?_)
 refine awp_ret ?_
 obtain rfl := Option.some.inj h
 refine ⟨.inr rfl, bl r6, rfl, ?_⟩
 exact Weak.e ⟨.k, trivial⟩
theorem inquestref21_Has_ok {W0 : World} (hT : Tab W0) {h_0 : G.api_Hist} {level_1 : Int} {r : Bool} (h : G.inquestref21_Has h_0 level_1 = some r) : Fun1 Try.prog W0 19 [G.api_Hist.av h_0, i64 level_1] (bl r) := Fun1.two (inquestref21_Has_ok0 hT h) (by simp)

end Wk
