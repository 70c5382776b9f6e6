/- That a statement does what its plain function says. -/
import Derived.Test.YtfgndjgcfkfobaaWkIinquestlaw09
open Go Go.Av Go.Proofs
set_option linter.unusedVariables false
set_option maxHeartbeats 8000000
set_option maxRecDepth 20000
namespace Wk
theorem inquestlaw09_IndexTells_ok0 {W0 : World} (hT : Tab W0) {h_0 : G.api_Hist} {key_1 : Int} {n_2 : Int} {r : Bool} (h : G.inquestlaw09_IndexTells h_0 key_1 n_2 = some r) : Fun2 Try.prog W0 3 [G.api_Hist.av h_0, i64 key_1, i64 n_2] (bl r) .empty := by
 refine fun2_of_awp Try.func3 rfl (by kernel_rfl) Try.ntmps3 (by simp) ?_
 unfold G.inquestlaw09_IndexTells at h
 show AWP _ _ _ _ ⟨[(0, G.api_Hist.av h_0), (1, i64 key_1), (2, i64 n_2)], .empty⟩ _
 refine awp_seqK fun K1 hK1 => awp_reg rfl <| AR.op (r := .ref 0 0 0) rfl (aop_box 1 [G.api_Hist.av h_0] rfl rfl rfl (.inl ⟨rfl, rfl⟩)) <| AR.op rfl (aop_move (.inr rfl) rfl) <| AR.nil <| hK1 _ (AWP.weak (Weak.e (fr' := [(1, i64 key_1), (2, i64 n_2), (3, .pp [.sl (List.map G.api_Txn.av h_0.Txns)] 0)]) (H' := .empty) ⟨.k, .k, ⟨_, rfl, .frzA rfl rfl rfl rfl (by simp)⟩, trivial⟩) ?_)
 refine awp_seqK fun K2 hK2 => awp_reg rfl ?_
 obtain ⟨r24, hr24, h⟩ := Sh.bind_some' h
 refine AR.op (r := bl r24) rfl (aop_call1 rfl rfl (by simp) (inquestlaw09_awake_ok hT hr24)) <| AR.op rfl (aop_move (.inr rfl) rfl) <| AR.nil <| hK2 _ (AWP.weak (Weak.kt [1, 2, 3, 7] rfl) ?_)
 refine awp_seqK fun K3 hK3 => awp_seqK fun K4 hK4 => awp_reg rfl <| AR.op rfl (aop_move (.inl rfl) rfl) <| AR.op (r := bl (!r24)) rfl (aop_not rfl rfl) <| AR.nil <| hK4 _ (AWP.weak (Weak.kt [1, 2, 3, 15] rfl) ?_)
 refine awp_cond rfl (fun hb25 => ?_) (fun hb25 => ?_)
 ·replace h := Sh.if_t h hb25
  refine awp_seqK fun K5 hK5 => awp_reg rfl <| AR.op rfl (aop_move (.inr rfl) rfl) <| AR.nil <| hK5 _ (AWP.weak (Weak.kt [6] rfl) ?_)
  refine awp_ret ?_
  obtain rfl := Option.some.inj h
  refine ⟨.inr rfl, bl false, rfl, ?_⟩
  exact Weak.e ⟨.k, trivial⟩
 ·replace h := Sh.if_f h hb25
  refine awp_skip <| hK3 _ (AWP.weak (Weak.kt [1, 2, 3] rfl) ?_)
  refine awp_seqK fun K6 hK6 => awp_reg rfl <| AR.op (r := G.api_Hist.av h_0) rfl (aop_load_pp rfl rfl sz24 rfl) ?_
  obtain ⟨r27, hr27, h⟩ := Sh.bind_some' h
  refine AR.op (r := bl r27) rfl (aop_call1 rfl rfl (by simp) (inquestref08_Few_ok hT hr27)) <| AR.op rfl (aop_move (.inr rfl) rfl) <| AR.nil <| hK6 _ (AWP.weak (Weak.kt [1, 2, 3, 8] rfl) ?_)
  refine awp_seqK fun K7 hK7 => awp_seqK fun K8 hK8 => awp_reg rfl <| AR.op rfl (aop_move (.inl rfl) rfl) <| AR.op (r := bl (!r27)) rfl (aop_not rfl rfl) <| AR.nil <| hK8 _ (AWP.weak (Weak.kt [1, 2, 3, 19] rfl) ?_)
  refine awp_cond rfl (fun hb28 => ?_) (fun hb28 => ?_)
  ·replace h := Sh.if_t h hb28
   refine awp_seqK fun K9 hK9 => awp_reg rfl <| AR.op rfl (aop_move (.inr rfl) rfl) <| AR.nil <| hK9 _ (AWP.weak (Weak.kt [6] rfl) ?_)
   refine awp_ret ?_
   obtain rfl := Option.some.inj h
   refine ⟨.inr rfl, bl true, rfl, ?_⟩
   exact Weak.e ⟨.k, trivial⟩
  ·replace h := Sh.if_f h hb28
   refine awp_skip <| hK7 _ (AWP.weak (Weak.kt [1, 2, 3] rfl) ?_)
   refine awp_seqK fun K10 hK10 => awp_reg rfl <| AR.op (r := G.api_Hist.av h_0) rfl (aop_load_pp rfl rfl sz24 rfl) <| AR.op rfl (aop_move (.inl rfl) rfl) <| AR.op rfl (aop_move (.inl rfl) rfl) <| AR.keep [1, 2, 3, 21, 22, 23] rfl ?_
   obtain ⟨r30, hr30, h⟩ := Sh.bind_some' h
   refine AR.op (r := .tuple [i64 r30.1, bl r30.2]) rfl (aop_call1 rfl rfl (by simp) (index_From_ok hT hr30)) <| AR.op rfl (aop_move (.inl rfl) rfl) <| AR.op (r := i64 r30.1) rfl (aop_extract rfl rfl rfl) <| AR.keep [1, 2, 3, 20, 25] rfl <| AR.op (r := bl r30.2) rfl (aop_extract rfl rfl rfl) <| AR.op rfl (aop_move (.inr rfl) rfl) <| AR.op rfl (aop_move (.inr rfl) rfl) <| AR.nil ?_
   refine hK10 _ (AWP.weak (Weak.kt [1, 2, 3, 9, 10] rfl) ?_)
   refine awp_seqK fun K11 hK11 => awp_reg rfl <| AR.op (r := G.api_Hist.av h_0) rfl (aop_load_pp rfl rfl sz24 rfl) <| AR.op rfl (aop_move (.inl rfl) rfl) <| AR.op rfl (aop_move (.inl rfl) rfl) <| AR.keep [1, 2, 3, 9, 10, 28, 29, 30] rfl ?_
   obtain ⟨r32, hr32, h⟩ := Sh.bind_some' h
   refine AR.op (r := .tuple [i64 r32.1, bl r32.2]) rfl (aop_call1 rfl rfl (by simp) (inquestref09_From_ok hT hr32)) <| AR.op rfl (aop_move (.inl rfl) rfl) <| AR.op (r := i64 r32.1) rfl (aop_extract rfl rfl rfl) <| AR.keep [1, 2, 3, 9, 10, 27, 32] rfl <| AR.op (r := bl r32.2) rfl (aop_extract rfl rfl rfl) <| AR.op rfl (aop_move (.inr rfl) rfl) <| AR.op rfl (aop_move (.inr rfl) rfl) <| AR.nil ?_
   refine hK11 _ (AWP.weak (Weak.kt [1, 2, 3, 9, 10, 11, 12] rfl) ?_)
   refine awp_seqK fun K12 hK12 => awp_any [(true, false), (true, false), (true, false), (true, false), (true, false), (true, false), (true, false), (true, false), (true, false), (true, false), (true, false), (true, false), (true, false), (true, false), (true, false), (true, false), (true, false), (true, false), (true, false), (true, false), (true, false), (true, false), (true, false), (true, false), (true, false), (true, false), (true, false), (true, false), (true, false), (true, false), (true, false), (true, false), (true, false), (true, false), (true, false), (true, false), (true, false), (true, false), (true, false), (true, false), (true, false), (true, false), (true, false)] (by kernel_rfl) (by kernel_rfl) rfl ?_
   refine ARH.dry (r := G.api_Hist.av h_0) rfl (fun _ => aop_load_pp rfl rfl sz24 rfl) <| ARH.dry rfl (fun _ => aop_move (.inl rfl) rfl) ?_
   obtain ⟨r50, hr50, h⟩ := Sh.bind_some' h
   refine ARH.dry (r := .sl (List.map i64 r50)) rfl (fun _ => aop_call1 rfl rfl (by simp) (index_Writers_ok hT hr50)) <| ARH.keep [1, 2, 3, 9, 10, 11, 12, 36] rfl <| ARH.dry (r := G.api_Hist.av h_0) rfl (fun _ => aop_load_pp rfl rfl sz24 rfl) <| ARH.dry rfl (fun _ => aop_move (.inl rfl) rfl) ?_
   obtain ⟨r51, hr51, h⟩ := Sh.bind_some' h
   refine ARH.dry (r := .sl (List.map i64 r51)) rfl (fun _ => aop_call1 rfl rfl (by simp) (inquestref09_Writers_ok hT hr51)) <| ARH.keep [1, 2, 3, 9, 10, 11, 12, 36, 39] rfl ?_
   obtain ⟨r52, hr52, h⟩ := Sh.bind_some' h
   refine ARH.dry (r := bl r52) rfl (fun _ => aop_call1 rfl rfl (by simp) (inquestref07_Ints_ok hT hr52)) <| ARH.dry rfl (fun _ => aop_move (.inl rfl) rfl) ?_
   rcases Bool.eq_false_or_eq_true (r52) with hb53 | hb53
   ·rw [hb53]
    replace h := Sh.if_t h hb53
    refine ARH.dry (r := G.api_Hist.av h_0) rfl (fun _ => aop_load_pp rfl rfl sz24 rfl) <| ARH.keep [1, 2, 3, 9, 10, 11, 12, 41, 42] rfl <| ARH.dry rfl (fun _ => aop_move (.inl rfl) rfl) <| ARH.dry rfl (fun _ => aop_move (.inl rfl) rfl) ?_
    obtain ⟨r54, hr54, h⟩ := Sh.bind_some' h
    refine ARH.dry (r := .sl (List.map i64 r54)) rfl (fun _ => aop_call1 rfl rfl (by simp) (index_Readers_ok hT hr54)) <| ARH.keep [1, 2, 3, 9, 10, 11, 12, 41, 45] rfl <| ARH.dry (r := G.api_Hist.av h_0) rfl (fun _ => aop_load_pp rfl rfl sz24 rfl) <| ARH.dry rfl (fun _ => aop_move (.inl rfl) rfl) <| ARH.dry rfl (fun _ => aop_move (.inl rfl) rfl) <| ARH.keep [3, 9, 10, 11, 12, 41, 45, 46, 47, 48] rfl ?_
    obtain ⟨r55, hr55, h⟩ := Sh.bind_some' h
    refine ARH.dry (r := .sl (List.map i64 r55)) rfl (fun _ => aop_call1 rfl rfl (by simp) (inquestref09_Readers_ok hT hr55)) ?_
    obtain ⟨r56, hr56, h⟩ := Sh.bind_some' h
    refine ARH.dry (r := bl r56) rfl (fun _ => aop_call1 rfl rfl (by simp) (inquestref07_Ints_ok hT hr56)) <| ARH.dry rfl (fun _ => aop_pick rfl rfl rfl) <| ARH.keep [3, 9, 10, 11, 12, 51] rfl <| ARH.dry rfl (fun _ => aop_move (.inl rfl) rfl) ?_
    rcases Bool.eq_false_or_eq_true (r56) with hb57 | hb57
    ·rw [hb57]
     replace h := Sh.if_t h hb57
     refine ARH.dry (r := G.api_Hist.av h_0) rfl (fun _ => aop_load_pp rfl rfl sz24 rfl) ?_
     obtain ⟨r58, hr58, h⟩ := Sh.bind_some' h
     refine ARH.dry (r := .sl (List.map i64 r58)) rfl (fun _ => aop_call1 rfl rfl (by simp) (index_Keys_ok hT hr58)) <| ARH.keep [3, 9, 10, 11, 12, 52, 54] rfl <| ARH.dry (r := G.api_Hist.av h_0) rfl (fun _ => aop_load_pp rfl rfl sz24 rfl) ?_
     obtain ⟨r59, hr59, h⟩ := Sh.bind_some' h
     refine ARH.dry (r := .sl (List.map i64 r59)) rfl (fun _ => aop_call1 rfl rfl (by simp) (inquestref09_Keys_ok hT hr59)) ?_
     obtain ⟨r60, hr60, h⟩ := Sh.bind_some' h
     refine ARH.dry (r := bl r60) rfl (fun _ => aop_call1 rfl rfl (by simp) (inquestref07_Ints_ok hT hr60)) <| ARH.keep [3, 9, 10, 11, 12, 52, 57] rfl <| ARH.dry rfl (fun _ => aop_pick rfl rfl rfl) <| ARH.dry rfl (fun _ => aop_move (.inl rfl) rfl) ?_
     rcases Bool.eq_false_or_eq_true (r60) with hb61 | hb61
     ·rw [hb61]
      replace h := Sh.if_t h hb61
      refine ARH.dry rfl (fun _ => aop_move (.inl rfl) rfl) <| ARH.keep [3, 10, 11, 12, 59, 60] rfl <| ARH.dry rfl (fun _ => aop_move (.inl rfl) rfl) <| ARH.dry (r := bl (decide (r30.1 = r32.1))) rfl (fun _ => aop_eql rfl rfl rfl) <| ARH.dry rfl (fun _ => aop_pick rfl rfl rfl) <| ARH.keep [3, 10, 12, 63] rfl <| ARH.dry rfl (fun _ => aop_move (.inl rfl) rfl) ?_
      rcases Bool.eq_false_or_eq_true (decide (r30.1 = r32.1)) with hb62 | hb62
      ·rw [hb62]
       replace h := Sh.if_t h hb62
       refine ARH.dry rfl (fun _ => aop_move (.inl rfl) rfl) <| ARH.dry rfl (fun _ => aop_move (.inl rfl) rfl) <| ARH.keep [3, 64, 65, 66] rfl <| ARH.dry (r := bl (r30.2 == r32.2)) rfl (fun _ => aop_eqb rfl rfl rfl Try.underlying4) <| ARH.dry rfl (fun _ => aop_pick rfl rfl rfl) <| ARH.dry rfl (fun _ => aop_move (.inl rfl) rfl) <| ARH.keep [3, 69] rfl ?_
       rcases Bool.eq_false_or_eq_true (r30.2 == r32.2) with hb63 | hb63
       ·rw [hb63]
        replace h := Sh.if_t h hb63
        refine ARH.dry (r := G.api_Hist.av h_0) rfl (fun _ => aop_load_pp rfl rfl sz24 rfl) ?_
        obtain ⟨r64, hr64, h⟩ := Sh.bind_some' h
        refine ARH.dry (r := .sl (List.map G.api_Choice.av r64)) rfl (fun _ => aop_call1 rfl rfl (by simp) (index_Pairs_ok hT hr64)) <| ARH.dry (r := G.api_Hist.av h_0) rfl (fun _ => aop_load_pp rfl rfl sz24 rfl) <| ARH.keep [69, 71, 72] rfl ?_
        obtain ⟨r65, hr65, h⟩ := Sh.bind_some' h
        refine ARH.dry (r := .sl (List.map G.api_Choice.av r65)) rfl (fun _ => aop_call1 rfl rfl (by simp) (inquestref09_Pairs_ok hT hr65)) ?_
        obtain ⟨r66, hr66, h⟩ := Sh.bind_some' h
        refine ARH.dry (r := bl r66) rfl (fun _ => aop_call1 rfl rfl (by simp) (inquestref09_Choices_ok hT hr66)) <| ARH.dry rfl (fun _ => aop_pick rfl rfl rfl) <| ARH.keep [75] rfl <| ARH.dry rfl (fun _ => aop_move (.inr rfl) rfl) <| ARH.nil <| hK12 _ (AWP.weak (Weak.kt [6] rfl) ?_)
        refine awp_ret ?_
        obtain rfl := Option.some.inj h
        refine ⟨.inr rfl, bl r66, rfl, ?_⟩
        exact Weak.e ⟨.k, trivial⟩
       ·rw [hb63]
        replace h := Sh.if_f h hb63
        refine ARH.skip rfl <| ARH.skip rfl <| ARH.skip rfl <| ARH.keep [69, 71, 72] rfl <| ARH.skip rfl <| ARH.skip rfl <| ARH.dry rfl (fun _ => aop_pick rfl rfl rfl) <| ARH.keep [75] rfl ?_
        refine ARH.dry rfl (fun _ => aop_move (.inr rfl) rfl) <| ARH.nil <| hK12 _ (AWP.weak (Weak.kt [6] rfl) ?_)
        refine awp_ret ?_
        obtain rfl := Option.some.inj h
        refine ⟨.inr rfl, bl false, rfl, ?_⟩
        exact Weak.e ⟨.k, trivial⟩
      ·rw [hb62]
       replace h := Sh.if_f h hb62
       refine ARH.skip rfl <| ARH.skip rfl <| ARH.keep [3, 64, 65, 66] rfl <| ARH.skip rfl <| ARH.dry rfl (fun _ => aop_pick rfl rfl rfl) <| ARH.dry rfl (fun _ => aop_move (.inl rfl) rfl) <| ARH.keep [3, 69] rfl <| ARH.skip rfl ?_
       refine ARH.skip rfl <| ARH.skip rfl <| ARH.keep [69, 71, 72] rfl <| ARH.skip rfl <| ARH.skip rfl <| ARH.dry rfl (fun _ => aop_pick rfl rfl rfl) <| ARH.keep [75] rfl <| ARH.dry rfl (fun _ => aop_move (.inr rfl) rfl) ?_
       refine ARH.nil <| hK12 _ (AWP.weak (Weak.kt [6] rfl) ?_)
       refine awp_ret ?_
       obtain rfl := Option.some.inj h
       refine ⟨.inr rfl, bl false, rfl, ?_⟩
       exact Weak.e ⟨.k, trivial⟩
     ·rw [hb61]
      replace h := Sh.if_f h hb61
      refine ARH.skip rfl <| ARH.keep [3, 10, 11, 12, 59, 60] rfl <| ARH.skip rfl <| ARH.skip rfl <| ARH.dry rfl (fun _ => aop_pick rfl rfl rfl) <| ARH.keep [3, 10, 12, 63] rfl <| ARH.dry rfl (fun _ => aop_move (.inl rfl) rfl) <| ARH.skip rfl ?_
      refine ARH.skip rfl <| ARH.keep [3, 64, 65, 66] rfl <| ARH.skip rfl <| ARH.dry rfl (fun _ => aop_pick rfl rfl rfl) <| ARH.dry rfl (fun _ => aop_move (.inl rfl) rfl) <| ARH.keep [3, 69] rfl <| ARH.skip rfl <| ARH.skip rfl ?_
      refine ARH.skip rfl <| ARH.keep [69, 71, 72] rfl <| ARH.skip rfl <| ARH.skip rfl <| ARH.dry rfl (fun _ => aop_pick rfl rfl rfl) <| ARH.keep [75] rfl <| ARH.dry rfl (fun _ => aop_move (.inr rfl) rfl) <| ARH.nil ?_
      refine hK12 _ (AWP.weak (Weak.kt [6] rfl) ?_)
      refine awp_ret ?_
      obtain rfl := Option.some.inj h
      refine ⟨.inr rfl, bl false, rfl, ?_⟩
      exact Weak.e ⟨.k, trivial⟩
    ·rw [hb57]
     replace h := Sh.if_f h hb57
     refine ARH.skip rfl <| ARH.skip rfl <| ARH.keep [3, 9, 10, 11, 12, 52, 54] rfl <| ARH.skip rfl <| ARH.skip rfl <| ARH.skip rfl <| ARH.keep [3, 9, 10, 11, 12, 52, 57] rfl <| ARH.dry rfl (fun _ => aop_pick rfl rfl rfl) ?_
     refine ARH.dry rfl (fun _ => aop_move (.inl rfl) rfl) <| ARH.skip rfl <| ARH.keep [3, 10, 11, 12, 59, 60] rfl <| ARH.skip rfl <| ARH.skip rfl <| ARH.dry rfl (fun _ => aop_pick rfl rfl rfl) <| ARH.keep [3, 10, 12, 63] rfl <| ARH.dry rfl (fun _ => aop_move (.inl rfl) rfl) ?_
     refine ARH.skip rfl <| ARH.skip rfl <| ARH.keep [3, 64, 65, 66] rfl <| ARH.skip rfl <| ARH.dry rfl (fun _ => aop_pick rfl rfl rfl) <| ARH.dry rfl (fun _ => aop_move (.inl rfl) rfl) <| ARH.keep [3, 69] rfl <| ARH.skip rfl ?_
     refine ARH.skip rfl <| ARH.skip rfl <| ARH.keep [69, 71, 72] rfl <| ARH.skip rfl <| ARH.skip rfl <| ARH.dry rfl (fun _ => aop_pick rfl rfl rfl) <| ARH.keep [75] rfl <| ARH.dry rfl (fun _ => aop_move (.inr rfl) rfl) ?_
     refine ARH.nil <| hK12 _ (AWP.weak (Weak.kt [6] rfl) ?_)
     refine awp_ret ?_
     obtain rfl := Option.some.inj h
     refine ⟨.inr rfl, bl false, rfl, ?_⟩
     exact Weak.e ⟨.k, trivial⟩
   ·rw [hb53]
    replace h := Sh.if_f h hb53
    refine ARH.skip rfl <| ARH.keep [1, 2, 3, 9, 10, 11, 12, 41, 42] rfl <| ARH.skip rfl <| ARH.skip rfl <| ARH.skip rfl <| ARH.keep [1, 2, 3, 9, 10, 11, 12, 41, 45] rfl <| ARH.skip rfl <| ARH.skip rfl ?_
    refine ARH.skip rfl <| ARH.keep [3, 9, 10, 11, 12, 41, 45, 46, 47, 48] rfl <| ARH.skip rfl <| ARH.skip rfl <| ARH.dry rfl (fun _ => aop_pick rfl rfl rfl) <| ARH.keep [3, 9, 10, 11, 12, 51] rfl <| ARH.dry rfl (fun _ => aop_move (.inl rfl) rfl) <| ARH.skip rfl ?_
    refine ARH.skip rfl <| ARH.keep [3, 9, 10, 11, 12, 52, 54] rfl <| ARH.skip rfl <| ARH.skip rfl <| ARH.skip rfl <| ARH.keep [3, 9, 10, 11, 12, 52, 57] rfl <| ARH.dry rfl (fun _ => aop_pick rfl rfl rfl) <| ARH.dry rfl (fun _ => aop_move (.inl rfl) rfl) ?_
    refine ARH.skip rfl <| ARH.keep [3, 10, 11, 12, 59, 60] rfl <| ARH.skip rfl <| ARH.skip rfl <| ARH.dry rfl (fun _ => aop_pick rfl rfl rfl) <| ARH.keep [3, 10, 12, 63] rfl <| ARH.dry rfl (fun _ => aop_move (.inl rfl) rfl) <| ARH.skip rfl ?_
    refine ARH.skip rfl <| ARH.keep [3, 64, 65, 66] rfl <| ARH.skip rfl <| ARH.dry rfl (fun _ => aop_pick rfl rfl rfl) <| ARH.dry rfl (fun _ => aop_move (.inl rfl) rfl) <| ARH.keep [3, 69] rfl <| ARH.skip rfl <| ARH.skip rfl ?_
    refine ARH.skip rfl <| ARH.keep [69, 71, 72] rfl <| ARH.skip rfl <| ARH.skip rfl <| ARH.dry rfl (fun _ => aop_pick rfl rfl rfl) <| ARH.keep [75] rfl <| ARH.dry rfl (fun _ => aop_move (.inr rfl) rfl) <| ARH.nil ?_
    refine hK12 _ (AWP.weak (Weak.kt [6] rfl) ?_)
    refine awp_ret ?_
    obtain rfl := Option.some.inj h
    refine ⟨.inr rfl, bl false, rfl, ?_⟩
    exact Weak.e ⟨.k, trivial⟩
theorem inquestlaw09_IndexTells_ok {W0 : World} (hT : Tab W0) {h_0 : G.api_Hist} {key_1 : Int} {n_2 : Int} {r : Bool} (h : G.inquestlaw09_IndexTells h_0 key_1 n_2 = some r) : Fun1 Try.prog W0 3 [G.api_Hist.av h_0, i64 key_1, i64 n_2] (bl r) := Fun1.two (inquestlaw09_IndexTells_ok0 hT h) (by simp)

end Wk
