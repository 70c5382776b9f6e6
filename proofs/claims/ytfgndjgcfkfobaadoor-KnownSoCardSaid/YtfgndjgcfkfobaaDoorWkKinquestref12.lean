/- That the functions of a package do what their plain functions say. -/
import Derived.Test.YtfgndjgcfkfobaaDoorSh
import Derived.Test.YtfgndjgcfkfobaaDoorWkKFacts
import Derived.Test.YtfgndjgcfkfobaaDoorWkKinquestref10
open Go Go.Av Go.Proofs
set_option linter.unusedVariables false
set_option maxHeartbeats 8000000
set_option maxRecDepth 20000
namespace Wk
theorem inquestref12_Same_ok0 {W0 : World} (hT : Tab W0) {a_0 : G.inquestref12_G} {b_1 : G.inquestref12_G} {r : Bool} (h : G.inquestref12_Same a_0 b_1 = some r) : Fun2 Tryd.prog W0 18 [G.inquestref12_G.av a_0, G.inquestref12_G.av b_1] (bl r) .empty := by
 refine fun2_of_awp Tryd.func18 rfl (by kernel_rfl) Tryd.ntmps18 (by simp) ?_
 unfold G.inquestref12_Same at h
 show AWP _ _ _ _ ⟨[(0, G.inquestref12_G.av a_0), (1, G.inquestref12_G.av b_1)], .empty⟩ _
 refine awp_seqK fun K1 hK1 => awp_reg rfl <| AR.op (r := .ref 0 0 0) rfl (aop_box 2 [G.inquestref12_G.av a_0] rfl rfl rfl (.inl ⟨rfl, rfl⟩)) <| AR.op (r := .ref 1 0 0) rfl (aop_box 2 [G.inquestref12_G.av b_1] rfl rfl rfl (.inl ⟨rfl, rfl⟩)) <| AR.op rfl (aop_move (.inr rfl) rfl) <| AR.nil <| hK1 _ (AWP.weak (Weak.e (fr' := [(2, .pp [i64 a_0.N, .sl (List.map u64 a_0.Rows)] 0), (3, .pp [i64 b_1.N, .sl (List.map u64 b_1.Rows)] 0)]) (H' := .empty) ⟨⟨_, rfl, .frzA rfl rfl rfl rfl (by simp)⟩, ⟨_, rfl, .frzA rfl rfl rfl rfl (by simp)⟩, trivial⟩) ?_)
 refine awp_seqK fun K2 hK2 => awp_seqJ (fun (p : Bool) => (⟨[(2, .pp [i64 a_0.N, .sl (List.map u64 a_0.Rows)] 0), (3, .pp [i64 b_1.N, .sl (List.map u64 b_1.Rows)] 0), (19, bl p)], .empty⟩ : St)) (fun (p : Bool) => G.inquestref12_Same_j1 a_0 b_1 p = some r) ?_ ?_
 ·rintro v20 h
  replace h : G.inquestref12_Same_j1 a_0 b_1 v20 = some r := h
  unfold G.inquestref12_Same_j1 at h
  show AWP _ _ _ _ ⟨[(2, .pp [i64 a_0.N, .sl (List.map u64 a_0.Rows)] 0), (3, .pp [i64 b_1.N, .sl (List.map u64 b_1.Rows)] 0), (19, bl v20)], .empty⟩ _
  refine awp_cond rfl (fun hb21 => ?_) (fun hb21 => ?_)
  ·replace h := Sh.if_t h hb21
   refine awp_seqK fun K3 hK3 => awp_reg rfl <| AR.op rfl (aop_move (.inr rfl) rfl) <| AR.nil <| hK3 _ (AWP.weak (Weak.kt [4] rfl) ?_)
   refine awp_ret ?_
   obtain rfl := Option.some.inj h
   refine ⟨.inr rfl, bl false, rfl, ?_⟩
   exact Weak.e ⟨.k, trivial⟩
  ·replace h := Sh.if_f h hb21
   refine awp_skip <| hK2 _ (AWP.weak (Weak.kt [2, 3] rfl) ?_)
   refine awp_seqJ (fun (p : Unit) => (⟨[], .empty⟩ : St)) (fun (p : Unit) => G.inquestref12_Same_j2 = some r) ?_ ?_
   ·rintro ⟨⟩ h
    replace h : G.inquestref12_Same_j2 = some r := h
    unfold G.inquestref12_Same_j2 at h
    show AWP _ _ _ _ ⟨[], .empty⟩ _
    refine awp_seqK fun K4 hK4 => awp_reg rfl <| AR.op rfl (aop_move (.inr rfl) rfl) <| AR.nil <| hK4 _ ?_
    refine awp_ret ?_
    obtain rfl := Option.some.inj h
    refine ⟨.inr rfl, bl true, rfl, ?_⟩
    exact Weak.e ⟨.k, trivial⟩
   ·intro K5 hK5
    refine awp_seqK fun K6 hK6 => awp_reg rfl <| AR.op rfl (aop_move (.inr rfl) rfl) <| AR.nil <| hK6 _ ?_
    refine awp_block <| awp_iter (fun (p : Int) => G.inquestref12_Same_b1 a_0 b_1 p) (fun (p : Int) => (⟨[(2, .pp [i64 a_0.N, .sl (List.map u64 a_0.Rows)] 0), (3, .pp [i64 b_1.N, .sl (List.map u64 b_1.Rows)] 0), (5, i64 p)], .empty⟩ : St)) h (Weak.kt [2, 3, 5] rfl) ?_
    ·skip
     rintro i45 o1 h hx1
     replace h : G.inquestref12_Same_b1 a_0 b_1 i45 = some o1 := h
     unfold G.inquestref12_Same_b1 at h
     show AWP _ _ _ _ ⟨[(2, .pp [i64 a_0.N, .sl (List.map u64 a_0.Rows)] 0), (3, .pp [i64 b_1.N, .sl (List.map u64 b_1.Rows)] 0), (5, i64 i45)], .empty⟩ _
     refine awp_seqK fun K7 hK7 => awp_seqK fun K8 hK8 => awp_reg rfl <| AR.op rfl (aop_move (.inl rfl) rfl) <| AR.op rfl (aop_field_pp rfl rfl fd29_1 (by decide)) <| AR.op (r := .sl (List.map u64 a_0.Rows)) rfl (aop_load_pp rfl rfl sz27 rfl) <| AR.keep [2, 3, 5, 20, 22] rfl <| AR.op rfl (t_len_sl u64 a_0.Rows rfl rfl el27) ?_
     refine AR.op rfl (aop_lss rfl rfl rfl) <| AR.nil <| hK8 _ (AWP.weak (Weak.kt [2, 3, 5, 24] rfl) ?_)
     refine awp_cond rfl (fun hb46 => ?_) (fun hb46 => ?_)
     ·replace h := Sh.if_t h hb46
      refine awp_skip <| hK7 _ (AWP.weak (Weak.kt [2, 3, 5] rfl) ?_)
      refine awp_seqK fun K9 hK9 => awp_block <| awp_seqK fun K10 hK10 => awp_any [(true, false), (true, false), (true, false), (true, false), (true, false), (true, false), (true, false), (true, false), (true, false), (true, false), (true, false)] (by kernel_rfl) (by kernel_rfl) rfl ?_
      refine ARH.dry rfl (fun _ => aop_field_pp rfl rfl fd29_1 (by decide)) <| ARH.dry (r := .sl (List.map u64 a_0.Rows)) rfl (fun _ => aop_load_pp rfl rfl sz27 rfl) <| ARH.dry rfl (fun _ => aop_move (.inl rfl) rfl) <| ARH.keep [2, 3, 5, 28, 29] rfl ?_
      obtain ⟨x55, hx55, h⟩ := Sh.bind_some' h
      obtain ⟨k56, hi56, hl56⟩ := Sh.idx_some hx55
      refine ARH.dry rfl (fun _ => t_index_sl u64 a_0.Rows hi56 hl56 rfl rfl rfl el27 rfl) <| ARH.dry (r := u64 x55) rfl (fun _ => aop_load_pp rfl rfl sz61 rfl) <| ARH.dry rfl (fun _ => aop_field_pp rfl rfl fd29_1 (by decide)) <| ARH.keep [2, 3, 5, 31, 32] rfl <| ARH.dry (r := .sl (List.map u64 b_1.Rows)) rfl (fun _ => aop_load_pp rfl rfl sz27 rfl) <| ARH.dry rfl (fun _ => aop_move (.inl rfl) rfl) ?_
      obtain ⟨x57, hx57, h⟩ := Sh.bind_some' h
      obtain ⟨k58, hi58, hl58⟩ := Sh.idx_some hx57
      refine ARH.dry rfl (fun _ => t_index_sl u64 b_1.Rows hi58 hl58 rfl rfl rfl el27 rfl) <| ARH.keep [2, 3, 5, 31, 35] rfl <| ARH.dry (r := u64 x57) rfl (fun _ => aop_load_pp rfl rfl sz61 rfl) <| ARH.dry (r := bl (decide (x55 ≠ x57))) rfl (fun _ => aop_neq64 (a := x55) (b := x57) rfl rfl rfl) <| ARH.nil <| hK10 _ (AWP.weak (Weak.kt [2, 3, 5, 37] rfl) ?_)
      refine awp_cond rfl (fun hb59 => ?_) (fun hb59 => ?_)
      ·replace h := Sh.if_t h hb59
       refine awp_seqK fun K11 hK11 => awp_reg rfl <| AR.op rfl (aop_move (.inr rfl) rfl) <| AR.nil <| hK11 _ (AWP.weak (Weak.kt [4] rfl) ?_)
       refine awp_ret ?_
       replace h := Sh.exit_eq h hx1
       obtain rfl := Option.some.inj h
       refine ⟨.inr rfl, bl false, rfl, ?_⟩
       exact Weak.e ⟨.k, trivial⟩
      ·replace h := Sh.if_f h hb59
       refine awp_skip <| hK9 _ (AWP.weak (Weak.kt [2, 3, 5] rfl) ?_)
       refine awp_reg rfl <| AR.op rfl (aop_move (.inl rfl) rfl) <| AR.op rfl (aop_add rfl rfl rfl rfl) <| AR.op rfl (aop_move (.inr rfl) rfl) <| AR.nil ?_
       replace h := Sh.next_eq h
       exact ⟨_, h, Weak.e (fr' := [(2, .pp [i64 a_0.N, .sl (List.map u64 a_0.Rows)] 0), (3, .pp [i64 b_1.N, .sl (List.map u64 b_1.Rows)] 0), (5, i64 (w64 (i45 + 1)))]) (H' := .empty) ⟨.k, .k, .k, trivial⟩⟩
     ·replace h := Sh.if_f h hb46
      refine awp_exit ?_
      replace h := Sh.exit_eq h hx1
      exact hK5 () _ h (Weak.kt [] rfl)
 ·intro K12 hK12
  refine awp_reg rfl <| AR.op rfl (aop_field_pp rfl rfl fd29_0 (by decide)) <| AR.op (r := i64 a_0.N) rfl (aop_load_pp rfl rfl sz3 rfl) <| AR.op rfl (aop_field_pp rfl rfl fd29_0 (by decide)) <| AR.keep [2, 3, 7, 8] rfl <| AR.op (r := i64 b_1.N) rfl (aop_load_pp rfl rfl sz3 rfl) <| AR.op (r := bl (decide (a_0.N ≠ b_1.N))) rfl (aop_neq rfl rfl rfl) <| AR.op rfl (aop_move (.inl rfl) rfl) ?_
  refine AR.keep [2, 3, 11] rfl ?_
  rcases Bool.eq_false_or_eq_true (decide (a_0.N ≠ b_1.N)) with hb60 | hb60
  ·rw [hb60]
   replace h := Sh.if_t h hb60
   refine AR.skip rfl <| AR.skip rfl <| AR.skip rfl <| AR.keep [2, 3, 11, 14] rfl <| AR.skip rfl <| AR.skip rfl <| AR.skip rfl <| AR.keep [2, 3, 11, 14, 17] rfl ?_
   refine AR.skip rfl <| AR.op rfl (aop_pick rfl rfl rfl) <| AR.nil ?_
   exact hK12 true _ h (Weak.kt [2, 3, 19] rfl)
  ·rw [hb60]
   replace h := Sh.if_f h hb60
   refine AR.op rfl (aop_field_pp rfl rfl fd29_1 (by decide)) <| AR.op (r := .sl (List.map u64 a_0.Rows)) rfl (aop_load_pp rfl rfl sz27 rfl) <| AR.op rfl (t_len_sl u64 a_0.Rows rfl rfl el27) <| AR.keep [2, 3, 11, 14] rfl <| AR.op rfl (aop_field_pp rfl rfl fd29_1 (by decide)) <| AR.op (r := .sl (List.map u64 b_1.Rows)) rfl (aop_load_pp rfl rfl sz27 rfl) <| AR.op rfl (t_len_sl u64 b_1.Rows rfl rfl el27) <| AR.keep [2, 3, 11, 14, 17] rfl ?_
   refine AR.op (r := bl (decide ((Sh.len a_0.Rows) ≠ (Sh.len b_1.Rows)))) rfl (aop_neq rfl rfl rfl) <| AR.op rfl (aop_pick rfl rfl rfl) <| AR.nil ?_
   exact hK12 (decide ((Sh.len a_0.Rows) ≠ (Sh.len b_1.Rows))) _ h (Weak.e (fr' := [(2, .pp [i64 a_0.N, .sl (List.map u64 a_0.Rows)] 0), (3, .pp [i64 b_1.N, .sl (List.map u64 b_1.Rows)] 0), (19, bl (decide ((Sh.len a_0.Rows) ≠ (Sh.len b_1.Rows))))]) (H' := .empty) ⟨.k, .k, .k, trivial⟩)
theorem inquestref12_Same_ok {W0 : World} (hT : Tab W0) {a_0 : G.inquestref12_G} {b_1 : G.inquestref12_G} {r : Bool} (h : G.inquestref12_Same a_0 b_1 = some r) : Fun1 Tryd.prog W0 18 [G.inquestref12_G.av a_0, G.inquestref12_G.av b_1] (bl r) := Fun1.two (inquestref12_Same_ok0 hT h) (by simp)


end Wk
