/- That the functions of a package do what their plain functions say. -/
import Derived.Test.YtdeepljikmgjjaaSh
import Derived.Test.YtdeepljikmgjjaaWkSFacts
import Derived.Test.YtdeepljikmgjjaaWkSstdslices
open Go Go.Av Go.Proofs
set_option linter.unusedVariables false
set_option maxHeartbeats 8000000
set_option maxRecDepth 20000
namespace Wk
theorem hist_faults_ok {W0 : World} (hT : Tab W0) {h_0 : G.api_Hist} {r : Unit} (h : G.hist_faults h_0 = some r) : Fun3 Try.prog (.pinned W0 0) 38 [G.api_Hist.av h_0] .empty (.clo (.func 48) [.pp [.sl (List.map G.api_Txn.av h_0.Txns)] 0]) .empty := by
 refine fun3_of_awp rfl Try.func38 rfl (by kernel_rfl) Try.ntmps38 (by simp) ?_
 unfold G.hist_faults at h
 show AWP _ _ _ _ ⟨[(0, G.api_Hist.av h_0)], .empty⟩ _
 refine awp_seqK fun K1 hK1 => awp_reg rfl <| AR.op (r := .ref 0 0 0) rfl (aop_box 1 [G.api_Hist.av h_0] rfl rfl rfl (.inl ⟨rfl, rfl⟩)) <| AR.op rfl (aop_move (.inr rfl) rfl) <| AR.nil <| hK1 _ (AWP.weak (Weak.e (fr' := [(1, .pp [.sl (List.map G.api_Txn.av h_0.Txns)] 0)]) (H' := .empty) ⟨⟨_, rfl, .frzA rfl rfl rfl rfl (by simp)⟩, trivial⟩) ?_)
 refine awp_seqK fun K2 hK2 => awp_reg rfl <| AR.op (r := .clo (.func 48) [.pp [.sl (List.map G.api_Txn.av h_0.Txns)] 0]) rfl (aop_makeFunc rfl rfl) <| AR.op rfl (aop_move (.inr rfl) rfl) <| AR.nil <| hK2 _ (AWP.weak (Weak.kt [2] rfl) ?_)
 refine awp_ret ?_
 obtain rfl := Option.some.inj h
 refine ⟨.inr rfl, .clo (.func 48) [.pp [.sl (List.map G.api_Txn.av h_0.Txns)] 0], rfl, ?_⟩
 exact Weak.e ⟨⟨.clo (.func 48) [.pp [.sl (List.map G.api_Txn.av h_0.Txns)] 0], rfl, .sm⟩, trivial⟩


theorem hist_Right__r_ok {W0 : World} (hT : Tab W0) {l : Nat} {rec : Loop} (hrec : RecAt rec Try.f25 0 9) {c_0 : Bool} {y_1 : Bool} {r : Bool × Bool} (h : G.hist_Right__r c_0 y_1 = some r) : Round3 Try.prog W0 1 l rec [(2, .ref 0 0 0)] [bl y_1] ⟨1, [(0, (1, [bl c_0]))], [(l, rec)]⟩ r.2 ⟨1, [(0, (1, [bl r.1]))], [(l, lpst rec .ret r.2)]⟩ := by
 refine round3_of_awp hrec rfl rfl rfl rfl (by decide) ?_
 unfold G.hist_Right__r at h
 show AWP _ _ _ _ ⟨[(6, bl y_1), (2, .ref 0 0 0)], ⟨1, [(0, (1, [bl c_0]))], [(l, rec)]⟩⟩ _
 refine awp_reg rfl <| AR.op rfl (aop_move (.inr rfl) rfl) <| AR.nil <| ⟨rfl, rfl, ?_⟩
 refine AWP.weak (Weak.kt [2, 3] rfl) ?_
 show AWP _ _ _ _ ⟨[(2, .ref 0 0 0), (3, bl y_1)], ⟨1, [(0, (1, [bl c_0]))], [(l, { rec with state := .busy })]⟩⟩ _
 refine awp_block <| awp_seqK fun K1 hK1 => awp_reg rfl <| AR.op rfl (aop_move (.inl rfl) rfl) <| AR.op (r := bl (!y_1)) rfl (aop_not rfl rfl) <| AR.nil <| hK1 _ (AWP.weak (Weak.kt [2, 8] rfl) ?_)
 refine awp_cond rfl (fun hb3 => ?_) (fun hb3 => ?_)
 ·replace h := Sh.if_t h hb3
  refine awp_seqK fun K2 hK2 => awp_reg rfl <| AR.op rfl (aop_store (e' := bl false) rfl rfl rfl rfl rfl rfl sz4 rfl dt rfl) <| AR.nil <| hK2 _ (AWP.weak (Weak.kt [2] rfl) ?_)
  refine awp_ret ?_
  obtain rfl := Option.some.inj h
  exact ⟨rfl, _, rfl, rfl, Weak.re [(0, 0)] [] rfl rfl rfl (.cons rfl rfl (.one (.sm) rfl) dt trivial) trivial⟩
 ·replace h := Sh.if_f h hb3
  refine awp_skip ?_
  obtain rfl := Option.some.inj h
  exact ⟨rfl, _, rfl, rfl, Weak.re [(0, 0)] [] rfl rfl rfl (.cons rfl rfl (.one (.sm) rfl) dt trivial) trivial⟩


theorem hist_faults_1__hist_Right__r_ok {W0 : World} (hT : Tab W0) {l : Nat} {rec : Loop} (hrec : RecAt rec Try.f25 0 9) {c_0 : Bool} {c_1 : G.api_Hist} {r : Bool × Bool} (h : G.hist_faults_1__hist_Right__r c_0 c_1 = some r) : Fun3 Try.prog (.it W0 1 rec [(2, .ref 0 0 0)]) 48 [.clo (.yield l) [], .pp [.sl (List.map G.api_Txn.av c_1.Txns)] 0] ⟨1, [(0, (1, [bl c_0]))], [(l, lpst rec .ret true)]⟩ (.tuple []) ⟨1, [(0, (1, [bl r.1]))], [(l, lpst rec .ret r.2)]⟩ := by
 refine fun3_of_awp rfl Try.func48 rfl (by kernel_rfl) Try.ntmps48 (by simp) ?_
 unfold G.hist_faults_1__hist_Right__r at h
 show AWP _ _ _ _ ⟨[(0, .clo (.yield l) []), (1, .pp [.sl (List.map G.api_Txn.av c_1.Txns)] 0)], ⟨1, [(0, (1, [bl c_0]))], [(l, lpst rec .ret true)]⟩⟩ _
 refine awp_seqK fun K1 hK1 => awp_seqK fun K2 hK2 => awp_reg rfl <| AR.op rfl (aop_move (.inl rfl) rfl) <| AR.op rfl (aop_field_pp rfl rfl fd24_0 (by decide)) <| AR.op (r := .sl (List.map G.api_Txn.av c_1.Txns)) rfl (aop_load_pp rfl rfl sz22 rfl) <| AR.keep [0, 1, 11, 13] rfl <| AR.op rfl (t_len_sl G.api_Txn.av c_1.Txns rfl rfl el22) ?_
 refine AR.op rfl (aop_leq rfl rfl rfl) ?_
 obtain ⟨y316, hy316, h⟩ := Sh.bind_some' h
 refine AR.opI (r := bl y316.2) rfl (aop_yield3 (ok := NoId) (ys := [bl (decide ((Sh.len c_1.Txns) ≤ 32))]) (xs := [bl (decide ((Sh.len c_1.Txns) ≤ 32))]) (Hs := ⟨1, [(0, (1, [bl c_0]))], [(l, rec)]⟩) (H' := ⟨2, [(0, (1, [bl y316.1]))], [(l, lpst rec .ret y316.2)]⟩) (g := [(0, 0)]) (m := [(0, 0)]) (nw := []) (p := 1) rfl rfl rfl (hist_Right__r_ok hT hrec hy316) hrec rfl (by rw [hrec.params rfl]; rfl) { next := rfl, part := ⟨rfl, trivial⟩, inj := rfl, lt := rfl, nwf := rfl, gin := rfl, held := .cons rfl rfl (.one (.sm) rfl) dt trivial, seen := ⟨⟨_, rfl, .sm⟩, trivial⟩, inlps := rfl, ple := rfl, map := rfl, next' := rfl, back := .new 0 rfl rfl (.one ⟨.sm, trivial⟩) trivial, lps := .inr ⟨rfl, rfl⟩, mode := .inr ⟨fun _ h => h, rfl⟩, ren := .sm } rfl rfl rfl) ?_
 rcases Bool.eq_false_or_eq_true (y316.2) with hb317 | hb317
 ·rw [hb317]
  replace h := Sh.if_t h hb317
  refine AR.op (r := bl false) rfl (aop_not (b := true) rfl rfl) <| AR.nil <| hK2 _ (AWP.weak (Weak.re (fr' := [(0, .clo (.yield l) []), (1, .pp [.sl (List.map G.api_Txn.av c_1.Txns)] 0), (17, bl false)]) (H' := ⟨1, [(0, (1, [bl y316.1]))], [(l, lpst rec .ret true)]⟩) [(0, 0)] [] rfl rfl rfl (.cons rfl rfl (.one (.sm) rfl) dt trivial) ⟨.k, .k, .k, trivial⟩) ?_)
  refine awp_cond_f rfl ?_
  refine awp_skip <| hK1 _ (AWP.weak (Weak.kt [0, 1] rfl) ?_)
  refine awp_seqK fun K3 hK3 => awp_reg rfl <| AR.op rfl (aop_field_pp rfl rfl fd24_0 (by decide)) <| AR.op (r := .sl (List.map G.api_Txn.av c_1.Txns)) rfl (aop_load_pp rfl rfl sz22 rfl) <| AR.op rfl (t_len_sl G.api_Txn.av c_1.Txns rfl rfl el22) <| AR.keep [0, 1, 19, 20] rfl <| AR.op rfl (aop_move (.inl rfl) rfl) <| AR.nil ?_
  refine hK3 _ ?_
  refine awp_block <| awp_iter (fun (p : Bool × Int) => G.hist_faults_1__hist_Right__r_b1 c_1 p.1 p.2) (fun (p : Bool × Int) => (⟨[(0, .clo (.yield l) []), (1, .pp [.sl (List.map G.api_Txn.av c_1.Txns)] 0), (19, .sl (List.map G.api_Txn.av c_1.Txns)), (20, i64 (Sh.len c_1.Txns)), (21, i64 p.2)], ⟨1, [(0, (1, [bl p.1]))], [(l, lpst rec .ret true)]⟩⟩ : St)) h (Weak.kt [0, 1, 19, 20, 21] rfl) ?_
  ·skip
   rintro ⟨c522, v523⟩ o1 h hx1
   replace h : G.hist_faults_1__hist_Right__r_b1 c_1 c522 v523 = some o1 := h
   unfold G.hist_faults_1__hist_Right__r_b1 at h
   refine awp_seqK fun K4 hK4 => awp_reg rfl <| AR.op rfl (aop_lss rfl rfl rfl) <| AR.nil <| hK4 _ ?_
   refine awp_seqK fun K5 hK5 => awp_cond rfl (fun hb524 => ?_) (fun hb524 => ?_)
   ·replace h := Sh.if_t h hb524
    refine awp_skip <| hK5 _ (AWP.weak (Weak.kt [0, 1, 19, 20, 21] rfl) ?_)
    refine awp_seqJ (fun (p : Bool) => (⟨[(0, .clo (.yield l) []), (1, .pp [.sl (List.map G.api_Txn.av c_1.Txns)] 0), (19, .sl (List.map G.api_Txn.av c_1.Txns)), (20, i64 (Sh.len c_1.Txns)), (21, i64 v523)], ⟨1, [(0, (1, [bl p]))], [(l, lpst rec .ret true)]⟩⟩ : St)) (fun (p : Bool) => G.hist_faults_1__hist_Right__r_j1 v523 p = some o1) ?_ ?_
    ·rintro c625 h
     replace h : G.hist_faults_1__hist_Right__r_j1 v523 c625 = some o1 := h
     unfold G.hist_faults_1__hist_Right__r_j1 at h
     refine awp_reg rfl <| AR.op rfl (aop_add rfl rfl rfl rfl) <| AR.op rfl (aop_move (.inl rfl) rfl) <| AR.nil ?_
     replace h := Sh.next_eq h
     exact ⟨_, h, Weak.kt [0, 1, 19, 20, 21] rfl⟩
    ·intro K6 hK6
     refine awp_block <| awp_seqK fun K7 hK7 => awp_reg rfl <| AR.op rfl (aop_move (.inl rfl) rfl) ?_
     obtain ⟨x628, hx628, h⟩ := Sh.bind_some' h
     obtain ⟨k629, hi629, hl629⟩ := Sh.idx_some hx628
     refine AR.op rfl (t_index_sl G.api_Txn.av c_1.Txns hi629 hl629 rfl rfl rfl el22 rfl) <| AR.op (r := G.api_Txn.av x628) rfl (aop_load_pp rfl rfl sz58 rfl) <| AR.keep [0, 1, 19, 20, 21, 23, 25] rfl <| AR.op (r := .ref 1 0 0) rfl (aop_alloc 3 [.agg [i64 0, nilS, nilS]] rfl zr58 (by kernel_rfl) (.inl ⟨rfl, rfl⟩)) <| AR.op rfl (aop_move (.inr rfl) rfl) <| AR.op rfl (aop_store (e' := G.api_Txn.av x628) rfl rfl rfl rfl rfl rfl sz58 rfl dt rfl) <| AR.nil <| hK7 _ (AWP.weak (Weak.re (fr' := [(0, .clo (.yield l) []), (1, .pp [.sl (List.map G.api_Txn.av c_1.Txns)] 0), (19, .sl (List.map G.api_Txn.av c_1.Txns)), (20, i64 (Sh.len c_1.Txns)), (21, i64 v523), (4, .pp [i64 x628.Session, .sl (List.map i64 x628.Writes), .sl (List.map G.api_Take.av x628.Reads)] 0), (3, i64 v523)]) (H' := ⟨1, [(0, (1, [bl c522]))], [(l, lpst rec .ret true)]⟩) [(0, 0)] [] rfl rfl rfl (.cons rfl rfl (.one (.sm) rfl) dt trivial) ⟨.k, .k, ⟨.sl (List.map G.api_Txn.av c_1.Txns), rfl, .sm⟩, .k, .k, ⟨_, rfl, .frzA rfl rfl rfl rfl (by simp)⟩, .k, trivial⟩) ?_)
     refine awp_seqK fun K8 hK8 => awp_reg rfl <| AR.op rfl (aop_move (.inr rfl) rfl) <| AR.nil <| hK8 _ ?_
     refine awp_seqJ (fun (p : Bool) => (⟨[(0, .clo (.yield l) []), (1, .pp [.sl (List.map G.api_Txn.av c_1.Txns)] 0), (19, .sl (List.map G.api_Txn.av c_1.Txns)), (20, i64 (Sh.len c_1.Txns)), (21, i64 v523), (4, .pp [i64 x628.Session, .sl (List.map i64 x628.Writes), .sl (List.map G.api_Take.av x628.Reads)] 0), (3, i64 v523)], ⟨1, [(0, (1, [bl p]))], [(l, lpst rec .ret true)]⟩⟩ : St)) (fun (p : Bool) => G.hist_faults_1__hist_Right__r_j2 c_1 v523 x628 p = some o1) ?_ ?_
     ·rintro v660 h
      replace h : G.hist_faults_1__hist_Right__r_j2 c_1 v523 x628 v660 = some o1 := h
      unfold G.hist_faults_1__hist_Right__r_j2 at h
      refine awp_seqK fun K9 hK9 => awp_reg rfl <| AR.op rfl (aop_move (.inr rfl) rfl) <| AR.nil <| hK9 _ ?_
      refine awp_seqJ (fun (p : Bool) => (⟨[(0, .clo (.yield l) []), (1, .pp [.sl (List.map G.api_Txn.av c_1.Txns)] 0), (19, .sl (List.map G.api_Txn.av c_1.Txns)), (20, i64 (Sh.len c_1.Txns)), (21, i64 v523), (4, .pp [i64 x628.Session, .sl (List.map i64 x628.Writes), .sl (List.map G.api_Take.av x628.Reads)] 0)], ⟨1, [(0, (1, [bl p]))], [(l, lpst rec .ret true)]⟩⟩ : St)) (fun (p : Bool) => G.hist_faults_1__hist_Right__r_j3 v523 x628 p = some o1) ?_ ?_
      ·rintro v724 h
       replace h : G.hist_faults_1__hist_Right__r_j3 v523 x628 v724 = some o1 := h
       unfold G.hist_faults_1__hist_Right__r_j3 at h
       refine awp_seqK fun K10 hK10 => awp_reg rfl <| AR.op rfl (aop_move (.inl rfl) rfl) <| AR.op rfl (aop_field_pp rfl rfl fd58_0 (by decide)) <| AR.op (r := i64 x628.Session) rfl (aop_load_pp rfl rfl sz3 rfl) <| AR.keep [0, 1, 19, 20, 21, 4, 104, 106] rfl <| AR.op rfl (aop_geq rfl rfl rfl) <| AR.op rfl (aop_move (.inl rfl) rfl) ?_
       rcases Bool.eq_false_or_eq_true (decide ((0 : Int) ≤ x628.Session)) with hb730 | hb730
       ·rw [hb730]
        replace h := Sh.if_t h hb730
        refine AR.op rfl (aop_field_pp rfl rfl fd58_0 (by decide)) <| AR.keep [0, 1, 19, 20, 21, 104, 108, 109] rfl <| AR.op (r := i64 x628.Session) rfl (aop_load_pp rfl rfl sz3 rfl) <| AR.op rfl (aop_lss rfl rfl rfl) <| AR.op rfl (aop_pick rfl rfl rfl) <| AR.keep [0, 1, 19, 20, 21, 104, 109, 110, 111, 112] rfl ?_
        obtain ⟨y731, hy731, h⟩ := Sh.bind_some' h
        refine AR.opI (r := bl y731.2) rfl (aop_yield3 (ok := NoId) (ys := [bl (decide (x628.Session < 8))]) (xs := [bl (decide (x628.Session < 8))]) (Hs := ⟨1, [(0, (1, [bl v724]))], [(l, rec)]⟩) (H' := ⟨2, [(0, (1, [bl y731.1]))], [(l, lpst rec .ret y731.2)]⟩) (g := [(0, 0)]) (m := [(0, 0)]) (nw := []) (p := 1) rfl rfl rfl (hist_Right__r_ok hT hrec hy731) hrec rfl (by rw [hrec.params rfl]; rfl) { next := rfl, part := ⟨rfl, trivial⟩, inj := rfl, lt := rfl, nwf := rfl, gin := rfl, held := .cons rfl rfl (.one (.sm) rfl) dt trivial, seen := ⟨⟨_, rfl, .sm⟩, trivial⟩, inlps := rfl, ple := rfl, map := rfl, next' := rfl, back := .new 0 rfl rfl (.one ⟨.sm, trivial⟩) trivial, lps := .inr ⟨rfl, rfl⟩, mode := .inr ⟨fun _ h => h, rfl⟩, ren := .sm } rfl rfl rfl) ?_
        rcases Bool.eq_false_or_eq_true (y731.2) with hb732 | hb732
        ·rw [hb732]
         replace h := Sh.if_t h hb732
         refine AR.op (r := bl false) rfl (aop_not (b := true) rfl rfl) <| AR.nil <| hK10 _ (AWP.weak (Weak.re (fr' := [(0, .clo (.yield l) []), (1, .pp [.sl (List.map G.api_Txn.av c_1.Txns)] 0), (19, .sl (List.map G.api_Txn.av c_1.Txns)), (20, i64 (Sh.len c_1.Txns)), (21, i64 v523), (109, .pp [i64 x628.Session, .sl (List.map i64 x628.Writes), .sl (List.map G.api_Take.av x628.Reads)] 0), (110, i64 x628.Session), (111, bl (decide (x628.Session < 8))), (114, bl false)]) (H' := ⟨1, [(0, (1, [bl y731.1]))], [(l, lpst rec .ret true)]⟩) [(0, 0)] [] rfl rfl rfl (.cons rfl rfl (.one (.sm) rfl) dt trivial) ⟨.k, .k, ⟨.sl (List.map G.api_Txn.av c_1.Txns), rfl, .sm⟩, .k, .k, .k, .k, .k, .k, trivial⟩) ?_)
         refine awp_cond_f rfl ?_
         refine awp_skip ?_
         exact hK6 y731.1 _ h (Weak.kt [0, 1, 19, 20, 21] rfl)
        ·rw [hb732]
         replace h := Sh.if_f h hb732
         refine AR.op (r := bl true) rfl (aop_not (b := false) rfl rfl) <| AR.nil <| hK10 _ (AWP.weak (Weak.re (fr' := [(0, .clo (.yield l) []), (1, .pp [.sl (List.map G.api_Txn.av c_1.Txns)] 0), (19, .sl (List.map G.api_Txn.av c_1.Txns)), (20, i64 (Sh.len c_1.Txns)), (21, i64 v523), (109, .pp [i64 x628.Session, .sl (List.map i64 x628.Writes), .sl (List.map G.api_Take.av x628.Reads)] 0), (110, i64 x628.Session), (111, bl (decide (x628.Session < 8))), (114, bl true)]) (H' := ⟨1, [(0, (1, [bl y731.1]))], [(l, lpst rec .ret false)]⟩) [(0, 0)] [] rfl rfl rfl (.cons rfl rfl (.one (.sm) rfl) dt trivial) ⟨.k, .k, ⟨.sl (List.map G.api_Txn.av c_1.Txns), rfl, .sm⟩, .k, .k, .k, .k, .k, .k, trivial⟩) ?_)
         refine awp_cond_t rfl ?_
         refine awp_ret ?_
         replace h := Sh.exit_eq h hx1
         obtain rfl := Option.some.inj h
         refine ⟨.inr rfl, .tuple [], rfl, ?_⟩
         exact Weak.re [(0, 0)] [] rfl rfl rfl (.cons rfl rfl (.one (.sm) rfl) dt trivial) ⟨⟨.tuple [], rfl, .tp trivial⟩, trivial⟩
       ·rw [hb730]
        replace h := Sh.if_f h hb730
        refine AR.skip rfl <| AR.keep [0, 1, 19, 20, 21, 104, 108, 109] rfl <| AR.skip rfl <| AR.skip rfl <| AR.op rfl (aop_pick rfl rfl rfl) <| AR.keep [0, 1, 19, 20, 21, 104, 109, 110, 111, 112] rfl ?_
        obtain ⟨y733, hy733, h⟩ := Sh.bind_some' h
        refine AR.opI (r := bl y733.2) rfl (aop_yield3 (ok := NoId) (ys := [bl false]) (xs := [bl false]) (Hs := ⟨1, [(0, (1, [bl v724]))], [(l, rec)]⟩) (H' := ⟨2, [(0, (1, [bl y733.1]))], [(l, lpst rec .ret y733.2)]⟩) (g := [(0, 0)]) (m := [(0, 0)]) (nw := []) (p := 1) rfl rfl rfl (hist_Right__r_ok hT hrec hy733) hrec rfl (by rw [hrec.params rfl]; rfl) { next := rfl, part := ⟨rfl, trivial⟩, inj := rfl, lt := rfl, nwf := rfl, gin := rfl, held := .cons rfl rfl (.one (.sm) rfl) dt trivial, seen := ⟨⟨_, rfl, .sm⟩, trivial⟩, inlps := rfl, ple := rfl, map := rfl, next' := rfl, back := .new 0 rfl rfl (.one ⟨.sm, trivial⟩) trivial, lps := .inr ⟨rfl, rfl⟩, mode := .inr ⟨fun _ h => h, rfl⟩, ren := .sm } rfl rfl rfl) ?_
        rcases Bool.eq_false_or_eq_true (y733.2) with hb734 | hb734
        ·rw [hb734]
         replace h := Sh.if_t h hb734
         refine AR.op (r := bl false) rfl (aop_not (b := true) rfl rfl) <| AR.nil <| hK10 _ (AWP.weak (Weak.re (fr' := [(0, .clo (.yield l) []), (1, .pp [.sl (List.map G.api_Txn.av c_1.Txns)] 0), (19, .sl (List.map G.api_Txn.av c_1.Txns)), (20, i64 (Sh.len c_1.Txns)), (21, i64 v523), (109, .tuple []), (110, .tuple []), (111, .tuple []), (114, bl false)]) (H' := ⟨1, [(0, (1, [bl y733.1]))], [(l, lpst rec .ret true)]⟩) [(0, 0)] [] rfl rfl rfl (.cons rfl rfl (.one (.sm) rfl) dt trivial) ⟨.k, .k, ⟨.sl (List.map G.api_Txn.av c_1.Txns), rfl, .sm⟩, .k, .k, .k, .k, .k, .k, trivial⟩) ?_)
         refine awp_cond_f rfl ?_
         refine awp_skip ?_
         exact hK6 y733.1 _ h (Weak.kt [0, 1, 19, 20, 21] rfl)
        ·rw [hb734]
         replace h := Sh.if_f h hb734
         refine AR.op (r := bl true) rfl (aop_not (b := false) rfl rfl) <| AR.nil <| hK10 _ (AWP.weak (Weak.re (fr' := [(0, .clo (.yield l) []), (1, .pp [.sl (List.map G.api_Txn.av c_1.Txns)] 0), (19, .sl (List.map G.api_Txn.av c_1.Txns)), (20, i64 (Sh.len c_1.Txns)), (21, i64 v523), (109, .tuple []), (110, .tuple []), (111, .tuple []), (114, bl true)]) (H' := ⟨1, [(0, (1, [bl y733.1]))], [(l, lpst rec .ret false)]⟩) [(0, 0)] [] rfl rfl rfl (.cons rfl rfl (.one (.sm) rfl) dt trivial) ⟨.k, .k, ⟨.sl (List.map G.api_Txn.av c_1.Txns), rfl, .sm⟩, .k, .k, .k, .k, .k, .k, trivial⟩) ?_)
         refine awp_cond_t rfl ?_
         refine awp_ret ?_
         replace h := Sh.exit_eq h hx1
         obtain rfl := Option.some.inj h
         refine ⟨.inr rfl, .tuple [], rfl, ?_⟩
         exact Weak.re [(0, 0)] [] rfl rfl rfl (.cons rfl rfl (.one (.sm) rfl) dt trivial) ⟨⟨.tuple [], rfl, .tp trivial⟩, trivial⟩
      ·intro K11 hK11
       refine awp_seqK fun K12 hK12 => awp_reg rfl <| AR.op rfl (aop_field_pp rfl rfl fd58_2 (by decide)) <| AR.op (r := .sl (List.map G.api_Take.av x628.Reads)) rfl (aop_load_pp rfl rfl sz56 rfl) <| AR.op rfl (t_len_sl G.api_Take.av x628.Reads rfl rfl el56) <| AR.keep [0, 1, 19, 20, 21, 4, 3, 5, 46, 47] rfl <| AR.op rfl (aop_move (.inl rfl) rfl) <| AR.nil ?_
       refine hK12 _ ?_
       refine awp_block <| awp_iter (fun (p : Bool × Int × Int) => G.hist_faults_1__hist_Right__r_b2 c_1 v523 x628 p.1 p.2.1 p.2.2) (fun (p : Bool × Int × Int) => (⟨[(0, .clo (.yield l) []), (1, .pp [.sl (List.map G.api_Txn.av c_1.Txns)] 0), (19, .sl (List.map G.api_Txn.av c_1.Txns)), (20, i64 (Sh.len c_1.Txns)), (21, i64 v523), (4, .pp [i64 x628.Session, .sl (List.map i64 x628.Writes), .sl (List.map G.api_Take.av x628.Reads)] 0), (3, i64 v523), (5, i64 p.2.1), (46, .sl (List.map G.api_Take.av x628.Reads)), (47, i64 (Sh.len x628.Reads)), (48, i64 p.2.2)], ⟨1, [(0, (1, [bl p.1]))], [(l, lpst rec .ret true)]⟩⟩ : St)) h (Weak.kt [0, 1, 19, 20, 21, 4, 3, 5, 46, 47, 48] rfl) ?_
       ·skip
        rintro ⟨c776, last777, v778⟩ o2 h hx2
        replace h : G.hist_faults_1__hist_Right__r_b2 c_1 v523 x628 c776 last777 v778 = some o2 := h
        unfold G.hist_faults_1__hist_Right__r_b2 at h
        refine awp_seqK fun K13 hK13 => awp_reg rfl <| AR.op rfl (aop_lss rfl rfl rfl) <| AR.nil <| hK13 _ ?_
        refine awp_seqK fun K14 hK14 => awp_cond rfl (fun hb779 => ?_) (fun hb779 => ?_)
        ·replace h := Sh.if_t h hb779
         refine awp_skip <| hK14 _ (AWP.weak (Weak.kt [0, 1, 19, 20, 21, 4, 3, 5, 46, 47, 48] rfl) ?_)
         refine awp_seqK fun K15 hK15 => awp_block <| awp_seqK fun K16 hK16 => awp_reg rfl ?_
         obtain ⟨x801, hx801, h⟩ := Sh.bind_some' h
         obtain ⟨k802, hi802, hl802⟩ := Sh.idx_some hx801
         refine AR.op rfl (t_index_sl G.api_Take.av x628.Reads hi802 hl802 rfl rfl rfl el56 rfl) <| AR.op (r := G.api_Take.av x801) rfl (aop_load_pp rfl rfl sz78 rfl) <| AR.op (r := .ref 1 0 0) rfl (aop_alloc 2 [.agg [i64 0, i64 0]] rfl zr78 (by kernel_rfl) (.inl ⟨rfl, rfl⟩)) <| AR.keep [0, 1, 19, 20, 21, 4, 3, 5, 46, 47, 48, 51, 9] rfl <| AR.op rfl (aop_store (e' := G.api_Take.av x801) rfl rfl rfl rfl rfl rfl sz78 rfl dt rfl) <| AR.nil <| hK16 _ (AWP.weak (Weak.re (fr' := [(0, .clo (.yield l) []), (1, .pp [.sl (List.map G.api_Txn.av c_1.Txns)] 0), (19, .sl (List.map G.api_Txn.av c_1.Txns)), (20, i64 (Sh.len c_1.Txns)), (21, i64 v523), (4, .pp [i64 x628.Session, .sl (List.map i64 x628.Writes), .sl (List.map G.api_Take.av x628.Reads)] 0), (3, i64 v523), (5, i64 last777), (46, .sl (List.map G.api_Take.av x628.Reads)), (47, i64 (Sh.len x628.Reads)), (48, i64 v778), (9, .pp [i64 x801.Key, i64 x801.From] 0)]) (H' := ⟨1, [(0, (1, [bl c776]))], [(l, lpst rec .ret true)]⟩) [(0, 0)] [] rfl rfl rfl (.cons rfl rfl (.one (.sm) rfl) dt trivial) ⟨.k, .k, ⟨.sl (List.map G.api_Txn.av c_1.Txns), rfl, .sm⟩, .k, .k, .k, .k, .k, ⟨.sl (List.map G.api_Take.av x628.Reads), rfl, .sm⟩, .k, .k, ⟨_, rfl, .frzA rfl rfl rfl rfl (by simp)⟩, trivial⟩) ?_)
         refine awp_seqJ (fun (p : Bool) => (⟨[(0, .clo (.yield l) []), (1, .pp [.sl (List.map G.api_Txn.av c_1.Txns)] 0), (19, .sl (List.map G.api_Txn.av c_1.Txns)), (20, i64 (Sh.len c_1.Txns)), (21, i64 v523), (4, .pp [i64 x628.Session, .sl (List.map i64 x628.Writes), .sl (List.map G.api_Take.av x628.Reads)] 0), (3, i64 v523), (5, i64 last777), (46, .sl (List.map G.api_Take.av x628.Reads)), (47, i64 (Sh.len x628.Reads)), (48, i64 v778), (9, .pp [i64 x801.Key, i64 x801.From] 0), (10, bl p)], ⟨1, [(0, (1, [bl c776]))], [(l, lpst rec .ret true)]⟩⟩ : St)) (fun (p : Bool) => G.hist_faults_1__hist_Right__r_j4 c776 last777 v778 x801 p = some o2) ?_ ?_
         ·rintro there810 h
          replace h : G.hist_faults_1__hist_Right__r_j4 c776 last777 v778 x801 there810 = some o2 := h
          unfold G.hist_faults_1__hist_Right__r_j4 at h
          refine awp_seqJ (fun (p : Bool) => (⟨[(0, .clo (.yield l) []), (1, .pp [.sl (List.map G.api_Txn.av c_1.Txns)] 0), (19, .sl (List.map G.api_Txn.av c_1.Txns)), (20, i64 (Sh.len c_1.Txns)), (21, i64 v523), (4, .pp [i64 x628.Session, .sl (List.map i64 x628.Writes), .sl (List.map G.api_Take.av x628.Reads)] 0), (3, i64 v523), (46, .sl (List.map G.api_Take.av x628.Reads)), (47, i64 (Sh.len x628.Reads)), (48, i64 v778), (9, .pp [i64 x801.Key, i64 x801.From] 0)], ⟨1, [(0, (1, [bl p]))], [(l, lpst rec .ret true)]⟩⟩ : St)) (fun (p : Bool) => G.hist_faults_1__hist_Right__r_j5 v778 x801 p = some o2) ?_ ?_
          ·rintro c819 h
           replace h : G.hist_faults_1__hist_Right__r_j5 v778 x801 c819 = some o2 := h
           unfold G.hist_faults_1__hist_Right__r_j5 at h
           refine awp_reg rfl <| AR.op rfl (aop_field_pp rfl rfl fd78_0 (by decide)) <| AR.op (r := i64 x801.Key) rfl (aop_load_pp rfl rfl sz3 rfl) <| AR.op rfl (aop_move (.inr rfl) rfl) <| AR.nil <| hK15 _ (AWP.weak (Weak.kt [0, 1, 19, 20, 21, 4, 3, 46, 47, 48, 5] rfl) ?_)
           refine awp_reg rfl <| AR.op rfl (aop_add rfl rfl rfl rfl) <| AR.op rfl (aop_move (.inl rfl) rfl) <| AR.nil ?_
           replace h := Sh.next_eq h
           exact ⟨_, h, Weak.kt [0, 1, 19, 20, 21, 4, 3, 5, 46, 47, 48] rfl⟩
          ·intro K17 hK17
           refine awp_seqK fun K18 hK18 => awp_reg rfl <| AR.op rfl (aop_move (.inl rfl) rfl) <| AR.op rfl (aop_field_pp rfl rfl fd78_0 (by decide)) <| AR.op (r := i64 x801.Key) rfl (aop_load_pp rfl rfl sz3 rfl) <| AR.keep [0, 1, 19, 20, 21, 4, 3, 5, 46, 47, 48, 9, 10, 86, 88] rfl <| AR.op rfl (aop_move (.inl rfl) rfl) <| AR.op rfl (aop_gtr rfl rfl rfl) ?_
           refine AR.op rfl (aop_move (.inl rfl) rfl) <| AR.keep [0, 1, 19, 20, 21, 4, 3, 46, 47, 48, 9, 10, 86, 91] rfl ?_
           rcases Bool.eq_false_or_eq_true (decide (last777 < x801.Key)) with hb828 | hb828
           ·rw [hb828]
            replace h := Sh.if_t h hb828
            refine AR.op rfl (aop_field_pp rfl rfl fd78_0 (by decide)) <| AR.op (r := i64 x801.Key) rfl (aop_load_pp rfl rfl sz3 rfl) <| AR.op rfl (aop_lss rfl rfl rfl) <| AR.keep [0, 1, 19, 20, 21, 4, 3, 46, 47, 48, 9, 10, 86, 91, 92, 93, 94] rfl <| AR.op rfl (aop_pick rfl rfl rfl) <| AR.op rfl (aop_move (.inl rfl) rfl) ?_
            rcases Bool.eq_false_or_eq_true (decide (x801.Key < 16)) with hb829 | hb829
            ·rw [hb829]
             replace h := Sh.if_t h hb829
             refine AR.op rfl (aop_move (.inl rfl) rfl) <| AR.keep [0, 1, 19, 20, 21, 4, 3, 46, 47, 48, 9, 86, 92, 93, 94, 96, 97] rfl <| AR.op rfl (aop_pick rfl rfl rfl) ?_
             obtain ⟨y830, hy830, h⟩ := Sh.bind_some' h
             refine AR.opI (r := bl y830.2) rfl (aop_yield3 (ok := NoId) (ys := [bl there810]) (xs := [bl there810]) (Hs := ⟨1, [(0, (1, [bl c776]))], [(l, rec)]⟩) (H' := ⟨2, [(0, (1, [bl y830.1]))], [(l, lpst rec .ret y830.2)]⟩) (g := [(0, 0)]) (m := [(0, 0)]) (nw := []) (p := 1) rfl rfl rfl (hist_Right__r_ok hT hrec hy830) hrec rfl (by rw [hrec.params rfl]; rfl) { next := rfl, part := ⟨rfl, trivial⟩, inj := rfl, lt := rfl, nwf := rfl, gin := rfl, held := .cons rfl rfl (.one (.sm) rfl) dt trivial, seen := ⟨⟨_, rfl, .sm⟩, trivial⟩, inlps := rfl, ple := rfl, map := rfl, next' := rfl, back := .new 0 rfl rfl (.one ⟨.sm, trivial⟩) trivial, lps := .inr ⟨rfl, rfl⟩, mode := .inr ⟨fun _ h => h, rfl⟩, ren := .sm } rfl rfl rfl) ?_
             rcases Bool.eq_false_or_eq_true (y830.2) with hb831 | hb831
             ·rw [hb831]
              replace h := Sh.if_t h hb831
              refine AR.op (r := bl false) rfl (aop_not (b := true) rfl rfl) <| AR.nil <| hK18 _ (AWP.weak (Weak.re (fr' := [(0, .clo (.yield l) []), (1, .pp [.sl (List.map G.api_Txn.av c_1.Txns)] 0), (19, .sl (List.map G.api_Txn.av c_1.Txns)), (20, i64 (Sh.len c_1.Txns)), (21, i64 v523), (4, .pp [i64 x628.Session, .sl (List.map i64 x628.Writes), .sl (List.map G.api_Take.av x628.Reads)] 0), (3, i64 v523), (46, .sl (List.map G.api_Take.av x628.Reads)), (47, i64 (Sh.len x628.Reads)), (48, i64 v778), (9, .pp [i64 x801.Key, i64 x801.From] 0), (92, .pp [i64 x801.Key, i64 x801.From] 0), (93, i64 x801.Key), (94, bl true), (97, bl there810), (100, bl false)]) (H' := ⟨1, [(0, (1, [bl y830.1]))], [(l, lpst rec .ret true)]⟩) [(0, 0)] [] rfl rfl rfl (.cons rfl rfl (.one (.sm) rfl) dt trivial) ⟨.k, .k, ⟨.sl (List.map G.api_Txn.av c_1.Txns), rfl, .sm⟩, .k, .k, .k, .k, ⟨.sl (List.map G.api_Take.av x628.Reads), rfl, .sm⟩, .k, .k, .k, .k, .k, .k, .k, .k, trivial⟩) ?_)
              refine awp_cond_f rfl ?_
              refine awp_skip ?_
              exact hK17 y830.1 _ h (Weak.kt [0, 1, 19, 20, 21, 4, 3, 46, 47, 48, 9] rfl)
             ·rw [hb831]
              replace h := Sh.if_f h hb831
              refine AR.op (r := bl true) rfl (aop_not (b := false) rfl rfl) <| AR.nil <| hK18 _ (AWP.weak (Weak.re (fr' := [(0, .clo (.yield l) []), (1, .pp [.sl (List.map G.api_Txn.av c_1.Txns)] 0), (19, .sl (List.map G.api_Txn.av c_1.Txns)), (20, i64 (Sh.len c_1.Txns)), (21, i64 v523), (4, .pp [i64 x628.Session, .sl (List.map i64 x628.Writes), .sl (List.map G.api_Take.av x628.Reads)] 0), (3, i64 v523), (46, .sl (List.map G.api_Take.av x628.Reads)), (47, i64 (Sh.len x628.Reads)), (48, i64 v778), (9, .pp [i64 x801.Key, i64 x801.From] 0), (92, .pp [i64 x801.Key, i64 x801.From] 0), (93, i64 x801.Key), (94, bl true), (97, bl there810), (100, bl true)]) (H' := ⟨1, [(0, (1, [bl y830.1]))], [(l, lpst rec .ret false)]⟩) [(0, 0)] [] rfl rfl rfl (.cons rfl rfl (.one (.sm) rfl) dt trivial) ⟨.k, .k, ⟨.sl (List.map G.api_Txn.av c_1.Txns), rfl, .sm⟩, .k, .k, .k, .k, ⟨.sl (List.map G.api_Take.av x628.Reads), rfl, .sm⟩, .k, .k, .k, .k, .k, .k, .k, .k, trivial⟩) ?_)
              refine awp_cond_t rfl ?_
              refine awp_ret ?_
              replace h := Sh.exit_eq h hx2
              replace h := Sh.exit_eq h hx1
              obtain rfl := Option.some.inj h
              refine ⟨.inr rfl, .tuple [], rfl, ?_⟩
              exact Weak.re [(0, 0)] [] rfl rfl rfl (.cons rfl rfl (.one (.sm) rfl) dt trivial) ⟨⟨.tuple [], rfl, .tp trivial⟩, trivial⟩
            ·rw [hb829]
             replace h := Sh.if_f h hb829
             refine AR.skip rfl <| AR.keep [0, 1, 19, 20, 21, 4, 3, 46, 47, 48, 9, 86, 92, 93, 94, 96, 97] rfl <| AR.op rfl (aop_pick rfl rfl rfl) ?_
             obtain ⟨y832, hy832, h⟩ := Sh.bind_some' h
             refine AR.opI (r := bl y832.2) rfl (aop_yield3 (ok := NoId) (ys := [bl false]) (xs := [bl false]) (Hs := ⟨1, [(0, (1, [bl c776]))], [(l, rec)]⟩) (H' := ⟨2, [(0, (1, [bl y832.1]))], [(l, lpst rec .ret y832.2)]⟩) (g := [(0, 0)]) (m := [(0, 0)]) (nw := []) (p := 1) rfl rfl rfl (hist_Right__r_ok hT hrec hy832) hrec rfl (by rw [hrec.params rfl]; rfl) { next := rfl, part := ⟨rfl, trivial⟩, inj := rfl, lt := rfl, nwf := rfl, gin := rfl, held := .cons rfl rfl (.one (.sm) rfl) dt trivial, seen := ⟨⟨_, rfl, .sm⟩, trivial⟩, inlps := rfl, ple := rfl, map := rfl, next' := rfl, back := .new 0 rfl rfl (.one ⟨.sm, trivial⟩) trivial, lps := .inr ⟨rfl, rfl⟩, mode := .inr ⟨fun _ h => h, rfl⟩, ren := .sm } rfl rfl rfl) ?_
             rcases Bool.eq_false_or_eq_true (y832.2) with hb833 | hb833
             ·rw [hb833]
              replace h := Sh.if_t h hb833
              refine AR.op (r := bl false) rfl (aop_not (b := true) rfl rfl) <| AR.nil <| hK18 _ (AWP.weak (Weak.re (fr' := [(0, .clo (.yield l) []), (1, .pp [.sl (List.map G.api_Txn.av c_1.Txns)] 0), (19, .sl (List.map G.api_Txn.av c_1.Txns)), (20, i64 (Sh.len c_1.Txns)), (21, i64 v523), (4, .pp [i64 x628.Session, .sl (List.map i64 x628.Writes), .sl (List.map G.api_Take.av x628.Reads)] 0), (3, i64 v523), (46, .sl (List.map G.api_Take.av x628.Reads)), (47, i64 (Sh.len x628.Reads)), (48, i64 v778), (9, .pp [i64 x801.Key, i64 x801.From] 0), (92, .pp [i64 x801.Key, i64 x801.From] 0), (93, i64 x801.Key), (94, bl false), (97, .tuple []), (100, bl false)]) (H' := ⟨1, [(0, (1, [bl y832.1]))], [(l, lpst rec .ret true)]⟩) [(0, 0)] [] rfl rfl rfl (.cons rfl rfl (.one (.sm) rfl) dt trivial) ⟨.k, .k, ⟨.sl (List.map G.api_Txn.av c_1.Txns), rfl, .sm⟩, .k, .k, .k, .k, ⟨.sl (List.map G.api_Take.av x628.Reads), rfl, .sm⟩, .k, .k, .k, .k, .k, .k, .k, .k, trivial⟩) ?_)
              refine awp_cond_f rfl ?_
              refine awp_skip ?_
              exact hK17 y832.1 _ h (Weak.kt [0, 1, 19, 20, 21, 4, 3, 46, 47, 48, 9] rfl)
             ·rw [hb833]
              replace h := Sh.if_f h hb833
              refine AR.op (r := bl true) rfl (aop_not (b := false) rfl rfl) <| AR.nil <| hK18 _ (AWP.weak (Weak.re (fr' := [(0, .clo (.yield l) []), (1, .pp [.sl (List.map G.api_Txn.av c_1.Txns)] 0), (19, .sl (List.map G.api_Txn.av c_1.Txns)), (20, i64 (Sh.len c_1.Txns)), (21, i64 v523), (4, .pp [i64 x628.Session, .sl (List.map i64 x628.Writes), .sl (List.map G.api_Take.av x628.Reads)] 0), (3, i64 v523), (46, .sl (List.map G.api_Take.av x628.Reads)), (47, i64 (Sh.len x628.Reads)), (48, i64 v778), (9, .pp [i64 x801.Key, i64 x801.From] 0), (92, .pp [i64 x801.Key, i64 x801.From] 0), (93, i64 x801.Key), (94, bl false), (97, .tuple []), (100, bl true)]) (H' := ⟨1, [(0, (1, [bl y832.1]))], [(l, lpst rec .ret false)]⟩) [(0, 0)] [] rfl rfl rfl (.cons rfl rfl (.one (.sm) rfl) dt trivial) ⟨.k, .k, ⟨.sl (List.map G.api_Txn.av c_1.Txns), rfl, .sm⟩, .k, .k, .k, .k, ⟨.sl (List.map G.api_Take.av x628.Reads), rfl, .sm⟩, .k, .k, .k, .k, .k, .k, .k, .k, trivial⟩) ?_)
              refine awp_cond_t rfl ?_
              refine awp_ret ?_
              replace h := Sh.exit_eq h hx2
              replace h := Sh.exit_eq h hx1
              obtain rfl := Option.some.inj h
              refine ⟨.inr rfl, .tuple [], rfl, ?_⟩
              exact Weak.re [(0, 0)] [] rfl rfl rfl (.cons rfl rfl (.one (.sm) rfl) dt trivial) ⟨⟨.tuple [], rfl, .tp trivial⟩, trivial⟩
           ·rw [hb828]
            replace h := Sh.if_f h hb828
            refine AR.skip rfl <| AR.skip rfl <| AR.skip rfl <| AR.keep [0, 1, 19, 20, 21, 4, 3, 46, 47, 48, 9, 10, 86, 91, 92, 93, 94] rfl <| AR.op rfl (aop_pick rfl rfl rfl) <| AR.op rfl (aop_move (.inl rfl) rfl) <| AR.skip rfl <| AR.keep [0, 1, 19, 20, 21, 4, 3, 46, 47, 48, 9, 86, 92, 93, 94, 96, 97] rfl ?_
            refine AR.op rfl (aop_pick rfl rfl rfl) ?_
            obtain ⟨y834, hy834, h⟩ := Sh.bind_some' h
            refine AR.opI (r := bl y834.2) rfl (aop_yield3 (ok := NoId) (ys := [bl false]) (xs := [bl false]) (Hs := ⟨1, [(0, (1, [bl c776]))], [(l, rec)]⟩) (H' := ⟨2, [(0, (1, [bl y834.1]))], [(l, lpst rec .ret y834.2)]⟩) (g := [(0, 0)]) (m := [(0, 0)]) (nw := []) (p := 1) rfl rfl rfl (hist_Right__r_ok hT hrec hy834) hrec rfl (by rw [hrec.params rfl]; rfl) { next := rfl, part := ⟨rfl, trivial⟩, inj := rfl, lt := rfl, nwf := rfl, gin := rfl, held := .cons rfl rfl (.one (.sm) rfl) dt trivial, seen := ⟨⟨_, rfl, .sm⟩, trivial⟩, inlps := rfl, ple := rfl, map := rfl, next' := rfl, back := .new 0 rfl rfl (.one ⟨.sm, trivial⟩) trivial, lps := .inr ⟨rfl, rfl⟩, mode := .inr ⟨fun _ h => h, rfl⟩, ren := .sm } rfl rfl rfl) ?_
            rcases Bool.eq_false_or_eq_true (y834.2) with hb835 | hb835
            ·rw [hb835]
             replace h := Sh.if_t h hb835
             refine AR.op (r := bl false) rfl (aop_not (b := true) rfl rfl) <| AR.nil <| hK18 _ (AWP.weak (Weak.re (fr' := [(0, .clo (.yield l) []), (1, .pp [.sl (List.map G.api_Txn.av c_1.Txns)] 0), (19, .sl (List.map G.api_Txn.av c_1.Txns)), (20, i64 (Sh.len c_1.Txns)), (21, i64 v523), (4, .pp [i64 x628.Session, .sl (List.map i64 x628.Writes), .sl (List.map G.api_Take.av x628.Reads)] 0), (3, i64 v523), (46, .sl (List.map G.api_Take.av x628.Reads)), (47, i64 (Sh.len x628.Reads)), (48, i64 v778), (9, .pp [i64 x801.Key, i64 x801.From] 0), (92, .tuple []), (93, .tuple []), (94, .tuple []), (97, .tuple []), (100, bl false)]) (H' := ⟨1, [(0, (1, [bl y834.1]))], [(l, lpst rec .ret true)]⟩) [(0, 0)] [] rfl rfl rfl (.cons rfl rfl (.one (.sm) rfl) dt trivial) ⟨.k, .k, ⟨.sl (List.map G.api_Txn.av c_1.Txns), rfl, .sm⟩, .k, .k, .k, .k, ⟨.sl (List.map G.api_Take.av x628.Reads), rfl, .sm⟩, .k, .k, .k, .k, .k, .k, .k, .k, trivial⟩) ?_)
             refine awp_cond_f rfl ?_
             refine awp_skip ?_
             exact hK17 y834.1 _ h (Weak.kt [0, 1, 19, 20, 21, 4, 3, 46, 47, 48, 9] rfl)
            ·rw [hb835]
             replace h := Sh.if_f h hb835
             refine AR.op (r := bl true) rfl (aop_not (b := false) rfl rfl) <| AR.nil <| hK18 _ (AWP.weak (Weak.re (fr' := [(0, .clo (.yield l) []), (1, .pp [.sl (List.map G.api_Txn.av c_1.Txns)] 0), (19, .sl (List.map G.api_Txn.av c_1.Txns)), (20, i64 (Sh.len c_1.Txns)), (21, i64 v523), (4, .pp [i64 x628.Session, .sl (List.map i64 x628.Writes), .sl (List.map G.api_Take.av x628.Reads)] 0), (3, i64 v523), (46, .sl (List.map G.api_Take.av x628.Reads)), (47, i64 (Sh.len x628.Reads)), (48, i64 v778), (9, .pp [i64 x801.Key, i64 x801.From] 0), (92, .tuple []), (93, .tuple []), (94, .tuple []), (97, .tuple []), (100, bl true)]) (H' := ⟨1, [(0, (1, [bl y834.1]))], [(l, lpst rec .ret false)]⟩) [(0, 0)] [] rfl rfl rfl (.cons rfl rfl (.one (.sm) rfl) dt trivial) ⟨.k, .k, ⟨.sl (List.map G.api_Txn.av c_1.Txns), rfl, .sm⟩, .k, .k, .k, .k, ⟨.sl (List.map G.api_Take.av x628.Reads), rfl, .sm⟩, .k, .k, .k, .k, .k, .k, .k, .k, trivial⟩) ?_)
             refine awp_cond_t rfl ?_
             refine awp_ret ?_
             replace h := Sh.exit_eq h hx2
             replace h := Sh.exit_eq h hx1
             obtain rfl := Option.some.inj h
             refine ⟨.inr rfl, .tuple [], rfl, ?_⟩
             exact Weak.re [(0, 0)] [] rfl rfl rfl (.cons rfl rfl (.one (.sm) rfl) dt trivial) ⟨⟨.tuple [], rfl, .tp trivial⟩, trivial⟩
         ·intro K19 hK19
          refine awp_any [(true, false), (true, false), (true, false), (true, false), (true, false), (true, false), (true, false), (true, false), (true, false), (true, false), (true, false), (true, false), (true, false), (true, false), (true, false), (true, false), (true, false), (true, false), (true, false), (true, false), (true, false), (true, false), (true, false), (true, false), (true, false), (true, false), (true, false), (true, false), (true, false), (true, false), (true, false), (true, false), (true, false), (true, false), (true, false)] (by kernel_rfl) (by kernel_rfl) rfl ?_
          refine ARH.dry rfl (fun _ => aop_field_pp rfl rfl fd78_1 (by decide)) <| ARH.dry (r := i64 x801.From) rfl (fun _ => aop_load_pp rfl rfl sz3 rfl) <| ARH.dry (r := bl (decide (x801.From = (-1)))) rfl (fun _ => aop_eql rfl rfl rfl) <| ARH.keep [0, 1, 19, 20, 21, 4, 3, 5, 46, 47, 48, 9, 54] rfl <| ARH.dry rfl (fun _ => aop_move (.inl rfl) rfl) ?_
          rcases Bool.eq_false_or_eq_true (decide (x801.From = (-1))) with hb836 | hb836
          ·rw [hb836]
           replace h := Sh.if_t h hb836
           refine ARH.skip rfl <| ARH.skip rfl <| ARH.keep [0, 1, 19, 20, 21, 4, 3, 5, 46, 47, 48, 9, 55, 56, 57] rfl <| ARH.skip rfl <| ARH.skip rfl <| ARH.skip rfl <| ARH.keep [0, 1, 19, 20, 21, 4, 3, 5, 46, 47, 48, 9, 55, 56, 57, 58, 59, 60] rfl <| ARH.skip rfl ?_
           refine ARH.skip rfl <| ARH.skip rfl <| ARH.keep [0, 1, 19, 20, 21, 4, 3, 5, 46, 47, 48, 9, 55, 56, 57, 58, 59, 60, 61, 62, 63] rfl <| ARH.skip rfl <| ARH.skip rfl <| ARH.skip rfl <| ARH.keep [0, 1, 19, 20, 21, 4, 3, 5, 46, 47, 48, 9, 55, 56, 57, 58, 59, 60, 61, 62, 63, 64, 65, 66] rfl <| ARH.skip rfl ?_
           refine ARH.skip rfl <| ARH.skip rfl <| ARH.keep [0, 1, 19, 20, 21, 4, 3, 5, 46, 47, 48, 9, 55, 56, 57, 58, 59, 60, 61, 62, 63, 64, 65, 66, 67, 68, 69] rfl <| ARH.skip rfl <| ARH.skip rfl <| ARH.skip rfl <| ARH.keep [0, 1, 19, 20, 21, 4, 3, 5, 46, 47, 48, 9, 55, 56, 57, 58, 59, 60, 61, 62, 63, 64, 65, 66, 67, 68, 69, 70, 71, 72] rfl <| ARH.skip rfl ?_
           refine ARH.skip rfl <| ARH.skip rfl <| ARH.keep [0, 1, 19, 20, 21, 4, 3, 5, 46, 47, 48, 9, 55, 56, 57, 58, 59, 60, 61, 62, 63, 64, 65, 66, 67, 68, 69, 70, 71, 72, 73, 74, 75] rfl <| ARH.skip rfl <| ARH.skip rfl <| ARH.skip rfl <| ARH.keep [0, 1, 19, 20, 21, 4, 3, 5, 46, 47, 48, 9, 55, 56, 57, 58, 59, 60, 61, 62, 63, 64, 65, 66, 67, 68, 69, 70, 71, 72, 73, 74, 75, 76, 77, 78] rfl <| ARH.skip rfl ?_
           refine ARH.skip rfl <| ARH.skip rfl <| ARH.keep [0, 1, 19, 20, 21, 4, 3, 5, 46, 47, 48, 9, 55, 56, 57, 58, 59, 60, 61, 62, 63, 64, 65, 66, 67, 68, 69, 70, 71, 72, 73, 74, 75, 76, 77, 78, 79, 80, 81] rfl <| ARH.skip rfl <| ARH.skip rfl <| ARH.skip rfl <| ARH.keep [0, 1, 19, 20, 21, 4, 3, 5, 46, 47, 48, 9, 55, 56, 57, 58, 59, 60, 61, 62, 63, 64, 65, 66, 67, 68, 69, 70, 71, 72, 73, 74, 75, 76, 77, 78, 79, 80, 81, 82, 83, 84] rfl <| ARH.dry rfl (fun _ => aop_pick rfl rfl rfl) ?_
           refine ARH.dry rfl (fun _ => aop_move (.inr rfl) rfl) <| ARH.nil ?_
           exact hK19 true _ h (Weak.kt [0, 1, 19, 20, 21, 4, 3, 5, 46, 47, 48, 9, 10] rfl)
          ·rw [hb836]
           replace h := Sh.if_f h hb836
           refine ARH.dry rfl (fun _ => aop_field_pp rfl rfl fd78_1 (by decide)) <| ARH.dry (r := i64 x801.From) rfl (fun _ => aop_load_pp rfl rfl sz3 rfl) <| ARH.keep [0, 1, 19, 20, 21, 4, 3, 5, 46, 47, 48, 9, 55, 56, 57] rfl <| ARH.dry rfl (fun _ => aop_geq rfl rfl rfl) <| ARH.dry rfl (fun _ => aop_move (.inl rfl) rfl) ?_
           rcases Bool.eq_false_or_eq_true (decide ((0 : Int) ≤ x801.From)) with hb837 | hb837
           ·rw [hb837]
            replace h := Sh.if_t h hb837
            refine ARH.dry rfl (fun _ => aop_field_pp rfl rfl fd78_1 (by decide)) <| ARH.keep [0, 1, 19, 20, 21, 4, 3, 5, 46, 47, 48, 9, 55, 56, 57, 58, 59, 60] rfl <| ARH.dry (r := i64 x801.From) rfl (fun _ => aop_load_pp rfl rfl sz3 rfl) <| ARH.dry rfl (fun _ => aop_field_pp rfl rfl fd24_0 (by decide)) <| ARH.dry (r := .sl (List.map G.api_Txn.av c_1.Txns)) rfl (fun _ => aop_load_pp rfl rfl sz22 rfl) <| ARH.keep [0, 1, 19, 20, 21, 4, 3, 5, 46, 47, 48, 9, 55, 56, 57, 58, 59, 60, 61, 62, 63] rfl <| ARH.dry rfl (fun _ => t_len_sl G.api_Txn.av c_1.Txns rfl rfl el22) <| ARH.dry rfl (fun _ => aop_lss rfl rfl rfl) ?_
            refine ARH.dry rfl (fun _ => aop_pick rfl rfl rfl) <| ARH.keep [0, 1, 19, 20, 21, 4, 3, 5, 46, 47, 48, 9, 55, 56, 57, 58, 59, 60, 61, 62, 63, 64, 65, 66] rfl <| ARH.dry rfl (fun _ => aop_move (.inl rfl) rfl) ?_
            rcases Bool.eq_false_or_eq_true (decide (x801.From < (Sh.len c_1.Txns))) with hb838 | hb838
            ·rw [hb838]
             replace h := Sh.if_t h hb838
             refine ARH.dry rfl (fun _ => aop_field_pp rfl rfl fd78_1 (by decide)) <| ARH.dry (r := i64 x801.From) rfl (fun _ => aop_load_pp rfl rfl sz3 rfl) <| ARH.keep [0, 1, 19, 20, 21, 4, 3, 5, 46, 47, 48, 9, 55, 56, 57, 58, 59, 60, 61, 62, 63, 64, 65, 66, 67, 68, 69] rfl <| ARH.dry rfl (fun _ => aop_move (.inl rfl) rfl) <| ARH.dry (r := bl (decide (x801.From ≠ v523))) rfl (fun _ => aop_neq rfl rfl rfl) <| ARH.dry rfl (fun _ => aop_pick rfl rfl rfl) <| ARH.keep [0, 1, 19, 20, 21, 4, 3, 5, 46, 47, 48, 9, 55, 56, 57, 58, 59, 60, 61, 62, 63, 64, 65, 66, 67, 68, 69, 70, 71, 72] rfl <| ARH.dry rfl (fun _ => aop_move (.inl rfl) rfl) ?_
             rcases Bool.eq_false_or_eq_true (decide (x801.From ≠ v523)) with hb839 | hb839
             ·rw [hb839]
              replace h := Sh.if_t h hb839
              refine ARH.dry rfl (fun _ => aop_field_pp rfl rfl fd24_0 (by decide)) <| ARH.dry (r := .sl (List.map G.api_Txn.av c_1.Txns)) rfl (fun _ => aop_load_pp rfl rfl sz22 rfl) <| ARH.keep [0, 1, 19, 20, 21, 4, 3, 5, 46, 47, 48, 9, 55, 56, 57, 58, 59, 60, 61, 62, 63, 64, 65, 66, 67, 68, 69, 70, 71, 72, 73, 74, 75] rfl <| ARH.dry rfl (fun _ => aop_field_pp rfl rfl fd78_1 (by decide)) <| ARH.dry (r := i64 x801.From) rfl (fun _ => aop_load_pp rfl rfl sz3 rfl) ?_
              obtain ⟨x840, hx840, h⟩ := Sh.bind_some' h
              obtain ⟨k841, hi841, hl841⟩ := Sh.idx_some hx840
              refine ARH.dry rfl (fun _ => t_index_sl G.api_Txn.av c_1.Txns hi841 hl841 rfl rfl rfl el22 rfl) <| ARH.keep [0, 1, 19, 20, 21, 4, 3, 5, 46, 47, 48, 9, 55, 56, 57, 58, 59, 60, 61, 62, 63, 64, 65, 66, 67, 68, 69, 70, 71, 72, 73, 74, 75, 76, 77, 78] rfl <| ARH.dry rfl (fun _ => aop_field_pp rfl rfl fd58_1 (by decide)) <| ARH.dry (r := .sl (List.map i64 x840.Writes)) rfl (fun _ => aop_load_pp rfl rfl sz36 rfl) <| ARH.dry rfl (fun _ => aop_field_pp rfl rfl fd78_0 (by decide)) <| ARH.keep [0, 1, 19, 20, 21, 4, 3, 5, 46, 47, 48, 9, 55, 56, 57, 58, 59, 60, 61, 62, 63, 64, 65, 66, 67, 68, 69, 70, 71, 72, 73, 74, 75, 76, 77, 78, 79, 80, 81] rfl <| ARH.dry (r := i64 x801.Key) rfl (fun _ => aop_load_pp rfl rfl sz3 rfl) ?_
              obtain ⟨r842, hr842, h⟩ := Sh.bind_some' h
              refine ARH.dry (r := bl r842) rfl (fun _ => aop_call1 rfl rfl (by simp) (slices_Contains_int_int_ok hT hr842)) <| ARH.dry rfl (fun _ => aop_pick rfl rfl rfl) <| ARH.keep [0, 1, 19, 20, 21, 4, 3, 5, 46, 47, 48, 9, 55, 56, 57, 58, 59, 60, 61, 62, 63, 64, 65, 66, 67, 68, 69, 70, 71, 72, 73, 74, 75, 76, 77, 78, 79, 80, 81, 82, 83, 84] rfl <| ARH.dry rfl (fun _ => aop_pick rfl rfl rfl) <| ARH.dry rfl (fun _ => aop_move (.inr rfl) rfl) <| ARH.nil ?_
              exact hK19 r842 _ h (Weak.kt [0, 1, 19, 20, 21, 4, 3, 5, 46, 47, 48, 9, 10] rfl)
             ·rw [hb839]
              replace h := Sh.if_f h hb839
              refine ARH.skip rfl <| ARH.skip rfl <| ARH.keep [0, 1, 19, 20, 21, 4, 3, 5, 46, 47, 48, 9, 55, 56, 57, 58, 59, 60, 61, 62, 63, 64, 65, 66, 67, 68, 69, 70, 71, 72, 73, 74, 75] rfl <| ARH.skip rfl <| ARH.skip rfl <| ARH.skip rfl <| ARH.keep [0, 1, 19, 20, 21, 4, 3, 5, 46, 47, 48, 9, 55, 56, 57, 58, 59, 60, 61, 62, 63, 64, 65, 66, 67, 68, 69, 70, 71, 72, 73, 74, 75, 76, 77, 78] rfl <| ARH.skip rfl ?_
              refine ARH.skip rfl <| ARH.skip rfl <| ARH.keep [0, 1, 19, 20, 21, 4, 3, 5, 46, 47, 48, 9, 55, 56, 57, 58, 59, 60, 61, 62, 63, 64, 65, 66, 67, 68, 69, 70, 71, 72, 73, 74, 75, 76, 77, 78, 79, 80, 81] rfl <| ARH.skip rfl <| ARH.skip rfl <| ARH.dry rfl (fun _ => aop_pick rfl rfl rfl) <| ARH.keep [0, 1, 19, 20, 21, 4, 3, 5, 46, 47, 48, 9, 55, 56, 57, 58, 59, 60, 61, 62, 63, 64, 65, 66, 67, 68, 69, 70, 71, 72, 73, 74, 75, 76, 77, 78, 79, 80, 81, 82, 83, 84] rfl <| ARH.dry rfl (fun _ => aop_pick rfl rfl rfl) ?_
              refine ARH.dry rfl (fun _ => aop_move (.inr rfl) rfl) <| ARH.nil ?_
              exact hK19 false _ h (Weak.kt [0, 1, 19, 20, 21, 4, 3, 5, 46, 47, 48, 9, 10] rfl)
            ·rw [hb838]
             replace h := Sh.if_f h hb838
             refine ARH.skip rfl <| ARH.skip rfl <| ARH.keep [0, 1, 19, 20, 21, 4, 3, 5, 46, 47, 48, 9, 55, 56, 57, 58, 59, 60, 61, 62, 63, 64, 65, 66, 67, 68, 69] rfl <| ARH.skip rfl <| ARH.skip rfl <| ARH.dry rfl (fun _ => aop_pick rfl rfl rfl) <| ARH.keep [0, 1, 19, 20, 21, 4, 3, 5, 46, 47, 48, 9, 55, 56, 57, 58, 59, 60, 61, 62, 63, 64, 65, 66, 67, 68, 69, 70, 71, 72] rfl <| ARH.dry rfl (fun _ => aop_move (.inl rfl) rfl) ?_
             refine ARH.skip rfl <| ARH.skip rfl <| ARH.keep [0, 1, 19, 20, 21, 4, 3, 5, 46, 47, 48, 9, 55, 56, 57, 58, 59, 60, 61, 62, 63, 64, 65, 66, 67, 68, 69, 70, 71, 72, 73, 74, 75] rfl <| ARH.skip rfl <| ARH.skip rfl <| ARH.skip rfl <| ARH.keep [0, 1, 19, 20, 21, 4, 3, 5, 46, 47, 48, 9, 55, 56, 57, 58, 59, 60, 61, 62, 63, 64, 65, 66, 67, 68, 69, 70, 71, 72, 73, 74, 75, 76, 77, 78] rfl <| ARH.skip rfl ?_
             refine ARH.skip rfl <| ARH.skip rfl <| ARH.keep [0, 1, 19, 20, 21, 4, 3, 5, 46, 47, 48, 9, 55, 56, 57, 58, 59, 60, 61, 62, 63, 64, 65, 66, 67, 68, 69, 70, 71, 72, 73, 74, 75, 76, 77, 78, 79, 80, 81] rfl <| ARH.skip rfl <| ARH.skip rfl <| ARH.dry rfl (fun _ => aop_pick rfl rfl rfl) <| ARH.keep [0, 1, 19, 20, 21, 4, 3, 5, 46, 47, 48, 9, 55, 56, 57, 58, 59, 60, 61, 62, 63, 64, 65, 66, 67, 68, 69, 70, 71, 72, 73, 74, 75, 76, 77, 78, 79, 80, 81, 82, 83, 84] rfl <| ARH.dry rfl (fun _ => aop_pick rfl rfl rfl) ?_
             refine ARH.dry rfl (fun _ => aop_move (.inr rfl) rfl) <| ARH.nil ?_
             exact hK19 false _ h (Weak.kt [0, 1, 19, 20, 21, 4, 3, 5, 46, 47, 48, 9, 10] rfl)
           ·rw [hb837]
            replace h := Sh.if_f h hb837
            refine ARH.skip rfl <| ARH.keep [0, 1, 19, 20, 21, 4, 3, 5, 46, 47, 48, 9, 55, 56, 57, 58, 59, 60] rfl <| ARH.skip rfl <| ARH.skip rfl <| ARH.skip rfl <| ARH.keep [0, 1, 19, 20, 21, 4, 3, 5, 46, 47, 48, 9, 55, 56, 57, 58, 59, 60, 61, 62, 63] rfl <| ARH.skip rfl <| ARH.skip rfl ?_
            refine ARH.dry rfl (fun _ => aop_pick rfl rfl rfl) <| ARH.keep [0, 1, 19, 20, 21, 4, 3, 5, 46, 47, 48, 9, 55, 56, 57, 58, 59, 60, 61, 62, 63, 64, 65, 66] rfl <| ARH.dry rfl (fun _ => aop_move (.inl rfl) rfl) <| ARH.skip rfl <| ARH.skip rfl <| ARH.keep [0, 1, 19, 20, 21, 4, 3, 5, 46, 47, 48, 9, 55, 56, 57, 58, 59, 60, 61, 62, 63, 64, 65, 66, 67, 68, 69] rfl <| ARH.skip rfl <| ARH.skip rfl ?_
            refine ARH.dry rfl (fun _ => aop_pick rfl rfl rfl) <| ARH.keep [0, 1, 19, 20, 21, 4, 3, 5, 46, 47, 48, 9, 55, 56, 57, 58, 59, 60, 61, 62, 63, 64, 65, 66, 67, 68, 69, 70, 71, 72] rfl <| ARH.dry rfl (fun _ => aop_move (.inl rfl) rfl) <| ARH.skip rfl <| ARH.skip rfl <| ARH.keep [0, 1, 19, 20, 21, 4, 3, 5, 46, 47, 48, 9, 55, 56, 57, 58, 59, 60, 61, 62, 63, 64, 65, 66, 67, 68, 69, 70, 71, 72, 73, 74, 75] rfl <| ARH.skip rfl <| ARH.skip rfl ?_
            refine ARH.skip rfl <| ARH.keep [0, 1, 19, 20, 21, 4, 3, 5, 46, 47, 48, 9, 55, 56, 57, 58, 59, 60, 61, 62, 63, 64, 65, 66, 67, 68, 69, 70, 71, 72, 73, 74, 75, 76, 77, 78] rfl <| ARH.skip rfl <| ARH.skip rfl <| ARH.skip rfl <| ARH.keep [0, 1, 19, 20, 21, 4, 3, 5, 46, 47, 48, 9, 55, 56, 57, 58, 59, 60, 61, 62, 63, 64, 65, 66, 67, 68, 69, 70, 71, 72, 73, 74, 75, 76, 77, 78, 79, 80, 81] rfl <| ARH.skip rfl <| ARH.skip rfl ?_
            refine ARH.dry rfl (fun _ => aop_pick rfl rfl rfl) <| ARH.keep [0, 1, 19, 20, 21, 4, 3, 5, 46, 47, 48, 9, 55, 56, 57, 58, 59, 60, 61, 62, 63, 64, 65, 66, 67, 68, 69, 70, 71, 72, 73, 74, 75, 76, 77, 78, 79, 80, 81, 82, 83, 84] rfl <| ARH.dry rfl (fun _ => aop_pick rfl rfl rfl) <| ARH.dry rfl (fun _ => aop_move (.inr rfl) rfl) <| ARH.nil ?_
            exact hK19 false _ h (Weak.kt [0, 1, 19, 20, 21, 4, 3, 5, 46, 47, 48, 9, 10] rfl)
        ·replace h := Sh.if_f h hb779
         refine awp_exit ?_
         replace h := Sh.exit_eq h hx2
         exact hK11 c776 _ h (Weak.kt [0, 1, 19, 20, 21, 4] rfl)
     ·intro K20 hK20
      refine awp_seqK fun K21 hK21 => awp_reg rfl <| AR.op rfl (aop_field_pp rfl rfl fd58_1 (by decide)) <| AR.op (r := .sl (List.map i64 x628.Writes)) rfl (aop_load_pp rfl rfl sz36 rfl) <| AR.op rfl (t_len_sl i64 x628.Writes rfl rfl el36) <| AR.keep [0, 1, 19, 20, 21, 4, 3, 5, 27, 28] rfl <| AR.op rfl (aop_move (.inl rfl) rfl) <| AR.nil ?_
      refine hK21 _ ?_
      refine awp_block <| awp_iter (fun (p : Bool × Int × Int) => G.hist_faults_1__hist_Right__r_b3 c_1 v523 x628 p.1 p.2.1 p.2.2) (fun (p : Bool × Int × Int) => (⟨[(0, .clo (.yield l) []), (1, .pp [.sl (List.map G.api_Txn.av c_1.Txns)] 0), (19, .sl (List.map G.api_Txn.av c_1.Txns)), (20, i64 (Sh.len c_1.Txns)), (21, i64 v523), (4, .pp [i64 x628.Session, .sl (List.map i64 x628.Writes), .sl (List.map G.api_Take.av x628.Reads)] 0), (3, i64 v523), (5, i64 p.2.1), (27, .sl (List.map i64 x628.Writes)), (28, i64 (Sh.len x628.Writes)), (29, i64 p.2.2)], ⟨1, [(0, (1, [bl p.1]))], [(l, lpst rec .ret true)]⟩⟩ : St)) h (Weak.kt [0, 1, 19, 20, 21, 4, 3, 5, 27, 28, 29] rfl) ?_
      ·skip
       rintro ⟨c862, last863, v864⟩ o3 h hx3
       replace h : G.hist_faults_1__hist_Right__r_b3 c_1 v523 x628 c862 last863 v864 = some o3 := h
       unfold G.hist_faults_1__hist_Right__r_b3 at h
       refine awp_seqK fun K22 hK22 => awp_reg rfl <| AR.op rfl (aop_lss rfl rfl rfl) <| AR.nil <| hK22 _ ?_
       refine awp_seqK fun K23 hK23 => awp_cond rfl (fun hb865 => ?_) (fun hb865 => ?_)
       ·replace h := Sh.if_t h hb865
        refine awp_skip <| hK23 _ (AWP.weak (Weak.kt [0, 1, 19, 20, 21, 4, 3, 5, 27, 28, 29] rfl) ?_)
        refine awp_seqK fun K24 hK24 => awp_block <| awp_seqK fun K25 hK25 => awp_reg rfl ?_
        obtain ⟨x876, hx876, h⟩ := Sh.bind_some' h
        obtain ⟨k877, hi877, hl877⟩ := Sh.idx_some hx876
        refine AR.op rfl (t_index_sl i64 x628.Writes hi877 hl877 rfl rfl rfl el36 rfl) <| AR.op (r := i64 x876) rfl (aop_load_pp rfl rfl sz3 rfl) <| AR.op rfl (aop_move (.inr rfl) rfl) <| AR.nil <| hK25 _ (AWP.weak (Weak.kt [0, 1, 19, 20, 21, 4, 3, 5, 27, 28, 29, 7] rfl) ?_)
        refine awp_seqJ (fun (p : Bool) => (⟨[(0, .clo (.yield l) []), (1, .pp [.sl (List.map G.api_Txn.av c_1.Txns)] 0), (19, .sl (List.map G.api_Txn.av c_1.Txns)), (20, i64 (Sh.len c_1.Txns)), (21, i64 v523), (4, .pp [i64 x628.Session, .sl (List.map i64 x628.Writes), .sl (List.map G.api_Take.av x628.Reads)] 0), (3, i64 v523), (27, .sl (List.map i64 x628.Writes)), (28, i64 (Sh.len x628.Writes)), (29, i64 v864), (7, i64 x876)], ⟨1, [(0, (1, [bl p]))], [(l, lpst rec .ret true)]⟩⟩ : St)) (fun (p : Bool) => G.hist_faults_1__hist_Right__r_j6 v864 x876 p = some o3) ?_ ?_
        ·rintro c883 h
         replace h : G.hist_faults_1__hist_Right__r_j6 v864 x876 c883 = some o3 := h
         unfold G.hist_faults_1__hist_Right__r_j6 at h
         refine awp_reg rfl <| AR.op rfl (aop_move (.inl rfl) rfl) <| AR.op rfl (aop_move (.inr rfl) rfl) <| AR.nil <| hK24 _ (AWP.weak (Weak.kt [0, 1, 19, 20, 21, 4, 3, 27, 28, 29, 5] rfl) ?_)
         refine awp_reg rfl <| AR.op rfl (aop_add rfl rfl rfl rfl) <| AR.op rfl (aop_move (.inl rfl) rfl) <| AR.nil ?_
         replace h := Sh.next_eq h
         exact ⟨_, h, Weak.kt [0, 1, 19, 20, 21, 4, 3, 5, 27, 28, 29] rfl⟩
        ·intro K26 hK26
         refine awp_seqK fun K27 hK27 => awp_reg rfl <| AR.op rfl (aop_move (.inl rfl) rfl) <| AR.op rfl (aop_move (.inl rfl) rfl) <| AR.op rfl (aop_move (.inl rfl) rfl) <| AR.keep [0, 1, 19, 20, 21, 4, 3, 27, 28, 29, 7, 33, 34, 35] rfl <| AR.op rfl (aop_gtr rfl rfl rfl) <| AR.op rfl (aop_move (.inl rfl) rfl) ?_
         rcases Bool.eq_false_or_eq_true (decide (last863 < x876)) with hb889 | hb889
         ·rw [hb889]
          replace h := Sh.if_t h hb889
          refine AR.op rfl (aop_move (.inl rfl) rfl) <| AR.keep [0, 1, 19, 20, 21, 4, 3, 27, 28, 29, 7, 33, 37, 38] rfl <| AR.op rfl (aop_lss rfl rfl rfl) <| AR.op rfl (aop_pick rfl rfl rfl) ?_
          obtain ⟨y890, hy890, h⟩ := Sh.bind_some' h
          refine AR.opI (r := bl y890.2) rfl (aop_yield3 (ok := NoId) (ys := [bl (decide (x876 < 16))]) (xs := [bl (decide (x876 < 16))]) (Hs := ⟨1, [(0, (1, [bl c862]))], [(l, rec)]⟩) (H' := ⟨2, [(0, (1, [bl y890.1]))], [(l, lpst rec .ret y890.2)]⟩) (g := [(0, 0)]) (m := [(0, 0)]) (nw := []) (p := 1) rfl rfl rfl (hist_Right__r_ok hT hrec hy890) hrec rfl (by rw [hrec.params rfl]; rfl) { next := rfl, part := ⟨rfl, trivial⟩, inj := rfl, lt := rfl, nwf := rfl, gin := rfl, held := .cons rfl rfl (.one (.sm) rfl) dt trivial, seen := ⟨⟨_, rfl, .sm⟩, trivial⟩, inlps := rfl, ple := rfl, map := rfl, next' := rfl, back := .new 0 rfl rfl (.one ⟨.sm, trivial⟩) trivial, lps := .inr ⟨rfl, rfl⟩, mode := .inr ⟨fun _ h => h, rfl⟩, ren := .sm } rfl rfl rfl) ?_
          rcases Bool.eq_false_or_eq_true (y890.2) with hb891 | hb891
          ·rw [hb891]
           replace h := Sh.if_t h hb891
           refine AR.op (r := bl false) rfl (aop_not (b := true) rfl rfl) <| AR.nil <| hK27 _ (AWP.weak (Weak.re (fr' := [(0, .clo (.yield l) []), (1, .pp [.sl (List.map G.api_Txn.av c_1.Txns)] 0), (19, .sl (List.map G.api_Txn.av c_1.Txns)), (20, i64 (Sh.len c_1.Txns)), (21, i64 v523), (4, .pp [i64 x628.Session, .sl (List.map i64 x628.Writes), .sl (List.map G.api_Take.av x628.Reads)] 0), (3, i64 v523), (27, .sl (List.map i64 x628.Writes)), (28, i64 (Sh.len x628.Writes)), (29, i64 v864), (7, i64 x876), (38, i64 x876), (39, bl (decide (x876 < 16))), (42, bl false)]) (H' := ⟨1, [(0, (1, [bl y890.1]))], [(l, lpst rec .ret true)]⟩) [(0, 0)] [] rfl rfl rfl (.cons rfl rfl (.one (.sm) rfl) dt trivial) ⟨.k, .k, ⟨.sl (List.map G.api_Txn.av c_1.Txns), rfl, .sm⟩, .k, .k, .k, .k, ⟨.sl (List.map i64 x628.Writes), rfl, .sm⟩, .k, .k, .k, .k, .k, .k, trivial⟩) ?_)
           refine awp_cond_f rfl ?_
           refine awp_skip ?_
           exact hK26 y890.1 _ h (Weak.kt [0, 1, 19, 20, 21, 4, 3, 27, 28, 29, 7] rfl)
          ·rw [hb891]
           replace h := Sh.if_f h hb891
           refine AR.op (r := bl true) rfl (aop_not (b := false) rfl rfl) <| AR.nil <| hK27 _ (AWP.weak (Weak.re (fr' := [(0, .clo (.yield l) []), (1, .pp [.sl (List.map G.api_Txn.av c_1.Txns)] 0), (19, .sl (List.map G.api_Txn.av c_1.Txns)), (20, i64 (Sh.len c_1.Txns)), (21, i64 v523), (4, .pp [i64 x628.Session, .sl (List.map i64 x628.Writes), .sl (List.map G.api_Take.av x628.Reads)] 0), (3, i64 v523), (27, .sl (List.map i64 x628.Writes)), (28, i64 (Sh.len x628.Writes)), (29, i64 v864), (7, i64 x876), (38, i64 x876), (39, bl (decide (x876 < 16))), (42, bl true)]) (H' := ⟨1, [(0, (1, [bl y890.1]))], [(l, lpst rec .ret false)]⟩) [(0, 0)] [] rfl rfl rfl (.cons rfl rfl (.one (.sm) rfl) dt trivial) ⟨.k, .k, ⟨.sl (List.map G.api_Txn.av c_1.Txns), rfl, .sm⟩, .k, .k, .k, .k, ⟨.sl (List.map i64 x628.Writes), rfl, .sm⟩, .k, .k, .k, .k, .k, .k, trivial⟩) ?_)
           refine awp_cond_t rfl ?_
           refine awp_ret ?_
           replace h := Sh.exit_eq h hx3
           replace h := Sh.exit_eq h hx1
           obtain rfl := Option.some.inj h
           refine ⟨.inr rfl, .tuple [], rfl, ?_⟩
           exact Weak.re [(0, 0)] [] rfl rfl rfl (.cons rfl rfl (.one (.sm) rfl) dt trivial) ⟨⟨.tuple [], rfl, .tp trivial⟩, trivial⟩
         ·rw [hb889]
          replace h := Sh.if_f h hb889
          refine AR.skip rfl <| AR.keep [0, 1, 19, 20, 21, 4, 3, 27, 28, 29, 7, 33, 37, 38] rfl <| AR.skip rfl <| AR.op rfl (aop_pick rfl rfl rfl) ?_
          obtain ⟨y892, hy892, h⟩ := Sh.bind_some' h
          refine AR.opI (r := bl y892.2) rfl (aop_yield3 (ok := NoId) (ys := [bl false]) (xs := [bl false]) (Hs := ⟨1, [(0, (1, [bl c862]))], [(l, rec)]⟩) (H' := ⟨2, [(0, (1, [bl y892.1]))], [(l, lpst rec .ret y892.2)]⟩) (g := [(0, 0)]) (m := [(0, 0)]) (nw := []) (p := 1) rfl rfl rfl (hist_Right__r_ok hT hrec hy892) hrec rfl (by rw [hrec.params rfl]; rfl) { next := rfl, part := ⟨rfl, trivial⟩, inj := rfl, lt := rfl, nwf := rfl, gin := rfl, held := .cons rfl rfl (.one (.sm) rfl) dt trivial, seen := ⟨⟨_, rfl, .sm⟩, trivial⟩, inlps := rfl, ple := rfl, map := rfl, next' := rfl, back := .new 0 rfl rfl (.one ⟨.sm, trivial⟩) trivial, lps := .inr ⟨rfl, rfl⟩, mode := .inr ⟨fun _ h => h, rfl⟩, ren := .sm } rfl rfl rfl) ?_
          rcases Bool.eq_false_or_eq_true (y892.2) with hb893 | hb893
          ·rw [hb893]
           replace h := Sh.if_t h hb893
           refine AR.op (r := bl false) rfl (aop_not (b := true) rfl rfl) <| AR.nil <| hK27 _ (AWP.weak (Weak.re (fr' := [(0, .clo (.yield l) []), (1, .pp [.sl (List.map G.api_Txn.av c_1.Txns)] 0), (19, .sl (List.map G.api_Txn.av c_1.Txns)), (20, i64 (Sh.len c_1.Txns)), (21, i64 v523), (4, .pp [i64 x628.Session, .sl (List.map i64 x628.Writes), .sl (List.map G.api_Take.av x628.Reads)] 0), (3, i64 v523), (27, .sl (List.map i64 x628.Writes)), (28, i64 (Sh.len x628.Writes)), (29, i64 v864), (7, i64 x876), (38, .tuple []), (39, .tuple []), (42, bl false)]) (H' := ⟨1, [(0, (1, [bl y892.1]))], [(l, lpst rec .ret true)]⟩) [(0, 0)] [] rfl rfl rfl (.cons rfl rfl (.one (.sm) rfl) dt trivial) ⟨.k, .k, ⟨.sl (List.map G.api_Txn.av c_1.Txns), rfl, .sm⟩, .k, .k, .k, .k, ⟨.sl (List.map i64 x628.Writes), rfl, .sm⟩, .k, .k, .k, .k, .k, .k, trivial⟩) ?_)
           refine awp_cond_f rfl ?_
           refine awp_skip ?_
           exact hK26 y892.1 _ h (Weak.kt [0, 1, 19, 20, 21, 4, 3, 27, 28, 29, 7] rfl)
          ·rw [hb893]
           replace h := Sh.if_f h hb893
           refine AR.op (r := bl true) rfl (aop_not (b := false) rfl rfl) <| AR.nil <| hK27 _ (AWP.weak (Weak.re (fr' := [(0, .clo (.yield l) []), (1, .pp [.sl (List.map G.api_Txn.av c_1.Txns)] 0), (19, .sl (List.map G.api_Txn.av c_1.Txns)), (20, i64 (Sh.len c_1.Txns)), (21, i64 v523), (4, .pp [i64 x628.Session, .sl (List.map i64 x628.Writes), .sl (List.map G.api_Take.av x628.Reads)] 0), (3, i64 v523), (27, .sl (List.map i64 x628.Writes)), (28, i64 (Sh.len x628.Writes)), (29, i64 v864), (7, i64 x876), (38, .tuple []), (39, .tuple []), (42, bl true)]) (H' := ⟨1, [(0, (1, [bl y892.1]))], [(l, lpst rec .ret false)]⟩) [(0, 0)] [] rfl rfl rfl (.cons rfl rfl (.one (.sm) rfl) dt trivial) ⟨.k, .k, ⟨.sl (List.map G.api_Txn.av c_1.Txns), rfl, .sm⟩, .k, .k, .k, .k, ⟨.sl (List.map i64 x628.Writes), rfl, .sm⟩, .k, .k, .k, .k, .k, .k, trivial⟩) ?_)
           refine awp_cond_t rfl ?_
           refine awp_ret ?_
           replace h := Sh.exit_eq h hx3
           replace h := Sh.exit_eq h hx1
           obtain rfl := Option.some.inj h
           refine ⟨.inr rfl, .tuple [], rfl, ?_⟩
           exact Weak.re [(0, 0)] [] rfl rfl rfl (.cons rfl rfl (.one (.sm) rfl) dt trivial) ⟨⟨.tuple [], rfl, .tp trivial⟩, trivial⟩
       ·replace h := Sh.if_f h hb865
        refine awp_exit ?_
        replace h := Sh.exit_eq h hx3
        exact hK20 c862 _ h (Weak.kt [0, 1, 19, 20, 21, 4, 3] rfl)
   ·replace h := Sh.if_f h hb524
    refine awp_exit ?_
    replace h := Sh.exit_eq h hx1
    obtain rfl := Option.some.inj h
    refine ⟨.inl rfl, .tuple [], rfl, ?_⟩
    exact Weak.re [(0, 0)] [] rfl rfl rfl (.cons rfl rfl (.one (.sm) rfl) dt trivial) ⟨⟨.tuple [], rfl, .tp trivial⟩, trivial⟩
 ·rw [hb317]
  replace h := Sh.if_f h hb317
  refine AR.op (r := bl true) rfl (aop_not (b := false) rfl rfl) <| AR.nil <| hK2 _ (AWP.weak (Weak.re (fr' := [(0, .clo (.yield l) []), (1, .pp [.sl (List.map G.api_Txn.av c_1.Txns)] 0), (17, bl true)]) (H' := ⟨1, [(0, (1, [bl y316.1]))], [(l, lpst rec .ret false)]⟩) [(0, 0)] [] rfl rfl rfl (.cons rfl rfl (.one (.sm) rfl) dt trivial) ⟨.k, .k, .k, trivial⟩) ?_)
  refine awp_cond_t rfl ?_
  refine awp_ret ?_
  obtain rfl := Option.some.inj h
  refine ⟨.inr rfl, .tuple [], rfl, ?_⟩
  exact Weak.re [(0, 0)] [] rfl rfl rfl (.cons rfl rfl (.one (.sm) rfl) dt trivial) ⟨⟨.tuple [], rfl, .tp trivial⟩, trivial⟩


theorem hist_Right_ok0 {W0 : World} (hT : Tab W0) {h_0 : G.api_Hist} {r : Bool} (h : G.hist_Right h_0 = some r) : Fun2 Try.prog W0 25 [G.api_Hist.av h_0] (bl r) .empty := by
 refine fun2_of_awp Try.func25 rfl (by kernel_rfl) Try.ntmps25 (by simp) ?_
 unfold G.hist_Right at h
 show AWP _ _ _ _ ⟨[(0, G.api_Hist.av h_0)], .empty⟩ _
 refine awp_seqK fun K1 hK1 => awp_reg rfl <| AR.op (r := .ref 0 0 0) rfl (aop_box 1 [G.api_Hist.av h_0] rfl rfl rfl (.inl ⟨rfl, rfl⟩)) <| AR.op (r := .ref 1 0 0) rfl (aop_alloc 1 [bl false] rfl zr4 rfl (.inl ⟨rfl, rfl⟩)) <| AR.nil <| hK1 _ (AWP.weak (Weak.re (fr' := [(1, .pp [.sl (List.map G.api_Txn.av h_0.Txns)] 0), (2, .ref 0 0 0)]) (H' := ⟨1, [(0, (1, [bl false]))], []⟩) [(0, 1)] [] rfl rfl rfl (.cons rfl rfl (.one (.sm) rfl) dt trivial) ⟨⟨_, rfl, .frzA rfl rfl rfl rfl (by simp)⟩, ⟨_, rfl, .ref rfl⟩, trivial⟩) ?_)
 refine awp_seqK fun K2 hK2 => awp_seqK fun K3 hK3 => awp_reg rfl <| AR.op (r := G.api_Hist.av h_0) rfl (aop_load_pp rfl rfl sz24 rfl) ?_
 obtain ⟨r8, hr8, h⟩ := Sh.bind_some' h
 refine AR.op (r := .clo (.func 48) [.pp [.sl (List.map G.api_Txn.av h_0.Txns)] 0]) rfl (aop_call3E (ok := NoId) (ys := [G.api_Hist.av h_0]) (xs := [G.api_Hist.av h_0]) (r' := .clo (.func 48) [.pp [.sl (List.map G.api_Txn.av h_0.Txns)] 0]) (Hs := ⟨1, [], []⟩) (H' := ⟨1, [(0, (1, [bl false]))], []⟩) (g := []) (m := []) (nw := []) (p := 0) (.func rfl rfl (hist_faults_ok hT hr8).call) (hist_faults_ok hT hr8) { next := rfl, part := trivial, inj := rfl, lt := rfl, nwf := rfl, gin := rfl, held := trivial, seen := ⟨⟨G.api_Hist.av h_0, rfl, .sm⟩, trivial⟩, inlps := rfl, ple := rfl, map := rfl, next' := rfl, back := .kept rfl rfl trivial, lps := .inl ⟨rfl, rfl⟩, mode := .inr ⟨fun _ h => h, rfl⟩, ren := .sm } rfl) <| AR.nil <| hK3 _ (AWP.weak (Weak.kt [2, 5] rfl) ?_)
 refine awp_block ?_
 obtain ⟨it9, hit9, h⟩ := Sh.bind_some' h
 refine awp_range (ok := NoId) (j := .ret) (b := it9.2) (frl := [(2, .ref 0 0 0)]) (fn := Try.f25) (k := 0) (p := 1) (xs := [.pp [.sl (List.map G.api_Txn.av h_0.Txns)] 0]) (r := .tuple []) (Hs := ⟨1, [(0, (1, [bl false]))], []⟩) (Hin := ⟨1, [(0, (1, [bl false]))], []⟩) (Hout := ⟨1, [(0, (1, [bl it9.1]))], []⟩) (H' := ⟨2, [(0, (1, [bl it9.1]))], []⟩) (g := [(0, 0)]) (m := [(0, 0)]) (nw := []) rfl rfl rfl ca48 rfl (UnderL.spec ⟨.ref _ _ _ (by decide), trivial⟩) ⟨⟨_, rfl, .ref rfl⟩, trivial⟩ (fun l rec hrec => hist_faults_1__hist_Right__r_ok hT hrec hit9) (fun l rec => { next := rfl, part := ⟨rfl, trivial⟩, inj := rfl, lt := rfl, nwf := rfl, gin := rfl, held := .cons rfl rfl (.one (.sm) rfl) dt trivial, seen := ⟨⟨_, rfl, .sm⟩, ⟨_, rfl, .sm⟩, trivial⟩, inlps := rfl, ple := rfl, map := rfl, next' := rfl, back := .new 0 rfl rfl (.one ⟨.sm, trivial⟩) trivial, lps := .inr ⟨rfl, rfl⟩, mode := .inr ⟨fun _ h => h, rfl⟩, ren := .any _ }) rfl (fun hb10 => ?_) (fun hb10 => ?_)
 ·replace h := Sh.if_t h hb10
  refine hK2 _ (AWP.weak (Weak.re (fr' := [(2, .ref 0 0 0)]) (H' := ⟨1, [(0, (1, [bl it9.1]))], []⟩) [(0, 0)] [] rfl rfl rfl (.cons rfl rfl (.one (.sm) rfl) dt trivial) ⟨⟨_, rfl, .ref rfl⟩, trivial⟩) ?_)
  refine awp_seqK fun K4 hK4 => awp_reg rfl <| AR.op rfl (aop_store (e' := bl true) rfl rfl rfl rfl rfl rfl sz4 rfl dt rfl) <| AR.nil <| hK4 _ ?_
  refine awp_ret ?_
  obtain rfl := Option.some.inj h
  refine ⟨.inr rfl, bl true, rfl, ?_⟩
  exact Weak.e ⟨.k, trivial⟩
 ·replace h := Sh.if_f h hb10
  refine awp_ret ?_
  obtain rfl := Option.some.inj h
  refine ⟨.inr rfl, bl it9.1, rfl, ?_⟩
  exact Weak.e ⟨.k, trivial⟩
theorem hist_Right_ok {W0 : World} (hT : Tab W0) {h_0 : G.api_Hist} {r : Bool} (h : G.hist_Right h_0 = some r) : Fun1 Try.prog W0 25 [G.api_Hist.av h_0] (bl r) := Fun1.two (hist_Right_ok0 hT h) (by simp)

end Wk
