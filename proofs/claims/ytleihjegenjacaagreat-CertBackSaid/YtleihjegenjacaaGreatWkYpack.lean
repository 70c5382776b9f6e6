/- That the functions of a package do what their plain functions say. -/
import Derived.Test.YtleihjegenjacaaGreatSh
import Derived.Test.YtleihjegenjacaaGreatWkYFacts
open Go Go.Av Go.Proofs
set_option linter.unusedVariables false
set_option maxHeartbeats 8000000
set_option maxRecDepth 20000
namespace Wk
theorem pack_groups_ok {W0 : World} (hT : Tab W0) {n_0 : Int} {r : Unit} (h : G.pack_groups n_0 = some r) : Fun3 Tryz.prog (.pinned W0 0) 64 [i64 n_0] .empty (.clo (.func 99) [.ref 0 0 0]) ⟨1, [(0, (1, [i64 n_0]))], []⟩ := by
 refine fun3_of_awp rfl Tryz.func64 rfl (by kernel_rfl) Tryz.ntmps64 (by simp) ?_
 unfold G.pack_groups at h
 show AWP _ _ _ _ ⟨[(0, i64 n_0)], .empty⟩ _
 refine awp_seqK fun K1 hK1 => awp_reg rfl <| AR.op (r := .ref 0 0 0) rfl (aop_box 1 [i64 n_0] rfl rfl rfl (.inl ⟨rfl, rfl⟩)) <| AR.op rfl (aop_move (.inr rfl) rfl) <| AR.nil <| hK1 _ (AWP.weak (Weak.kt [1] rfl) ?_)
 refine awp_seqK fun K2 hK2 => awp_reg rfl <| AR.op (r := .clo (.func 99) [.ref 0 0 0]) rfl (aop_makeFunc rfl rfl) <| AR.op rfl (aop_move (.inr rfl) rfl) <| AR.nil <| hK2 _ (AWP.weak (Weak.kt [2] rfl) ?_)
 refine awp_ret ?_
 obtain rfl := Option.some.inj h
 refine ⟨.inr rfl, .clo (.func 99) [.ref 0 0 0], rfl, ?_⟩
 exact Weak.re [(0, 0)] [] rfl rfl rfl (.cons rfl rfl (.one (.sm) rfl) dt trivial) ⟨⟨.clo (.func 99) [.ref 0 0 0], rfl, .cl ⟨.ref rfl, trivial⟩⟩, trivial⟩


theorem pack_Put__r_ok {W0 : World} (hT : Tab W0) {l : Nat} {rec : Loop} (hrec : RecAt rec Tryz.f28 0 43) {l_0 : List Int} {y_1 : Int} {r : (List Int)} (h : G.pack_Put__r l_0 y_1 = some r) : Round3 Tryz.prog W0 1 l rec [(4, .ref 0 0 0)] [kA .u8 y_1] ⟨2, [(0, (1, [.view 1 0 (List.map (kA .u8) l_0).length])), (1, (1, List.map (kA .u8) l_0))], [(l, rec)]⟩ true ⟨2, [(0, (1, [.view 1 0 (List.map (kA .u8) r).length])), (1, (1, List.map (kA .u8) r))], [(l, lpst rec .ret true)]⟩ := by
 refine round3_of_awp hrec rfl rfl rfl rfl (by decide) ?_
 unfold G.pack_Put__r at h
 show AWP _ _ _ _ ⟨[(15, kA .u8 y_1), (4, .ref 0 0 0)], ⟨2, [(0, (1, [.view 1 0 (List.map (kA .u8) l_0).length])), (1, (1, List.map (kA .u8) l_0))], [(l, rec)]⟩⟩ _
 refine awp_reg rfl <| AR.op rfl (aop_move (.inr rfl) rfl) <| AR.nil <| ⟨rfl, rfl, ?_⟩
 refine AWP.weak (Weak.kt [4, 5] rfl) ?_
 show AWP _ _ _ _ ⟨[(4, .ref 0 0 0), (5, kA .u8 y_1)], ⟨2, [(0, (1, [.view 1 0 (List.map (kA .u8) l_0).length])), (1, (1, List.map (kA .u8) l_0))], [(l, { rec with state := .busy })]⟩⟩ _
 refine awp_block <| awp_reg rfl <| AR.op (r := .view 1 0 (List.map (kA .u8) l_0).length) rfl (aop_load_ref rfl rfl rfl rfl sz111 rfl) <| AR.op rfl (aop_move (.inl rfl) rfl) <| AR.op (r := .clip (List.map (kA .u8) [y_1])) rfl (aop_buildSlice rfl (xo := [.tmp 17]) rfl rfl rfl (by simp [AV.solid]) (by simp [AV.flat]) el111 ze111 (by decide)) <| AR.keep [4, 16, 18] rfl ?_
 obtain ⟨l3, hl3, h⟩ := Sh.bind_some' h
 refine AR.op (r := .view 2 0 (List.map (kA .u8) l3).length) rfl (t_app_view (kA .u8) l_0 [y_1] l3 hl3 rfl et111 (fun _ => rfl) rfl rfl rfl rfl rfl rfl rfl) <| AR.op rfl (aop_store (e' := .view 2 0 (List.map (kA .u8) l3).length) rfl rfl rfl rfl rfl rfl sz111 rfl dt rfl) <| AR.nil ?_
 obtain rfl := Option.some.inj h
 exact ⟨rfl, _, rfl, rfl, Weak.re [(0, 0), (1, 2)] [] rfl rfl rfl (.cons rfl rfl (.one (.view rfl) rfl) dt (.cons rfl rfl (.same (by simp)) dt trivial)) trivial⟩


theorem pack_groups_1__pack_Put__r_ok {W0 : World} (hT : Tab W0) {l : Nat} {rec : Loop} (hrec : RecAt rec Tryz.f28 0 43) {l_0 : List Int} {c_1 : Int} {r : (List Int)} (h : G.pack_groups_1__pack_Put__r l_0 c_1 = some r) : Fun3 Tryz.prog (.it W0 1 rec [(4, .ref 0 0 0)]) 99 [.clo (.yield l) [], .ref 2 0 0] ⟨3, [(0, (1, [.view 1 0 (List.map (kA .u8) l_0).length])), (1, (1, List.map (kA .u8) l_0)), (2, (1, [i64 c_1]))], [(l, lpst rec .ret true)]⟩ (.tuple []) ⟨2, [(0, (1, [.view 1 0 (List.map (kA .u8) r).length])), (1, (1, List.map (kA .u8) r))], [(l, lpst rec .ret true)]⟩ := by
 refine fun3_of_awp rfl Tryz.func99 rfl (by kernel_rfl) Tryz.ntmps99 (by simp) ?_
 unfold G.pack_groups_1__pack_Put__r at h
 show AWP _ _ _ _ ⟨[(0, .clo (.yield l) []), (1, .ref 2 0 0)], ⟨3, [(0, (1, [.view 1 0 (List.map (kA .u8) l_0).length])), (1, (1, List.map (kA .u8) l_0)), (2, (1, [i64 c_1]))], [(l, lpst rec .ret true)]⟩⟩ _
 refine awp_seqJ (fun (p : (List Int) × Int) => (⟨[(0, .clo (.yield l) []), (1, .ref 2 0 0)], ⟨3, [(0, (1, [.view 1 0 (List.map (kA .u8) p.1).length])), (1, (1, List.map (kA .u8) p.1)), (2, (1, [i64 p.2]))], [(l, lpst rec .ret true)]⟩⟩ : St)) (fun (p : (List Int) × Int) => G.pack_groups_1__pack_Put__r_j1 p.1 p.2 = some r) ?_ ?_
 ·rintro ⟨v29, v30⟩ h
  replace h : G.pack_groups_1__pack_Put__r_j1 v29 v30 = some r := h
  unfold G.pack_groups_1__pack_Put__r_j1 at h
  refine awp_reg rfl <| AR.op rfl (aop_move (.inl rfl) rfl) <| AR.op (r := i64 v30) rfl (aop_load_ref rfl rfl rfl rfl sz3 rfl) <| AR.op (r := kA .u8 (IntKind.u8.wrap v30)) rfl (aop_conv rfl rfl Tryz.underlying3 Tryz.underlying5 rfl) <| AR.keep [14, 16] rfl ?_
  obtain ⟨y31, hy31, h⟩ := Sh.bind_some' h
  refine AR.opI (r := bl true) rfl (aop_yield3 (ok := NoId) (ys := [kA .u8 (IntKind.u8.wrap v30)]) (xs := [kA .u8 (IntKind.u8.wrap v30)]) (Hs := ⟨3, [(0, (1, [.view 1 0 (List.map (kA .u8) v29).length])), (1, (1, List.map (kA .u8) v29))], [(l, rec)]⟩) (H' := ⟨5, [(0, (1, [.view 4 0 (List.map (kA .u8) y31).length])), (2, (1, [i64 v30])), (4, (1, List.map (kA .u8) y31))], [(l, lpst rec .ret true)]⟩) (g := [(0, 0), (1, 1)]) (m := [(0, 0), (1, 4)]) (nw := []) (p := 1) rfl rfl rfl (pack_Put__r_ok hT hrec hy31) hrec rfl (by rw [hrec.params rfl]; rfl) { next := rfl, part := ⟨rfl, rfl, trivial⟩, inj := rfl, lt := rfl, nwf := rfl, gin := rfl, held := .cons rfl rfl (.one (.view rfl) rfl) dt (.cons rfl rfl (.same (by simp)) dt trivial), seen := ⟨⟨_, rfl, .sm⟩, trivial⟩, inlps := rfl, ple := rfl, map := rfl, next' := rfl, back := .new 0 rfl rfl (.one ⟨.view rfl, trivial⟩) (.kept rfl rfl (.new 1 rfl rfl (.same (by simp [AV.flat])) trivial)), lps := .inr ⟨rfl, rfl⟩, mode := .inr ⟨fun _ h => h, rfl⟩, ren := .sm } rfl rfl rfl) ?_
  refine AR.nil ?_
  obtain rfl := Option.some.inj h
  refine ⟨.inl rfl, .tuple [], rfl, ?_⟩
  exact Weak.re [(0, 0), (1, 4)] [] rfl rfl rfl (.cons rfl rfl (.one (.view rfl) rfl) dt (.cons rfl rfl (.same (by simp)) dt trivial)) ⟨⟨.tuple [], rfl, .tp trivial⟩, trivial⟩
 ·intro K1 hK1
  refine awp_block <| awp_iter (fun (p : (List Int) × Int) => G.pack_groups_1__pack_Put__r_b1 p.1 p.2) (fun (p : (List Int) × Int) => (⟨[(0, .clo (.yield l) []), (1, .ref 2 0 0)], ⟨3, [(0, (1, [.view 1 0 (List.map (kA .u8) p.1).length])), (1, (1, List.map (kA .u8) p.1)), (2, (1, [i64 p.2]))], [(l, lpst rec .ret true)]⟩⟩ : St)) h (Weak.kt [0, 1] rfl) ?_
  ·skip
   rintro ⟨c40, v41⟩ o1 h hx1
   replace h : G.pack_groups_1__pack_Put__r_b1 c40 v41 = some o1 := h
   unfold G.pack_groups_1__pack_Put__r_b1 at h
   refine awp_seqK fun K2 hK2 => awp_seqK fun K3 hK3 => awp_reg rfl <| AR.op (r := i64 v41) rfl (aop_load_ref rfl rfl rfl rfl sz3 rfl) <| AR.op rfl (aop_geq rfl rfl rfl) <| AR.nil <| hK3 _ (AWP.weak (Weak.kt [0, 1, 4] rfl) ?_)
   refine awp_cond rfl (fun hb42 => ?_) (fun hb42 => ?_)
   ·replace h := Sh.if_t h hb42
    refine awp_skip <| hK2 _ (AWP.weak (Weak.kt [0, 1] rfl) ?_)
    refine awp_block <| awp_seqK fun K4 hK4 => awp_seqK fun K5 hK5 => awp_reg rfl <| AR.op rfl (aop_move (.inl rfl) rfl) <| AR.op (r := i64 v41) rfl (aop_load_ref rfl rfl rfl rfl sz3 rfl) ?_
    obtain ⟨q47, hq47, h⟩ := Sh.bind_some' h
    refine AR.op (r := i64 q47) rfl (aop_rem rfl rfl rfl (Sh.rem_some hq47).1 (Sh.rem_some hq47).2) <| AR.keep [0, 1, 5, 7] rfl <| AR.op (r := kA .u8 (IntKind.u8.wrap q47)) rfl (aop_conv rfl rfl Tryz.underlying3 Tryz.underlying5 rfl) <| AR.op (r := kA .u8 (Sh.bor .u8 (IntKind.u8.wrap q47) 128)) rfl (aop_bor rfl rfl rfl) ?_
    obtain ⟨y48, hy48, h⟩ := Sh.bind_some' h
    refine AR.opI (r := bl true) rfl (aop_yield3 (ok := NoId) (ys := [kA .u8 (Sh.bor .u8 (IntKind.u8.wrap q47) 128)]) (xs := [kA .u8 (Sh.bor .u8 (IntKind.u8.wrap q47) 128)]) (Hs := ⟨3, [(0, (1, [.view 1 0 (List.map (kA .u8) c40).length])), (1, (1, List.map (kA .u8) c40))], [(l, rec)]⟩) (H' := ⟨5, [(0, (1, [.view 4 0 (List.map (kA .u8) y48).length])), (2, (1, [i64 v41])), (4, (1, List.map (kA .u8) y48))], [(l, lpst rec .ret true)]⟩) (g := [(0, 0), (1, 1)]) (m := [(0, 0), (1, 4)]) (nw := []) (p := 1) rfl rfl rfl (pack_Put__r_ok hT hrec hy48) hrec rfl (by rw [hrec.params rfl]; rfl) { next := rfl, part := ⟨rfl, rfl, trivial⟩, inj := rfl, lt := rfl, nwf := rfl, gin := rfl, held := .cons rfl rfl (.one (.view rfl) rfl) dt (.cons rfl rfl (.same (by simp)) dt trivial), seen := ⟨⟨_, rfl, .sm⟩, trivial⟩, inlps := rfl, ple := rfl, map := rfl, next' := rfl, back := .new 0 rfl rfl (.one ⟨.view rfl, trivial⟩) (.kept rfl rfl (.new 1 rfl rfl (.same (by simp [AV.flat])) trivial)), lps := .inr ⟨rfl, rfl⟩, mode := .inr ⟨fun _ h => h, rfl⟩, ren := .sm } rfl rfl rfl) ?_
    refine AR.keep [0, 1, 10] rfl <| AR.op (r := bl false) rfl (aop_not (b := true) rfl rfl) <| AR.nil <| hK5 _ (AWP.weak (Weak.re (fr' := [(0, .clo (.yield l) []), (1, .ref 2 0 0), (11, bl false)]) (H' := ⟨3, [(0, (1, [.view 1 0 (List.map (kA .u8) y48).length])), (1, (1, List.map (kA .u8) y48)), (2, (1, [i64 v41]))], [(l, lpst rec .ret true)]⟩) [(0, 0), (1, 4), (2, 2)] [] rfl rfl rfl (.cons rfl rfl (.one (.view rfl) rfl) dt (.cons rfl rfl (.same (by simp)) dt (.cons rfl rfl (.one (.sm) rfl) dt trivial))) ⟨.k, ⟨_, rfl, .ref rfl⟩, .k, trivial⟩) ?_)
    refine awp_cond_f rfl ?_
    refine awp_skip <| hK4 _ (AWP.weak (Weak.kt [0, 1] rfl) ?_)
    refine awp_reg rfl <| AR.op (r := i64 v41) rfl (aop_load_ref rfl rfl rfl rfl sz3 rfl) ?_
    obtain ⟨s49, hs49, h⟩ := Sh.bind_some' h
    refine AR.op (r := i64 s49) rfl (t_ishr hs49 rfl rfl rfl) <| AR.op rfl (aop_store (e' := i64 s49) rfl rfl rfl rfl rfl rfl sz3 rfl dt rfl) <| AR.nil ?_
    replace h := Sh.next_eq h
    exact ⟨_, h, Weak.kt [0, 1] rfl⟩
   ·replace h := Sh.if_f h hb42
    refine awp_exit ?_
    replace h := Sh.exit_eq h hx1
    exact hK1 (c40, v41) _ h (Weak.kt [0, 1] rfl)


theorem pack_Put__r_2_ok {W0 : World} (hT : Tab W0) {l : Nat} {rec : Loop} (hrec : RecAt rec Tryz.f28 1 43) {l_0 : List Int} {y_1 : Int} {r : (List Int)} (h : G.pack_Put__r_2 l_0 y_1 = some r) : Round3 Tryz.prog W0 1 l rec [(4, .ref 0 0 0)] [kA .u8 y_1] ⟨2, [(0, (1, [.view 1 0 (List.map (kA .u8) l_0).length])), (1, (1, List.map (kA .u8) l_0))], [(l, rec)]⟩ true ⟨2, [(0, (1, [.view 1 0 (List.map (kA .u8) r).length])), (1, (1, List.map (kA .u8) r))], [(l, lpst rec .ret true)]⟩ := by
 refine round3_of_awp hrec rfl rfl rfl rfl (by decide) ?_
 unfold G.pack_Put__r_2 at h
 show AWP _ _ _ _ ⟨[(35, kA .u8 y_1), (4, .ref 0 0 0)], ⟨2, [(0, (1, [.view 1 0 (List.map (kA .u8) l_0).length])), (1, (1, List.map (kA .u8) l_0))], [(l, rec)]⟩⟩ _
 refine awp_reg rfl <| AR.op rfl (aop_move (.inr rfl) rfl) <| AR.nil <| ⟨rfl, rfl, ?_⟩
 refine AWP.weak (Weak.kt [4, 8] rfl) ?_
 show AWP _ _ _ _ ⟨[(4, .ref 0 0 0), (8, kA .u8 y_1)], ⟨2, [(0, (1, [.view 1 0 (List.map (kA .u8) l_0).length])), (1, (1, List.map (kA .u8) l_0))], [(l, { rec with state := .busy })]⟩⟩ _
 refine awp_block <| awp_reg rfl <| AR.op (r := .view 1 0 (List.map (kA .u8) l_0).length) rfl (aop_load_ref rfl rfl rfl rfl sz111 rfl) <| AR.op rfl (aop_move (.inl rfl) rfl) <| AR.op (r := .clip (List.map (kA .u8) [y_1])) rfl (aop_buildSlice rfl (xo := [.tmp 37]) rfl rfl rfl (by simp [AV.solid]) (by simp [AV.flat]) el111 ze111 (by decide)) <| AR.keep [4, 36, 38] rfl ?_
 obtain ⟨l3, hl3, h⟩ := Sh.bind_some' h
 refine AR.op (r := .view 2 0 (List.map (kA .u8) l3).length) rfl (t_app_view (kA .u8) l_0 [y_1] l3 hl3 rfl et111 (fun _ => rfl) rfl rfl rfl rfl rfl rfl rfl) <| AR.op rfl (aop_store (e' := .view 2 0 (List.map (kA .u8) l3).length) rfl rfl rfl rfl rfl rfl sz111 rfl dt rfl) <| AR.nil ?_
 obtain rfl := Option.some.inj h
 exact ⟨rfl, _, rfl, rfl, Weak.re [(0, 0), (1, 2)] [] rfl rfl rfl (.cons rfl rfl (.one (.view rfl) rfl) dt (.cons rfl rfl (.same (by simp)) dt trivial)) trivial⟩


theorem pack_groups_1__pack_Put__r_2_ok {W0 : World} (hT : Tab W0) {l : Nat} {rec : Loop} (hrec : RecAt rec Tryz.f28 1 43) {l_0 : List Int} {c_1 : Int} {r : (List Int)} (h : G.pack_groups_1__pack_Put__r_2 l_0 c_1 = some r) : Fun3 Tryz.prog (.it W0 1 rec [(4, .ref 0 0 0)]) 99 [.clo (.yield l) [], .ref 2 0 0] ⟨3, [(0, (1, [.view 1 0 (List.map (kA .u8) l_0).length])), (1, (1, List.map (kA .u8) l_0)), (2, (1, [i64 c_1]))], [(l, lpst rec .ret true)]⟩ (.tuple []) ⟨2, [(0, (1, [.view 1 0 (List.map (kA .u8) r).length])), (1, (1, List.map (kA .u8) r))], [(l, lpst rec .ret true)]⟩ := by
 refine fun3_of_awp rfl Tryz.func99 rfl (by kernel_rfl) Tryz.ntmps99 (by simp) ?_
 unfold G.pack_groups_1__pack_Put__r_2 at h
 show AWP _ _ _ _ ⟨[(0, .clo (.yield l) []), (1, .ref 2 0 0)], ⟨3, [(0, (1, [.view 1 0 (List.map (kA .u8) l_0).length])), (1, (1, List.map (kA .u8) l_0)), (2, (1, [i64 c_1]))], [(l, lpst rec .ret true)]⟩⟩ _
 refine awp_seqJ (fun (p : (List Int) × Int) => (⟨[(0, .clo (.yield l) []), (1, .ref 2 0 0)], ⟨3, [(0, (1, [.view 1 0 (List.map (kA .u8) p.1).length])), (1, (1, List.map (kA .u8) p.1)), (2, (1, [i64 p.2]))], [(l, lpst rec .ret true)]⟩⟩ : St)) (fun (p : (List Int) × Int) => G.pack_groups_1__pack_Put__r_2_j1 p.1 p.2 = some r) ?_ ?_
 ·rintro ⟨v29, v30⟩ h
  replace h : G.pack_groups_1__pack_Put__r_2_j1 v29 v30 = some r := h
  unfold G.pack_groups_1__pack_Put__r_2_j1 at h
  refine awp_reg rfl <| AR.op rfl (aop_move (.inl rfl) rfl) <| AR.op (r := i64 v30) rfl (aop_load_ref rfl rfl rfl rfl sz3 rfl) <| AR.op (r := kA .u8 (IntKind.u8.wrap v30)) rfl (aop_conv rfl rfl Tryz.underlying3 Tryz.underlying5 rfl) <| AR.keep [14, 16] rfl ?_
  obtain ⟨y31, hy31, h⟩ := Sh.bind_some' h
  refine AR.opI (r := bl true) rfl (aop_yield3 (ok := NoId) (ys := [kA .u8 (IntKind.u8.wrap v30)]) (xs := [kA .u8 (IntKind.u8.wrap v30)]) (Hs := ⟨3, [(0, (1, [.view 1 0 (List.map (kA .u8) v29).length])), (1, (1, List.map (kA .u8) v29))], [(l, rec)]⟩) (H' := ⟨5, [(0, (1, [.view 4 0 (List.map (kA .u8) y31).length])), (2, (1, [i64 v30])), (4, (1, List.map (kA .u8) y31))], [(l, lpst rec .ret true)]⟩) (g := [(0, 0), (1, 1)]) (m := [(0, 0), (1, 4)]) (nw := []) (p := 1) rfl rfl rfl (pack_Put__r_2_ok hT hrec hy31) hrec rfl (by rw [hrec.params rfl]; rfl) { next := rfl, part := ⟨rfl, rfl, trivial⟩, inj := rfl, lt := rfl, nwf := rfl, gin := rfl, held := .cons rfl rfl (.one (.view rfl) rfl) dt (.cons rfl rfl (.same (by simp)) dt trivial), seen := ⟨⟨_, rfl, .sm⟩, trivial⟩, inlps := rfl, ple := rfl, map := rfl, next' := rfl, back := .new 0 rfl rfl (.one ⟨.view rfl, trivial⟩) (.kept rfl rfl (.new 1 rfl rfl (.same (by simp [AV.flat])) trivial)), lps := .inr ⟨rfl, rfl⟩, mode := .inr ⟨fun _ h => h, rfl⟩, ren := .sm } rfl rfl rfl) ?_
  refine AR.nil ?_
  obtain rfl := Option.some.inj h
  refine ⟨.inl rfl, .tuple [], rfl, ?_⟩
  exact Weak.re [(0, 0), (1, 4)] [] rfl rfl rfl (.cons rfl rfl (.one (.view rfl) rfl) dt (.cons rfl rfl (.same (by simp)) dt trivial)) ⟨⟨.tuple [], rfl, .tp trivial⟩, trivial⟩
 ·intro K1 hK1
  refine awp_block <| awp_iter (fun (p : (List Int) × Int) => G.pack_groups_1__pack_Put__r_2_b1 p.1 p.2) (fun (p : (List Int) × Int) => (⟨[(0, .clo (.yield l) []), (1, .ref 2 0 0)], ⟨3, [(0, (1, [.view 1 0 (List.map (kA .u8) p.1).length])), (1, (1, List.map (kA .u8) p.1)), (2, (1, [i64 p.2]))], [(l, lpst rec .ret true)]⟩⟩ : St)) h (Weak.kt [0, 1] rfl) ?_
  ·skip
   rintro ⟨c40, v41⟩ o1 h hx1
   replace h : G.pack_groups_1__pack_Put__r_2_b1 c40 v41 = some o1 := h
   unfold G.pack_groups_1__pack_Put__r_2_b1 at h
   refine awp_seqK fun K2 hK2 => awp_seqK fun K3 hK3 => awp_reg rfl <| AR.op (r := i64 v41) rfl (aop_load_ref rfl rfl rfl rfl sz3 rfl) <| AR.op rfl (aop_geq rfl rfl rfl) <| AR.nil <| hK3 _ (AWP.weak (Weak.kt [0, 1, 4] rfl) ?_)
   refine awp_cond rfl (fun hb42 => ?_) (fun hb42 => ?_)
   ·replace h := Sh.if_t h hb42
    refine awp_skip <| hK2 _ (AWP.weak (Weak.kt [0, 1] rfl) ?_)
    refine awp_block <| awp_seqK fun K4 hK4 => awp_seqK fun K5 hK5 => awp_reg rfl <| AR.op rfl (aop_move (.inl rfl) rfl) <| AR.op (r := i64 v41) rfl (aop_load_ref rfl rfl rfl rfl sz3 rfl) ?_
    obtain ⟨q47, hq47, h⟩ := Sh.bind_some' h
    refine AR.op (r := i64 q47) rfl (aop_rem rfl rfl rfl (Sh.rem_some hq47).1 (Sh.rem_some hq47).2) <| AR.keep [0, 1, 5, 7] rfl <| AR.op (r := kA .u8 (IntKind.u8.wrap q47)) rfl (aop_conv rfl rfl Tryz.underlying3 Tryz.underlying5 rfl) <| AR.op (r := kA .u8 (Sh.bor .u8 (IntKind.u8.wrap q47) 128)) rfl (aop_bor rfl rfl rfl) ?_
    obtain ⟨y48, hy48, h⟩ := Sh.bind_some' h
    refine AR.opI (r := bl true) rfl (aop_yield3 (ok := NoId) (ys := [kA .u8 (Sh.bor .u8 (IntKind.u8.wrap q47) 128)]) (xs := [kA .u8 (Sh.bor .u8 (IntKind.u8.wrap q47) 128)]) (Hs := ⟨3, [(0, (1, [.view 1 0 (List.map (kA .u8) c40).length])), (1, (1, List.map (kA .u8) c40))], [(l, rec)]⟩) (H' := ⟨5, [(0, (1, [.view 4 0 (List.map (kA .u8) y48).length])), (2, (1, [i64 v41])), (4, (1, List.map (kA .u8) y48))], [(l, lpst rec .ret true)]⟩) (g := [(0, 0), (1, 1)]) (m := [(0, 0), (1, 4)]) (nw := []) (p := 1) rfl rfl rfl (pack_Put__r_2_ok hT hrec hy48) hrec rfl (by rw [hrec.params rfl]; rfl) { next := rfl, part := ⟨rfl, rfl, trivial⟩, inj := rfl, lt := rfl, nwf := rfl, gin := rfl, held := .cons rfl rfl (.one (.view rfl) rfl) dt (.cons rfl rfl (.same (by simp)) dt trivial), seen := ⟨⟨_, rfl, .sm⟩, trivial⟩, inlps := rfl, ple := rfl, map := rfl, next' := rfl, back := .new 0 rfl rfl (.one ⟨.view rfl, trivial⟩) (.kept rfl rfl (.new 1 rfl rfl (.same (by simp [AV.flat])) trivial)), lps := .inr ⟨rfl, rfl⟩, mode := .inr ⟨fun _ h => h, rfl⟩, ren := .sm } rfl rfl rfl) ?_
    refine AR.keep [0, 1, 10] rfl <| AR.op (r := bl false) rfl (aop_not (b := true) rfl rfl) <| AR.nil <| hK5 _ (AWP.weak (Weak.re (fr' := [(0, .clo (.yield l) []), (1, .ref 2 0 0), (11, bl false)]) (H' := ⟨3, [(0, (1, [.view 1 0 (List.map (kA .u8) y48).length])), (1, (1, List.map (kA .u8) y48)), (2, (1, [i64 v41]))], [(l, lpst rec .ret true)]⟩) [(0, 0), (1, 4), (2, 2)] [] rfl rfl rfl (.cons rfl rfl (.one (.view rfl) rfl) dt (.cons rfl rfl (.same (by simp)) dt (.cons rfl rfl (.one (.sm) rfl) dt trivial))) ⟨.k, ⟨_, rfl, .ref rfl⟩, .k, trivial⟩) ?_)
    refine awp_cond_f rfl ?_
    refine awp_skip <| hK4 _ (AWP.weak (Weak.kt [0, 1] rfl) ?_)
    refine awp_reg rfl <| AR.op (r := i64 v41) rfl (aop_load_ref rfl rfl rfl rfl sz3 rfl) ?_
    obtain ⟨s49, hs49, h⟩ := Sh.bind_some' h
    refine AR.op (r := i64 s49) rfl (t_ishr hs49 rfl rfl rfl) <| AR.op rfl (aop_store (e' := i64 s49) rfl rfl rfl rfl rfl rfl sz3 rfl dt rfl) <| AR.nil ?_
    replace h := Sh.next_eq h
    exact ⟨_, h, Weak.kt [0, 1] rfl⟩
   ·replace h := Sh.if_f h hb42
    refine awp_exit ?_
    replace h := Sh.exit_eq h hx1
    exact hK1 (c40, v41) _ h (Weak.kt [0, 1] rfl)


theorem pack_Put_ok0 {W0 : World} (hT : Tab W0) {l_0 : List Int} {r : (List UInt8) × Int} (h : G.pack_Put l_0 = some r) : Fun2 Tryz.prog W0 28 [.sl (List.map i64 l_0)] (.tuple [strL r.1, i64 r.2]) .empty := by
 refine fun2_of_awp Tryz.func28 rfl (by kernel_rfl) Tryz.ntmps28 (by simp) ?_
 unfold G.pack_Put at h
 show AWP _ _ _ _ ⟨[(0, .sl (List.map i64 l_0))], .empty⟩ _
 refine awp_seqK fun K1 hK1 => awp_reg rfl <| AR.op rfl (aop_move (.inr rfl) rfl) <| AR.op rfl (aop_move (.inr rfl) rfl) <| AR.nil <| hK1 _ (AWP.weak (Weak.kt [0] rfl) ?_)
 refine awp_seqK fun K2 hK2 => awp_seqK fun K3 hK3 => awp_reg rfl <| AR.op rfl (aop_move (.inl rfl) rfl) <| AR.op rfl (t_len_sl i64 l_0 rfl rfl el25) <| AR.op rfl (aop_gtr rfl rfl rfl) <| AR.nil <| hK3 _ (AWP.weak (Weak.kt [0, 11] rfl) ?_)
 refine awp_cond rfl (fun hb29 => ?_) (fun hb29 => ?_)
 ·replace h := Sh.if_t h hb29
  refine awp_seqK fun K4 hK4 => awp_reg rfl <| AR.op rfl (aop_move (.inr rfl) rfl) <| AR.op rfl (aop_move (.inr rfl) rfl) <| AR.nil <| hK4 _ (AWP.weak (Weak.kt [2, 3] rfl) ?_)
  refine awp_ret ?_
  obtain rfl := Option.some.inj h
  refine ⟨.inr rfl, .tuple [strL [], i64 4], rfl, ?_⟩
  exact Weak.e ⟨⟨.tuple [strL [], i64 4], rfl, .tp ⟨.sm, .sm, trivial⟩⟩, trivial⟩
 ·replace h := Sh.if_f h hb29
  refine awp_skip <| hK2 _ (AWP.weak (Weak.kt [0] rfl) ?_)
  refine awp_seqK fun K5 hK5 => awp_reg rfl <| AR.op (r := .ref 0 0 0) rfl (aop_alloc 1 [nilS] rfl zr111 rfl (.inl ⟨rfl, rfl⟩)) <| AR.nil <| hK5 _ ?_
  refine awp_seqK fun K6 hK6 => awp_seqK fun K7 hK7 => awp_reg rfl <| AR.op rfl (aop_move (.inl rfl) rfl) <| AR.op rfl (t_len_sl i64 l_0 rfl rfl el25) ?_
  obtain ⟨r34, hr34, h⟩ := Sh.bind_some' h
  refine AR.op (r := .clo (.func 99) [.ref 1 0 0]) rfl (aop_call3E (ok := NoId) (ys := [i64 (Sh.len l_0)]) (xs := [i64 (Sh.len l_0)]) (r' := .clo (.func 99) [.ref 1 0 0]) (Hs := ⟨1, [], []⟩) (H' := ⟨2, [(0, (1, [nilS])), (1, (1, [i64 (Sh.len l_0)]))], []⟩) (g := []) (m := [(0, 1)]) (nw := []) (p := 0) (.func rfl rfl (pack_groups_ok hT hr34).call) (pack_groups_ok hT hr34) { next := rfl, part := trivial, inj := rfl, lt := rfl, nwf := rfl, gin := rfl, held := trivial, seen := ⟨⟨_, rfl, .sm⟩, trivial⟩, inlps := rfl, ple := rfl, map := rfl, next' := rfl, back := .kept rfl rfl (.new 0 rfl rfl (.one ⟨.sm, trivial⟩) trivial), lps := .inl ⟨rfl, rfl⟩, mode := .inr ⟨fun _ h => h, rfl⟩, ren := .cl ⟨.ref rfl, trivial⟩ } rfl) <| AR.nil <| hK7 _ (AWP.weak (Weak.kt [0, 4, 14] rfl) ?_)
  refine awp_block ?_
  obtain ⟨it35, hit35, h⟩ := Sh.bind_some' h
  refine awp_range (ok := NoId) (j := .ret) (b := true) (frl := [(4, .ref 0 0 0)]) (fn := Tryz.f28) (k := 0) (p := 1) (xs := [.ref 2 0 0]) (r := .tuple []) (Hs := ⟨2, [(0, (1, [nilS])), (1, (1, [i64 (Sh.len l_0)]))], []⟩) (Hin := ⟨3, [(0, (1, [.view 1 0 (List.map (kA .u8) []).length])), (1, (1, List.map (kA .u8) [])), (2, (1, [i64 (Sh.len l_0)]))], []⟩) (Hout := ⟨2, [(0, (1, [.view 1 0 (List.map (kA .u8) it35).length])), (1, (1, List.map (kA .u8) it35))], []⟩) (H' := ⟨4, [(0, (1, [.view 3 0 (List.map (kA .u8) it35).length])), (3, (1, List.map (kA .u8) it35))], []⟩) (g := [(0, 0), (2, 1)]) (m := [(0, 0), (1, 3)]) (nw := [1]) rfl rfl rfl ca99 rfl (UnderL.spec ⟨.ref _ _ _ (by decide), trivial⟩) ⟨⟨_, rfl, .ref rfl⟩, trivial⟩ (fun l rec hrec => pack_groups_1__pack_Put__r_ok hT hrec hit35) (fun l rec => { next := rfl, part := ⟨rfl, rfl, trivial⟩, inj := rfl, lt := rfl, nwf := rfl, gin := rfl, held := .cons rfl rfl (.one (.nil (by simp)) rfl) dt (.fresh (by simp) dt (.cons rfl rfl (.one (.sm) rfl) dt trivial)), seen := ⟨⟨_, rfl, .sm⟩, ⟨_, rfl, .ref rfl⟩, trivial⟩, inlps := rfl, ple := rfl, map := rfl, next' := rfl, back := .new 0 rfl rfl (.one ⟨.view rfl, trivial⟩) (.new 1 rfl rfl (.same (by simp [AV.flat])) trivial), lps := .inr ⟨rfl, rfl⟩, mode := .inr ⟨fun _ h => h, rfl⟩, ren := .any _ }) rfl (fun _ => ?_) (fun hb => by cases hb)
  refine hK6 _ (AWP.weak (Weak.re (fr' := [(0, .sl (List.map i64 l_0)), (4, .ref 0 0 0)]) (H' := ⟨2, [(0, (1, [.view 1 0 (List.map (kA .u8) it35).length])), (1, (1, List.map (kA .u8) it35))], []⟩) [(0, 0), (1, 3)] [] rfl rfl rfl (.cons rfl rfl (.one (.view rfl) rfl) dt (.cons rfl rfl (.same (by simp)) dt trivial)) ⟨⟨.sl (List.map i64 l_0), rfl, .sm⟩, ⟨_, rfl, .ref rfl⟩, trivial⟩) ?_)
  refine awp_seqJ (fun (p : (List Int)) => (⟨[(4, .ref 0 0 0)], ⟨1, [(0, (1, [.sl (List.map (kA .u8) p)]))], []⟩⟩ : St)) (fun (p : (List Int)) => G.pack_Put_j1 p = some r) ?_ ?_
  ·rintro v62 h
   replace h : G.pack_Put_j1 v62 = some r := h
   unfold G.pack_Put_j1 at h
   refine awp_seqK fun K8 hK8 => awp_reg rfl <| AR.op (r := .sl (List.map (kA .u8) v62)) rfl (aop_load_ref rfl rfl rfl rfl sz111 rfl) <| AR.op (r := strL (Sh.str v62)) rfl (t_conv_str (l := v62) rfl rfl rfl Tryz.underlying111 Tryz.underlying5 Tryz.underlying9) <| AR.op rfl (aop_move (.inr rfl) rfl) <| AR.keep [2] rfl <| AR.op rfl (aop_move (.inr rfl) rfl) <| AR.nil ?_
   refine hK8 _ (AWP.weak (Weak.e (fr' := [(2, strL (Sh.str v62)), (3, i64 0)]) (H' := .empty) ⟨.k, .k, trivial⟩) ?_)
   refine awp_ret ?_
   obtain rfl := Option.some.inj h
   refine ⟨.inr rfl, .tuple [strL (Sh.str v62), i64 0], rfl, ?_⟩
   exact Weak.e ⟨⟨.tuple [strL (Sh.str v62), i64 0], rfl, .tp ⟨.sm, .sm, trivial⟩⟩, trivial⟩
  ·intro K9 hK9
   refine awp_seqK fun K10 hK10 => awp_reg rfl <| AR.op rfl (aop_move (.inl rfl) rfl) <| AR.op rfl (t_len_sl i64 l_0 rfl rfl el25) <| AR.op rfl (aop_move (.inl rfl) rfl) <| AR.nil <| hK10 _ (AWP.weak (Weak.kt [4, 20, 21, 22] rfl) ?_)
   refine awp_block <| awp_iter (fun (p : (List Int) × Int) => G.pack_Put_b1 l_0 p.1 p.2) (fun (p : (List Int) × Int) => (⟨[(4, .ref 0 0 0), (20, .sl (List.map i64 l_0)), (21, i64 (Sh.len l_0)), (22, i64 p.2)], ⟨2, [(0, (1, [.view 1 0 (List.map (kA .u8) p.1).length])), (1, (1, List.map (kA .u8) p.1))], []⟩⟩ : St)) h (Weak.kt [4, 20, 21, 22] rfl) ?_
   ·skip
    rintro ⟨out79, v80⟩ o1 h hx1
    replace h : G.pack_Put_b1 l_0 out79 v80 = some o1 := h
    unfold G.pack_Put_b1 at h
    refine awp_seqK fun K11 hK11 => awp_reg rfl <| AR.op rfl (aop_lss rfl rfl rfl) <| AR.nil <| hK11 _ ?_
    refine awp_seqK fun K12 hK12 => awp_cond rfl (fun hb81 => ?_) (fun hb81 => ?_)
    ·replace h := Sh.if_t h hb81
     refine awp_skip <| hK12 _ (AWP.weak (Weak.kt [4, 20, 21, 22] rfl) ?_)
     refine awp_seqK fun K13 hK13 => awp_block <| awp_seqK fun K14 hK14 => awp_reg rfl ?_
     obtain ⟨x91, hx91, h⟩ := Sh.bind_some' h
     obtain ⟨k92, hi92, hl92⟩ := Sh.idx_some hx91
     refine AR.op rfl (t_index_sl i64 l_0 hi92 hl92 rfl rfl rfl el25 rfl) <| AR.op (r := i64 x91) rfl (aop_load_pp rfl rfl sz3 rfl) <| AR.op rfl (aop_move (.inr rfl) rfl) <| AR.nil <| hK14 _ (AWP.weak (Weak.kt [4, 20, 21, 22, 7] rfl) ?_)
     refine awp_seqK fun K15 hK15 => awp_seqJ (fun (p : Bool) => (⟨[(4, .ref 0 0 0), (20, .sl (List.map i64 l_0)), (21, i64 (Sh.len l_0)), (22, i64 v80), (7, i64 x91), (31, bl p)], ⟨2, [(0, (1, [.view 1 0 (List.map (kA .u8) out79).length])), (1, (1, List.map (kA .u8) out79))], []⟩⟩ : St)) (fun (p : Bool) => G.pack_Put_j2 out79 v80 x91 p = some o1) ?_ ?_
     ·rintro v96 h
      replace h : G.pack_Put_j2 out79 v80 x91 v96 = some o1 := h
      unfold G.pack_Put_j2 at h
      refine awp_cond rfl (fun hb97 => ?_) (fun hb97 => ?_)
      ·replace h := Sh.if_t h hb97
       refine awp_seqK fun K16 hK16 => awp_reg rfl <| AR.op rfl (aop_move (.inr rfl) rfl) <| AR.op rfl (aop_move (.inr rfl) rfl) <| AR.nil <| hK16 _ (AWP.weak (Weak.e (fr' := [(2, strL []), (3, i64 1)]) (H' := .empty) ⟨.k, .k, trivial⟩) ?_)
       refine awp_ret ?_
       replace h := Sh.exit_eq h hx1
       obtain rfl := Option.some.inj h
       refine ⟨.inr rfl, .tuple [strL [], i64 1], rfl, ?_⟩
       exact Weak.e ⟨⟨.tuple [strL [], i64 1], rfl, .tp ⟨.sm, .sm, trivial⟩⟩, trivial⟩
      ·replace h := Sh.if_f h hb97
       refine awp_skip <| hK15 _ (AWP.weak (Weak.kt [4, 20, 21, 22, 7] rfl) ?_)
       refine awp_seqK fun K17 hK17 => awp_reg rfl <| AR.op rfl (aop_move (.inl rfl) rfl) <| AR.op rfl (aop_add rfl rfl rfl rfl) ?_
       obtain ⟨r99, hr99, h⟩ := Sh.bind_some' h
       refine AR.op (r := .clo (.func 99) [.ref 2 0 0]) rfl (aop_call3E (ok := NoId) (ys := [i64 (w64 (x91 + 1))]) (xs := [i64 (w64 (x91 + 1))]) (r' := .clo (.func 99) [.ref 2 0 0]) (Hs := ⟨2, [], []⟩) (H' := ⟨3, [(0, (1, [.view 1 0 (List.map (kA .u8) out79).length])), (1, (1, List.map (kA .u8) out79)), (2, (1, [i64 (w64 (x91 + 1))]))], []⟩) (g := []) (m := [(0, 2)]) (nw := []) (p := 0) (.func rfl rfl (pack_groups_ok hT hr99).call) (pack_groups_ok hT hr99) { next := rfl, part := trivial, inj := rfl, lt := rfl, nwf := rfl, gin := rfl, held := trivial, seen := ⟨⟨_, rfl, .sm⟩, trivial⟩, inlps := rfl, ple := rfl, map := rfl, next' := rfl, back := .kept rfl rfl (.kept rfl rfl (.new 0 rfl rfl (.one ⟨.sm, trivial⟩) trivial)), lps := .inl ⟨rfl, rfl⟩, mode := .inr ⟨fun _ h => h, rfl⟩, ren := .cl ⟨.ref rfl, trivial⟩ } rfl) <| AR.nil <| hK17 _ (AWP.weak (Weak.kt [4, 20, 21, 22, 34] rfl) ?_)
       refine awp_block ?_
       obtain ⟨it100, hit100, h⟩ := Sh.bind_some' h
       refine awp_range (ok := NoId) (j := .ret) (b := true) (frl := [(4, .ref 0 0 0)]) (fn := Tryz.f28) (k := 1) (p := 1) (xs := [.ref 2 0 0]) (r := .tuple []) (Hs := ⟨3, [(0, (1, [.view 1 0 (List.map (kA .u8) out79).length])), (1, (1, List.map (kA .u8) out79)), (2, (1, [i64 (w64 (x91 + 1))]))], []⟩) (Hin := ⟨3, [(0, (1, [.view 1 0 (List.map (kA .u8) out79).length])), (1, (1, List.map (kA .u8) out79)), (2, (1, [i64 (w64 (x91 + 1))]))], []⟩) (Hout := ⟨2, [(0, (1, [.view 1 0 (List.map (kA .u8) it100).length])), (1, (1, List.map (kA .u8) it100))], []⟩) (H' := ⟨5, [(0, (1, [.view 4 0 (List.map (kA .u8) it100).length])), (4, (1, List.map (kA .u8) it100))], []⟩) (g := [(0, 0), (1, 1), (2, 2)]) (m := [(0, 0), (1, 4)]) (nw := []) rfl rfl rfl ca99 rfl (UnderL.spec ⟨.ref _ _ _ (by decide), trivial⟩) ⟨⟨_, rfl, .ref rfl⟩, trivial⟩ (fun l rec hrec => pack_groups_1__pack_Put__r_2_ok hT hrec hit100) (fun l rec => { next := rfl, part := ⟨rfl, rfl, rfl, trivial⟩, inj := rfl, lt := rfl, nwf := rfl, gin := rfl, held := .cons rfl rfl (.one (.view rfl) rfl) dt (.cons rfl rfl (.same (by simp)) dt (.cons rfl rfl (.one (.sm) rfl) dt trivial)), seen := ⟨⟨_, rfl, .sm⟩, ⟨_, rfl, .ref rfl⟩, trivial⟩, inlps := rfl, ple := rfl, map := rfl, next' := rfl, back := .new 0 rfl rfl (.one ⟨.view rfl, trivial⟩) (.new 1 rfl rfl (.same (by simp [AV.flat])) trivial), lps := .inr ⟨rfl, rfl⟩, mode := .inr ⟨fun _ h => h, rfl⟩, ren := .any _ }) rfl (fun _ => ?_) (fun hb => by cases hb)
       refine hK13 _ (AWP.weak (Weak.re (fr' := [(4, .ref 0 0 0), (20, .sl (List.map i64 l_0)), (21, i64 (Sh.len l_0)), (22, i64 v80)]) (H' := ⟨2, [(0, (1, [.view 1 0 (List.map (kA .u8) it100).length])), (1, (1, List.map (kA .u8) it100))], []⟩) [(0, 0), (1, 4)] [] rfl rfl rfl (.cons rfl rfl (.one (.view rfl) rfl) dt (.cons rfl rfl (.same (by simp)) dt trivial)) ⟨⟨_, rfl, .ref rfl⟩, ⟨.sl (List.map i64 l_0), rfl, .sm⟩, .k, .k, trivial⟩) ?_)
       refine awp_reg rfl <| AR.op rfl (aop_add rfl rfl rfl rfl) <| AR.op rfl (aop_move (.inl rfl) rfl) <| AR.nil ?_
       replace h := Sh.next_eq h
       exact ⟨_, h, Weak.kt [4, 20, 21, 22] rfl⟩
     ·intro K18 hK18
      refine awp_reg rfl <| AR.op rfl (aop_move (.inl rfl) rfl) <| AR.op rfl (aop_lss rfl rfl rfl) <| AR.op rfl (aop_move (.inl rfl) rfl) <| AR.keep [4, 20, 21, 22, 7, 28] rfl ?_
      rcases Bool.eq_false_or_eq_true (decide (x91 < (-1))) with hb102 | hb102
      ·rw [hb102]
       replace h := Sh.if_t h hb102
       refine AR.skip rfl <| AR.skip rfl <| AR.op rfl (aop_pick rfl rfl rfl) <| AR.nil ?_
       exact hK18 true _ h (Weak.kt [4, 20, 21, 22, 7, 31] rfl)
      ·rw [hb102]
       replace h := Sh.if_f h hb102
       refine AR.op rfl (aop_move (.inl rfl) rfl) <| AR.op rfl (aop_gtr rfl rfl rfl) <| AR.op rfl (aop_pick rfl rfl rfl) <| AR.nil ?_
       exact hK18 (decide ((2147483647 : Int) < x91)) _ h (Weak.kt [4, 20, 21, 22, 7, 31] rfl)
    ·replace h := Sh.if_f h hb81
     refine awp_exit ?_
     replace h := Sh.exit_eq h hx1
     exact hK9 out79 _ h (Weak.re [(0, 0)] [] rfl rfl rfl (.cons rfl rfl (.one (.lendAll rfl rfl (by simp)) rfl) dt trivial) ⟨⟨_, rfl, .ref rfl⟩, trivial⟩)
theorem pack_Put_ok {W0 : World} (hT : Tab W0) {l_0 : List Int} {r : (List UInt8) × Int} (h : G.pack_Put l_0 = some r) : Fun1 Tryz.prog W0 28 [.sl (List.map i64 l_0)] (.tuple [strL r.1, i64 r.2]) := Fun1.two (pack_Put_ok0 hT h) (by simp)


theorem pack_next_ok0 {W0 : World} (hT : Tab W0) {s_0 : List UInt8} {most_1 : Int} {r : Int × (List UInt8) × Int} (h : G.pack_next s_0 most_1 = some r) : Fun2 Tryz.prog W0 67 [strL s_0, i64 most_1] (.tuple [i64 r.1, strL r.2.1, i64 r.2.2]) .empty := by
 refine fun2_of_awp Tryz.func67 rfl (by kernel_rfl) Tryz.ntmps67 (by simp) ?_
 unfold G.pack_next at h
 show AWP _ _ _ _ ⟨[(0, strL s_0), (1, i64 most_1)], .empty⟩ _
 refine awp_seqK fun K1 hK1 => awp_reg rfl <| AR.op rfl (aop_move (.inr rfl) rfl) <| AR.op rfl (aop_move (.inr rfl) rfl) <| AR.op rfl (aop_move (.inr rfl) rfl) <| AR.nil <| hK1 _ (AWP.weak (Weak.kt [0, 1] rfl) ?_)
 refine awp_seqK fun K2 hK2 => awp_reg rfl <| AR.op rfl (aop_move (.inr rfl) rfl) <| AR.nil <| hK2 _ ?_
 refine awp_seqJ (fun (p : Unit) => (⟨[], .empty⟩ : St)) (fun (p : Unit) => G.pack_next_j1 = some r) ?_ ?_
 ·rintro ⟨⟩ h
  replace h : G.pack_next_j1 = some r := h
  unfold G.pack_next_j1 at h
  refine awp_seqK fun K3 hK3 => awp_reg rfl <| AR.op rfl (aop_move (.inr rfl) rfl) <| AR.op rfl (aop_move (.inr rfl) rfl) <| AR.op rfl (aop_move (.inr rfl) rfl) <| AR.nil <| hK3 _ ?_
  refine awp_ret ?_
  obtain rfl := Option.some.inj h
  refine ⟨.inr rfl, .tuple [i64 0, strL [], i64 2], rfl, ?_⟩
  exact Weak.e ⟨⟨.tuple [i64 0, strL [], i64 2], rfl, .tp ⟨.sm, .sm, .sm, trivial⟩⟩, trivial⟩
 ·intro K4 hK4
  refine awp_seqK fun K5 hK5 => awp_reg rfl <| AR.op rfl (aop_move (.inr rfl) rfl) <| AR.nil <| hK5 _ ?_
  refine awp_block <| awp_iter (fun (p : Int × Int) => G.pack_next_b1 s_0 most_1 p.1 p.2) (fun (p : Int × Int) => (⟨[(0, strL s_0), (1, i64 most_1), (7, i64 p.1), (8, i64 p.2)], .empty⟩ : St)) h (Weak.kt [0, 1, 7, 8] rfl) ?_
  ·skip
   rintro ⟨n63, i65⟩ o1 h hx1
   replace h : G.pack_next_b1 s_0 most_1 n63 i65 = some o1 := h
   unfold G.pack_next_b1 at h
   refine awp_seqK fun K6 hK6 => awp_seqK fun K7 hK7 => awp_reg rfl <| AR.op rfl (aop_move (.inl rfl) rfl) <| AR.op rfl (aop_lss rfl rfl rfl) <| AR.nil <| hK7 _ (AWP.weak (Weak.kt [0, 1, 7, 8, 10] rfl) ?_)
   refine awp_cond rfl (fun hb66 => ?_) (fun hb66 => ?_)
   ·replace h := Sh.if_t h hb66
    refine awp_skip <| hK6 _ (AWP.weak (Weak.kt [0, 1, 7, 8] rfl) ?_)
    refine awp_seqK fun K8 hK8 => awp_block <| awp_seqK fun K9 hK9 => awp_seqK fun K10 hK10 => awp_reg rfl <| AR.op rfl (aop_move (.inl rfl) rfl) <| AR.op rfl (aop_move (.inl rfl) rfl) <| AR.op (r := i64 (Sh.len s_0)) rfl (t_len_str (s := s_0) rfl rfl Tryz.underlying9) ?_
    refine AR.keep [0, 1, 7, 8, 13, 15] rfl <| AR.op (r := bl (decide (i65 = (Sh.len s_0)))) rfl (aop_eql rfl rfl rfl) <| AR.nil <| hK10 _ (AWP.weak (Weak.kt [0, 1, 7, 8, 16] rfl) ?_)
    refine awp_cond rfl (fun hb75 => ?_) (fun hb75 => ?_)
    ·replace h := Sh.if_t h hb75
     refine awp_seqK fun K11 hK11 => awp_reg rfl <| AR.op rfl (aop_move (.inr rfl) rfl) <| AR.op rfl (aop_move (.inr rfl) rfl) <| AR.op rfl (aop_move (.inr rfl) rfl) <| AR.nil <| hK11 _ (AWP.weak (Weak.kt [4, 5, 6] rfl) ?_)
     refine awp_ret ?_
     replace h := Sh.exit_eq h hx1
     obtain rfl := Option.some.inj h
     refine ⟨.inr rfl, .tuple [i64 0, strL [], i64 16], rfl, ?_⟩
     exact Weak.e ⟨⟨.tuple [i64 0, strL [], i64 16], rfl, .tp ⟨.sm, .sm, .sm, trivial⟩⟩, trivial⟩
    ·replace h := Sh.if_f h hb75
     refine awp_skip <| hK9 _ (AWP.weak (Weak.kt [0, 1, 7, 8] rfl) ?_)
     refine awp_seqK fun K12 hK12 => awp_reg rfl <| AR.op rfl (aop_move (.inl rfl) rfl) <| AR.op rfl (aop_move (.inl rfl) rfl) <| AR.op rfl (aop_move (.inl rfl) rfl) <| AR.keep [0, 1, 8, 17, 18, 19] rfl ?_
     obtain ⟨x78, hx78, h⟩ := Sh.bind_some' h
     refine AR.op (r := kA .u8 ((x78).toNat : Int)) rfl (t_index_str hx78 rfl rfl rfl Tryz.underlying9) <| AR.op (r := kA .u8 (Sh.band .u8 ((x78).toNat : Int) 127)) rfl (aop_band rfl rfl rfl) <| AR.op (r := i64 (w64 (Sh.band .u8 ((x78).toNat : Int) 127))) rfl (aop_conv rfl rfl Tryz.underlying5 Tryz.underlying3 rfl) <| AR.keep [0, 1, 8, 17, 22] rfl <| AR.op rfl (aop_move (.inl rfl) rfl) <| AR.op rfl (aop_mul rfl rfl rfl rfl) ?_
     obtain ⟨s79, hs79, h⟩ := Sh.bind_some' h
     refine AR.op (r := i64 s79) rfl (t_ishl hs79 rfl rfl rfl) <| AR.keep [0, 1, 8, 17, 25] rfl <| AR.op (r := i64 (Sh.bor .i64 n63 s79)) rfl (aop_bor rfl rfl rfl) <| AR.op rfl (aop_move (.inr rfl) rfl) <| AR.nil <| hK12 _ (AWP.weak (Weak.kt [0, 1, 8, 7] rfl) ?_)
     refine awp_seqK fun K13 hK13 => awp_seqK fun K14 hK14 => awp_reg rfl <| AR.op rfl (aop_move (.inl rfl) rfl) <| AR.op rfl (aop_move (.inl rfl) rfl) ?_
     obtain ⟨x82, hx82, h⟩ := Sh.bind_some' h
     refine AR.op (r := kA .u8 ((x82).toNat : Int)) rfl (t_index_str hx82 rfl rfl rfl Tryz.underlying9) <| AR.keep [0, 1, 8, 7, 29] rfl <| AR.op rfl (aop_geq rfl rfl rfl) <| AR.nil <| hK14 _ (AWP.weak (Weak.kt [0, 1, 8, 7, 30] rfl) ?_)
     refine awp_cond rfl (fun hb83 => ?_) (fun hb83 => ?_)
     ·replace h := Sh.if_t h hb83
      refine awp_exit ?_
      refine hK8 _ (AWP.weak (Weak.kt [0, 1, 8, 7] rfl) ?_)
      refine awp_reg rfl <| AR.op rfl (aop_move (.inl rfl) rfl) <| AR.op rfl (aop_add rfl rfl rfl rfl) <| AR.op rfl (aop_move (.inr rfl) rfl) <| AR.nil ?_
      replace h := Sh.next_eq h
      exact ⟨_, h, Weak.kt [0, 1, 7, 8] rfl⟩
     ·replace h := Sh.if_f h hb83
      refine awp_skip <| hK13 _ (AWP.weak (Weak.kt [0, 1, 8, 7] rfl) ?_)
      refine awp_seqK fun K15 hK15 => awp_seqJ (fun (p : Bool) => (⟨[(0, strL s_0), (8, i64 i65), (7, i64 (Sh.bor .i64 n63 s79)), (43, bl p)], .empty⟩ : St)) (fun (p : Bool) => G.pack_next_j2 s_0 n63 i65 s79 p = some o1) ?_ ?_
      ·rintro v91 h
       replace h : G.pack_next_j2 s_0 n63 i65 s79 v91 = some o1 := h
       unfold G.pack_next_j2 at h
       refine awp_cond rfl (fun hb92 => ?_) (fun hb92 => ?_)
       ·replace h := Sh.if_t h hb92
        refine awp_seqK fun K16 hK16 => awp_reg rfl <| AR.op rfl (aop_move (.inr rfl) rfl) <| AR.op rfl (aop_move (.inr rfl) rfl) <| AR.op rfl (aop_move (.inr rfl) rfl) <| AR.nil <| hK16 _ (AWP.weak (Weak.kt [4, 5, 6] rfl) ?_)
        refine awp_ret ?_
        replace h := Sh.exit_eq h hx1
        obtain rfl := Option.some.inj h
        refine ⟨.inr rfl, .tuple [i64 0, strL [], i64 2], rfl, ?_⟩
        exact Weak.e ⟨⟨.tuple [i64 0, strL [], i64 2], rfl, .tp ⟨.sm, .sm, .sm, trivial⟩⟩, trivial⟩
       ·replace h := Sh.if_f h hb92
        refine awp_skip <| hK15 _ (AWP.weak (Weak.kt [0, 8, 7] rfl) ?_)
        refine awp_seqK fun K17 hK17 => awp_any [(true, false), (true, false), (true, false), (true, false), (true, false), (true, false), (true, false), (true, false)] (by kernel_rfl) (by kernel_rfl) rfl ?_
        refine ARH.dry rfl (fun _ => aop_move (.inl rfl) rfl) <| ARH.dry rfl (fun _ => aop_move (.inl rfl) rfl) <| ARH.dry rfl (fun _ => aop_move (.inl rfl) rfl) <| ARH.keep [44, 45, 46] rfl <| ARH.dry rfl (fun _ => aop_add rfl rfl rfl rfl) ?_
        obtain ⟨part94, hpart94, h⟩ := Sh.bind_some' h
        refine ARH.dry (r := strL part94) rfl (fun _ => t_sub_str hpart94 rfl rfl rfl Tryz.underlying9) <| ARH.dry rfl (fun _ => aop_move (.inr rfl) rfl) <| ARH.keep [48, 4] rfl <| ARH.dry rfl (fun _ => aop_move (.inr rfl) rfl) <| ARH.dry rfl (fun _ => aop_move (.inr rfl) rfl) <| ARH.nil <| hK17 _ (AWP.weak (Weak.kt [4, 5, 6] rfl) ?_)
        refine awp_ret ?_
        replace h := Sh.exit_eq h hx1
        obtain rfl := Option.some.inj h
        refine ⟨.inr rfl, .tuple [i64 (Sh.bor .i64 n63 s79), strL part94, i64 0], rfl, ?_⟩
        exact Weak.e ⟨⟨.tuple [i64 (Sh.bor .i64 n63 s79), strL part94, i64 0], rfl, .tp ⟨.sm, .sm, .sm, trivial⟩⟩, trivial⟩
      ·intro K18 hK18
       refine awp_reg rfl <| AR.op rfl (aop_move (.inl rfl) rfl) <| AR.op rfl (aop_gtr rfl rfl rfl) <| AR.op rfl (aop_move (.inl rfl) rfl) <| AR.keep [0, 1, 8, 7, 33] rfl ?_
       rcases Bool.eq_false_or_eq_true (decide ((0 : Int) < i65)) with hb95 | hb95
       ·rw [hb95]
        replace h := Sh.if_t h hb95
        refine AR.op rfl (aop_move (.inl rfl) rfl) <| AR.op rfl (aop_move (.inl rfl) rfl) ?_
        obtain ⟨x96, hx96, h⟩ := Sh.bind_some' h
        refine AR.op (r := kA .u8 ((x96).toNat : Int)) rfl (t_index_str hx96 rfl rfl rfl Tryz.underlying9) <| AR.keep [0, 1, 8, 7, 33, 36] rfl <| AR.op (r := bl (decide (((x96).toNat : Int) = 0))) rfl (aop_eql rfl rfl rfl) <| AR.op rfl (aop_pick rfl rfl rfl) <| AR.op rfl (aop_move (.inl rfl) rfl) <| AR.keep [0, 1, 8, 7, 39] rfl ?_
        rcases Bool.eq_false_or_eq_true (decide (((x96).toNat : Int) = 0)) with hb97 | hb97
        ·rw [hb97]
         replace h := Sh.if_t h hb97
         refine AR.skip rfl <| AR.skip rfl <| AR.skip rfl <| AR.keep [0, 8, 7, 39, 42] rfl <| AR.op rfl (aop_pick rfl rfl rfl) <| AR.nil ?_
         exact hK18 true _ h (Weak.kt [0, 8, 7, 43] rfl)
        ·rw [hb97]
         replace h := Sh.if_f h hb97
         refine AR.op rfl (aop_move (.inl rfl) rfl) <| AR.op rfl (aop_move (.inl rfl) rfl) <| AR.op rfl (aop_gtr rfl rfl rfl) <| AR.keep [0, 8, 7, 39, 42] rfl <| AR.op rfl (aop_pick rfl rfl rfl) <| AR.nil ?_
         exact hK18 (decide (most_1 < (Sh.bor .i64 n63 s79))) _ h (Weak.kt [0, 8, 7, 43] rfl)
       ·rw [hb95]
        replace h := Sh.if_f h hb95
        refine AR.skip rfl <| AR.skip rfl <| AR.skip rfl <| AR.keep [0, 1, 8, 7, 33, 36] rfl <| AR.skip rfl <| AR.op rfl (aop_pick rfl rfl rfl) <| AR.op rfl (aop_move (.inl rfl) rfl) <| AR.keep [0, 1, 8, 7, 39] rfl ?_
        refine AR.op rfl (aop_move (.inl rfl) rfl) <| AR.op rfl (aop_move (.inl rfl) rfl) <| AR.op rfl (aop_gtr rfl rfl rfl) <| AR.keep [0, 8, 7, 39, 42] rfl <| AR.op rfl (aop_pick rfl rfl rfl) <| AR.nil ?_
        exact hK18 (decide (most_1 < (Sh.bor .i64 n63 s79))) _ h (Weak.kt [0, 8, 7, 43] rfl)
   ·replace h := Sh.if_f h hb66
    refine awp_exit ?_
    replace h := Sh.exit_eq h hx1
    exact hK4 () _ h (Weak.kt [] rfl)
theorem pack_next_ok {W0 : World} (hT : Tab W0) {s_0 : List UInt8} {most_1 : Int} {r : Int × (List UInt8) × Int} (h : G.pack_next s_0 most_1 = some r) : Fun1 Tryz.prog W0 67 [strL s_0, i64 most_1] (.tuple [i64 r.1, strL r.2.1, i64 r.2.2]) := Fun1.two (pack_next_ok0 hT h) (by simp)


theorem pack_Get_own {W0 : World} (hT : Tab W0) {s_0 : List UInt8} {r : (List Int) × Int} (h : G.pack_Get s_0 = some r) : Fun2 Tryz.prog W0 31 [strL s_0] (.tuple [.view 0 0 (List.map i64 r.1).length, i64 r.2]) ⟨1, [(0, (1, List.map i64 r.1))], []⟩ := by
 refine fun2_of_awp Tryz.func31 rfl (by kernel_rfl) Tryz.ntmps31 (by simp) ?_
 unfold G.pack_Get at h
 show AWP _ _ _ _ ⟨[(0, strL s_0)], .empty⟩ _
 refine awp_seqK fun K1 hK1 => awp_reg rfl <| AR.op rfl (aop_move (.inr rfl) rfl) <| AR.op rfl (aop_move (.inr rfl) rfl) <| AR.nil <| hK1 _ (AWP.weak (Weak.kt [0] rfl) ?_)
 refine awp_seqK fun K2 hK2 => awp_reg rfl <| AR.op rfl (aop_move (.inl rfl) rfl) ?_
 obtain ⟨r15, hr15, h⟩ := Sh.bind_some' h
 refine AR.op (r := .tuple [i64 r15.1, strL r15.2.1, i64 r15.2.2]) rfl (aop_call1 rfl rfl (by simp) (pack_next_ok hT hr15)) <| AR.op rfl (aop_move (.inl rfl) rfl) <| AR.keep [10] rfl <| AR.op (r := i64 r15.1) rfl (aop_extract rfl rfl rfl) <| AR.op (r := strL r15.2.1) rfl (aop_extract rfl rfl rfl) <| AR.op (r := i64 r15.2.2) rfl (aop_extract rfl rfl rfl) <| AR.keep [13, 14, 15] rfl <| AR.op rfl (aop_move (.inr rfl) rfl) ?_
 refine AR.op rfl (aop_move (.inr rfl) rfl) <| AR.op rfl (aop_move (.inr rfl) rfl) <| AR.nil <| hK2 _ (AWP.weak (Weak.kt [4, 0, 5] rfl) ?_)
 refine awp_seqK fun K3 hK3 => awp_seqK fun K4 hK4 => awp_reg rfl <| AR.op rfl (aop_move (.inl rfl) rfl) <| AR.op (r := bl (decide (r15.2.2 ≠ 0))) rfl (aop_neq rfl rfl rfl) <| AR.nil <| hK4 _ (AWP.weak (Weak.kt [4, 0, 5, 17] rfl) ?_)
 refine awp_cond rfl (fun hb16 => ?_) (fun hb16 => ?_)
 ·replace h := Sh.if_t h hb16
  refine awp_seqK fun K5 hK5 => awp_reg rfl <| AR.op rfl (aop_move (.inl rfl) rfl) <| AR.op rfl (aop_move (.inr rfl) rfl) <| AR.op rfl (aop_move (.inr rfl) rfl) <| AR.nil <| hK5 _ (AWP.weak (Weak.kt [2, 3] rfl) ?_)
  refine awp_ret ?_
  obtain rfl := Option.some.inj h
  refine ⟨.inr rfl, .tuple [nilS, i64 r15.2.2], rfl, ?_⟩
  exact Weak.re [] [0] rfl rfl rfl (.fresh (by simp) dt trivial) ⟨⟨.tuple [nilS, i64 r15.2.2], rfl, .tp ⟨.nil (by simp), .sm, trivial⟩⟩, trivial⟩
 ·replace h := Sh.if_f h hb16
  refine awp_skip <| hK3 _ (AWP.weak (Weak.kt [4, 0] rfl) ?_)
  refine awp_seqK fun K6 hK6 => awp_reg rfl <| AR.op rfl (aop_move (.inr rfl) rfl) <| AR.nil <| hK6 _ ?_
  refine awp_seqJ (fun (p : (List UInt8) × (List Int)) => (⟨[(0, strL p.1), (6, .view 0 0 (List.map i64 p.2).length)], ⟨1, [(0, (1, List.map i64 p.2))], []⟩⟩ : St)) (fun (p : (List UInt8) × (List Int)) => G.pack_Get_j1 p.1 p.2 = some r) ?_ ?_
  ·rintro ⟨s29, out30⟩ h
   replace h : G.pack_Get_j1 s29 out30 = some r := h
   unfold G.pack_Get_j1 at h
   refine awp_seqK fun K7 hK7 => awp_seqK fun K8 hK8 => awp_reg rfl <| AR.op rfl (aop_move (.inl rfl) rfl) <| AR.op (r := bl (!decide (s29 = []))) rfl (t_ne_str (a := s29) (b := []) rfl rfl rfl) <| AR.nil <| hK8 _ (AWP.weak (Weak.kt [6, 39] rfl) ?_)
   refine awp_cond rfl (fun hb31 => ?_) (fun hb31 => ?_)
   ·replace h := Sh.if_t h hb31
    refine awp_seqK fun K9 hK9 => awp_reg rfl <| AR.op rfl (aop_move (.inr rfl) rfl) <| AR.op rfl (aop_move (.inr rfl) rfl) <| AR.nil <| hK9 _ (AWP.weak (Weak.e (fr' := [(2, nilS), (3, i64 2)]) (H' := .empty) ⟨.k, .k, trivial⟩) ?_)
    refine awp_ret ?_
    obtain rfl := Option.some.inj h
    refine ⟨.inr rfl, .tuple [nilS, i64 2], rfl, ?_⟩
    exact Weak.re [] [0] rfl rfl rfl (.fresh (by simp) dt trivial) ⟨⟨.tuple [nilS, i64 2], rfl, .tp ⟨.nil (by simp), .sm, trivial⟩⟩, trivial⟩
   ·replace h := Sh.if_f h hb31
    refine awp_skip <| hK7 _ (AWP.weak (Weak.kt [6] rfl) ?_)
    refine awp_seqK fun K10 hK10 => awp_reg rfl <| AR.op rfl (aop_move (.inl rfl) rfl) <| AR.op rfl (aop_move (.inr rfl) rfl) <| AR.op rfl (aop_move (.inr rfl) rfl) <| AR.nil <| hK10 _ (AWP.weak (Weak.kt [2, 3] rfl) ?_)
    refine awp_ret ?_
    obtain rfl := Option.some.inj h
    refine ⟨.inr rfl, .tuple [.view 0 0 (List.map i64 out30).length, i64 0], rfl, ?_⟩
    exact Weak.re [(0, 0)] [] rfl rfl rfl (.cons rfl rfl (.same (by simp)) dt trivial) ⟨⟨.tuple [.view 0 0 (List.map i64 out30).length, i64 0], rfl, .tp ⟨.view rfl, .sm, trivial⟩⟩, trivial⟩
  ·intro K11 hK11
   refine awp_seqK fun K12 hK12 => awp_reg rfl <| AR.op rfl (aop_move (.inl rfl) rfl) <| AR.op rfl (aop_move (.inl rfl) rfl) <| AR.nil <| hK12 _ (AWP.weak (Weak.kt [0, 6, 19, 20] rfl) ?_)
   refine awp_block <| awp_iter (fun (p : (List UInt8) × (List Int) × Int) => G.pack_Get_b1 r15 p.1 p.2.1 p.2.2) (fun (p : (List UInt8) × (List Int) × Int) => (⟨[(0, strL p.1), (6, .view 0 0 (List.map i64 p.2.1).length), (19, i64 r15.1), (20, i64 p.2.2)], ⟨1, [(0, (1, List.map i64 p.2.1))], []⟩⟩ : St)) h (Weak.re [] [0] rfl rfl rfl (.fresh (by simp) dt trivial) ⟨.k, ⟨_, rfl, .nil (by simp)⟩, .k, .k, trivial⟩) ?_
   ·skip
    rintro ⟨s39, out40, v41⟩ o1 h hx1
    replace h : G.pack_Get_b1 r15 s39 out40 v41 = some o1 := h
    unfold G.pack_Get_b1 at h
    refine awp_seqK fun K13 hK13 => awp_reg rfl <| AR.op rfl (aop_lss rfl rfl rfl) <| AR.nil <| hK13 _ ?_
    refine awp_seqK fun K14 hK14 => awp_cond rfl (fun hb42 => ?_) (fun hb42 => ?_)
    ·replace h := Sh.if_t h hb42
     refine awp_skip <| hK14 _ (AWP.weak (Weak.kt [0, 6, 19, 20] rfl) ?_)
     refine awp_seqK fun K15 hK15 => awp_block <| awp_seqK fun K16 hK16 => awp_reg rfl <| AR.op rfl (aop_move (.inl rfl) rfl) ?_
     obtain ⟨r46, hr46, h⟩ := Sh.bind_some' h
     refine AR.op (r := .tuple [i64 r46.1, strL r46.2.1, i64 r46.2.2]) rfl (aop_call1 rfl rfl (by simp) (pack_next_ok hT hr46)) <| AR.op rfl (aop_move (.inl rfl) rfl) <| AR.keep [6, 19, 20, 22] rfl <| AR.op (r := i64 r46.1) rfl (aop_extract rfl rfl rfl) <| AR.op (r := strL r46.2.1) rfl (aop_extract rfl rfl rfl) <| AR.op (r := i64 r46.2.2) rfl (aop_extract rfl rfl rfl) <| AR.keep [6, 19, 20, 25, 26, 27] rfl <| AR.op rfl (aop_move (.inr rfl) rfl) ?_
     refine AR.op rfl (aop_move (.inr rfl) rfl) <| AR.op rfl (aop_move (.inr rfl) rfl) <| AR.nil <| hK16 _ (AWP.weak (Weak.kt [6, 19, 20, 7, 8, 9] rfl) ?_)
     refine awp_seqK fun K17 hK17 => awp_seqK fun K18 hK18 => awp_reg rfl <| AR.op rfl (aop_move (.inl rfl) rfl) <| AR.op (r := bl (decide (r46.2.2 ≠ 0))) rfl (aop_neq rfl rfl rfl) <| AR.nil <| hK18 _ (AWP.weak (Weak.kt [6, 19, 20, 7, 8, 9, 29] rfl) ?_)
     refine awp_cond rfl (fun hb47 => ?_) (fun hb47 => ?_)
     ·replace h := Sh.if_t h hb47
      refine awp_seqK fun K19 hK19 => awp_reg rfl <| AR.op rfl (aop_move (.inl rfl) rfl) <| AR.op rfl (aop_move (.inr rfl) rfl) <| AR.op rfl (aop_move (.inr rfl) rfl) <| AR.nil <| hK19 _ (AWP.weak (Weak.e (fr' := [(2, nilS), (3, i64 r46.2.2)]) (H' := .empty) ⟨.k, .k, trivial⟩) ?_)
      refine awp_ret ?_
      replace h := Sh.exit_eq h hx1
      obtain rfl := Option.some.inj h
      refine ⟨.inr rfl, .tuple [nilS, i64 r46.2.2], rfl, ?_⟩
      exact Weak.re [] [0] rfl rfl rfl (.fresh (by simp) dt trivial) ⟨⟨.tuple [nilS, i64 r46.2.2], rfl, .tp ⟨.nil (by simp), .sm, trivial⟩⟩, trivial⟩
     ·replace h := Sh.if_f h hb47
      refine awp_skip <| hK17 _ (AWP.weak (Weak.kt [6, 19, 20, 7, 8] rfl) ?_)
      refine awp_reg rfl <| AR.op rfl (aop_move (.inl rfl) rfl) <| AR.op rfl (aop_move (.inl rfl) rfl) <| AR.op rfl (aop_sub rfl rfl rfl rfl) <| AR.keep [19, 20, 8, 31, 33] rfl <| AR.op (r := .clip (List.map i64 [w64 (r46.1 - 1)])) rfl (aop_buildSlice rfl (xo := [.tmp 33]) rfl rfl rfl (by simp [AV.solid]) (by simp [AV.flat]) el25 ze25 (by decide)) ?_
      obtain ⟨out48, hout48, h⟩ := Sh.bind_some' h
      refine AR.op (r := .view 1 0 (List.map i64 out48).length) rfl (t_app_view i64 out40 [w64 (r46.1 - 1)] out48 hout48 rfl et25 (fun _ => rfl) rfl rfl rfl rfl rfl rfl rfl) <| AR.op rfl (aop_move (.inl rfl) rfl) <| AR.keep [19, 20, 35, 36] rfl <| AR.op rfl (aop_move (.inr rfl) rfl) <| AR.op rfl (aop_move (.inr rfl) rfl) <| AR.nil <| hK15 _ (AWP.weak (Weak.re (fr' := [(19, i64 r15.1), (20, i64 v41), (6, .view 0 0 (List.map i64 out48).length), (0, strL r46.2.1)]) (H' := ⟨1, [(0, (1, List.map i64 out48))], []⟩) [(0, 1)] [] rfl rfl rfl (.cons rfl rfl (.same (by simp)) dt trivial) ⟨.k, .k, ⟨_, rfl, .view rfl⟩, .k, trivial⟩) ?_)
      refine awp_reg rfl <| AR.op rfl (aop_add rfl rfl rfl rfl) <| AR.op rfl (aop_move (.inl rfl) rfl) <| AR.nil ?_
      replace h := Sh.next_eq h
      exact ⟨_, h, Weak.kt [0, 6, 19, 20] rfl⟩
    ·replace h := Sh.if_f h hb42
     refine awp_exit ?_
     replace h := Sh.exit_eq h hx1
     exact hK11 (s39, out40) _ h (Weak.kt [0, 6] rfl)
theorem pack_Get_ok {W0 : World} (hT : Tab W0) {s_0 : List UInt8} {r : (List Int) × Int} (h : G.pack_Get s_0 = some r) : Fun1 Tryz.prog W0 31 [strL s_0] (.tuple [.sl (List.map i64 r.1), i64 r.2]) :=
 (pack_Get_own hT h).give (Weak.e ⟨⟨_, rfl, .tp ⟨.lendAll rfl rfl (by simp), .sm, trivial⟩⟩, trivial⟩) (by simp)

end Wk
