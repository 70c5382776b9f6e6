/- What is handed back by a store's list of facts: a slice of its own, and the slices in its cells too. -/
import Derived.Test.YtdeepljikmgjjaaWkFoc
import Derived.Test.YtdeepljikmgjjaaWkSinquestlaw23
open Go Go.Av Go.Proofs
set_option linter.unusedVariables false
set_option maxHeartbeats 8000000
set_option maxRecDepth 20000
namespace Go.Av
theorem cellsF_av {g : Nat → Fa → AV} : ∀ (fs : List Fa) (q : Nat), (∀ j x, fs[j]? = some x → g (q + j) x = .sl (x.Cycle.map i64)) → cellsF g q fs = fs.map G.fact_Fact.av
  | [], _, _ => rfl
  | x :: l, q, h => by
    have h0 := h 0 x rfl
    rw [Nat.add_zero] at h0
    simp only [cellsF, List.map_cons]
    rw [h0, cellsF_av l (q + 1) (fun j y hy => by have := h (j + 1) y (by simpa using hy); rwa [show q + (j + 1) = q + 1 + j by omega] at this)]
    rfl
theorem OH_zero (F : List (Nat × (Nat × List AV))) (K M : Nat) (fs : List Fa) : OH F K M fs 0 = ⟨M, F ++ [(K, (7, fs.map G.fact_Fact.av))], []⟩ := by
  unfold OH rowsF
  rw [cellsF_av fs 0 (fun j x _ => by simp [outC])]
  simp [fam]
theorem cell_at {g : Nat → Fa → AV} {fs : List Fa} {k : Nat} {x : Fa} (h : fs[k]? = some x) : (cellsF g 0 fs)[k]? = some (mcell x (g k x)) := by rw [cellsF_get, h]; simp
theorem awp_iterI {P : Program} {W0 : Base} {N : Nat} {st : St} {Q : Exit → St → Prop} {c : Code} {σ α : Type} (b : σ → Option (σ ⊕ α)) (S : σ → St) (I : σ → Prop) {s0 : σ} {r : α} (h : Sh.loop b s0 = some r) (h0 : I s0) (hw : Weak W0 N st (S s0))
    (round : ∀ s o, I s → b s = some o → (∀ x, o = .inr x → x = r) → AWP P W0 N c (S s) (Then (fun s1 => ∃ s', o = .inl s' ∧ I s' ∧ Weak W0 N s1 (S s')) Q)) : AWP P W0 N (.loop c) st Q := by
  refine awp_loopS (σ := σ × Nat) (fun p => S p.1) (fun p => I p.1 ∧ Sh.iter b p.2 p.1 = some r) (fun p => p.2) (s0, Sh.FUEL) ⟨h0, h⟩ hw ?_
  rintro ⟨s, n⟩ ⟨hi, hn⟩
  cases n with
  | zero => cases hn
  | succ n =>
    simp only [Sh.iter] at hn
    cases hb : b s with
    | none => simp [hb] at hn
    | some o =>
      rw [hb] at hn
      refine (round s o hi hb (fun x hx => ?_)).mono fun e s1 h1 => ?_
      · subst hx; simpa using hn
      · cases e with
        | normal =>
          obtain ⟨s', h2, h3, h4⟩ := h1
          subst h2
          exact ⟨(s', n), ⟨h3, hn⟩, Nat.lt_succ_self n, h4⟩
        | _ => exact h1
section
variable {P : Program} {W0 : Base} {fr : Fr} {H : Heap} {o : Oper} {i : Int} {x : Fa} {ki : IntKind} {g : Nat → Fa → AV} {fs : List Fa}
theorem t_index_c {t e : TypeId} {by' id n k : Nat} {xo io : Operand} (hi : i = k) (hl : fs[k]? = some x) (hn : n = fs.length) (ho : o.op = .indexAddr t xo io) (hx : evalA fr xo = some (.view id 0 n)) (hid : H.get id = some (cellsF g 0 fs)) (hio : evalA fr io = some (.imm (.int ki i)))
    (ht : elT P t = some (e, 7, by')) : AOp P W0 o fr H (.ref id k 0) H := by
  have hk : k < n := by rw [hn]; exact (List.getElem?_eq_some_iff.1 hl).1
  have := aop_index_view (P := P) (W0 := W0) (o := o) (fr := fr) (H := H) ho hx hid hio ht hi hk (el := mcell x (g k x)) (by rw [Nat.zero_add]; exact cell_at hl) rfl
  rwa [Nat.zero_add] at this
theorem t_load_c {t : TypeId} {xo : Operand} {id k j n : Nat} {b : Bool} {r : AV} (hl : fs[k]? = some x) (ho : o.op = .load t xo) (hx : evalA fr xo = some (.ref id k j)) (hid : H.get id = some (cellsF g 0 fs)) (ht : szT P t = some (n, b)) (hr : partA (mcell x (g k x)).flat j n b = some r) : AOp P W0 o fr H r H :=
  aop_load_ref ho hx hid (cell_at hl) ht hr
theorem t_store_c {t : TypeId} {xo yo : Operand} {id k j n : Nat} {b : Bool} {ay : AV} {g' : Nat → Fa → AV} {fs' : List Fa} (y : Fa) (hl : fs[k]? = some x) (hfs : fs' = fs.set k y) (hg : ∀ j x, j ≠ k → fs[j]? = some x → g j x = g' j x) (ho : o.op = .store t xo yo) (hx : evalA fr xo = some (.ref id k j)) (hy : evalA fr yo = some ay) (hsol : ay.solid = true)
    (hid : H.get id = some (cellsF g 0 fs)) (ht : szT P t = some (n, b)) (hn : ay.flat.length = n) (hj : j + n ≤ 7) (he' : (mcell y (g' k y)).flat = (mcell x (g k x)).flat.take j ++ ay.flat ++ (mcell x (g k x)).flat.drop (j + n)) (hn0 : 0 < n := by decide) :
    AOp P W0 o fr H .any (H.set id (cellsF g' 0 fs')) := by
  subst hfs
  rw [← cellsF_set (c := g' k y) rfl hg]
  exact aop_store ho hx hy hsol hid (cell_at hl) ht hn hj he' hn0
end
def UndF (M : Nat) : List (Nat × (Nat × List AV)) → Prop
  | [] => True
  | (_, (_, es)) :: r => (∀ e ∈ es, ∀ x ∈ e.flat, Under M x) ∧ UndF M r
theorem UndF.spec {M : Nat} : ∀ {F : List (Nat × (Nat × List AV))}, UndF M F → ∀ q ∈ F, ∀ e ∈ q.2.2, ∀ x ∈ e.flat, Under M x
  | [], _, q, hq => by cases hq
  | (_, (_, _)) :: r, h, q, hq => by
    rcases List.mem_cons.1 hq with rfl | hq
    · exact h.1
    · exact UndF.spec h.2 q hq
theorem Frt.of {F : List (Nat × (Nat × List AV))} {K M p : Nat} (hu : UndF M F) (h1 : F.all (fun q => decide (q.1 < M) && q.1 != K) = true := by rfl) (h2 : K < M := by decide) (h3 : p ≤ M := by decide) : Frt F K M p where
  km := h2
  lt q hq := by have := List.all_eq_true.1 h1 q hq; simp at this; exact this.1
  nk q hq := by have := List.all_eq_true.1 h1 q hq; simp at this; exact this.2
  und := hu.spec
  pm := h3
theorem und_av {M : Nat} (l : List G.fact_Fact) : ∀ e ∈ List.map G.fact_Fact.av l, ∀ x ∈ e.flat, Under M x := fun e he x hx => by
  obtain ⟨a, _, rfl⟩ := List.mem_map.1 he
  refine .noid ?_
  simp [G.fact_Fact.av, AV.flat] at hx
  rcases hx with rfl | rfl | rfl | rfl | rfl | rfl | rfl <;> simp
theorem und_mp {M : Nat} (m : List (G.api_Choice × Bool)) : ∀ e ∈ [mpC G.api_Choice.ky m], ∀ x ∈ e.flat, Under M x := fun e he x hx => by
  simp at he; subst he; simp at hx
theorem und_st {M a b : Nat} {n : Nat} (ha : a < M) (hb : b < M) (tx : List G.api_Txn) (lv : Int) : ∀ e ∈ [AV.agg [.view a 0 n, .mref b, .sl (List.map G.api_Txn.av tx), i64 lv]], ∀ x ∈ e.flat, Under M x := fun e he x hx => by
  simp at he; subst he
  simp [AV.flat] at hx
  rcases hx with rfl | rfl | rfl | rfl
  · exact .view _ _ _ ha
  · exact .mref _ hb
  · exact .noid (by simp)
  · exact .imm _
end Go.Av
namespace Wk
abbrev oSt (a b : Nat) (l : List G.fact_Fact) (tx : List G.api_Txn) (lv : Int) : Nat × List AV := (4, [.agg [.view a 0 (List.map G.fact_Fact.av l).length, .mref b, .sl (List.map G.api_Txn.av tx), i64 lv]])
abbrev oFs (l : List G.fact_Fact) : Nat × List AV := (7, List.map G.fact_Fact.av l)
abbrev oMp (m : List (G.api_Choice × Bool)) : Nat × List AV := (0, [mpC G.api_Choice.ky m])
theorem store_Store_Facts__own {W0 : World} (hT : Tab W0) {chTxns_0 : List G.api_Txn} {clevel_1 : Int} {l_2 : List G.fact_Fact} {l_3 : List (G.api_Choice × Bool)} {r : (List G.fact_Fact)} (h : G.store_Store_Facts__1 chTxns_0 clevel_1 l_2 l_3 = some r) : Fun3 Try.prog (.pinned W0 1) 12 [.ref 0 0 0] ⟨3, [(0, oSt 1 2 l_2 chTxns_0 clevel_1), (1, oFs l_2), (2, oMp l_3)], []⟩ (.view 3 0 r.length) (OH [(0, oSt 1 2 l_2 chTxns_0 clevel_1), (1, oFs l_2), (2, oMp l_3)] 3 4 r r.length) := by
  refine fun3_of_awp rfl Try.func12 rfl (by kernel_rfl) Try.ntmps12 (by simp) ?_
  unfold G.store_Store_Facts__1 at h
  show AWP _ _ _ _ ⟨[(0, .ref 0 0 0)], ⟨3, [(0, oSt 1 2 l_2 chTxns_0 clevel_1), (1, oFs l_2), (2, oMp l_3)], []⟩⟩ _
  refine awp_seqK fun K1 hK1 => ?_
  refine awp_reg rfl ?_
  refine AR.op (r := nilS) rfl (aop_move (.inr rfl) rfl) ?_
  refine AR.nil ?_
  refine hK1 _ (AWP.weak (Weak.kt [0] rfl) ?_)
  clear hK1 K1
  refine awp_seqK fun K2 hK2 => ?_
  refine awp_seqK fun K3 hK3 => ?_
  refine awp_reg rfl ?_
  refine AR.op (r := .ref 0 0 0) rfl (aop_move (.inl rfl) rfl) ?_
  refine AR.op (r := bl false) rfl (aop_eq_ref rfl rfl rfl rfl pt29) ?_
  refine AR.nil ?_
  refine hK3 _ (AWP.weak (Weak.kt [0, 6] rfl) ?_)
  clear hK3 K3
  refine awp_cond_f rfl ?_
  refine awp_skip ?_
  refine hK2 _ (AWP.weak (Weak.kt [0] rfl) ?_)
  clear hK2 K2
  refine awp_seqK fun K4 hK4 => ?_
  refine awp_reg rfl ?_
  refine AR.op (r := .ref 0 0 0) rfl (aop_move (.inl rfl) rfl) ?_
  refine AR.op (r := .ref 0 0 0) rfl (aop_nilCheck_ref rfl rfl rfl) ?_
  refine AR.op rfl (aop_field_ref rfl rfl rfl fd64_0 (by decide)) ?_
  refine AR.keep [9] rfl ?_
  refine AR.op rfl (aop_field_ref rfl rfl rfl fd61_0 (by decide)) ?_
  refine AR.op (r := .view 1 0 (List.map G.fact_Fact.av l_2).length) rfl (aop_load_ref rfl rfl rfl rfl sz25 rfl) ?_
  obtain ⟨r23, hr23, h⟩ := Sh.bind_some' h
  have hb23 : r23.length * 72 ≤ 140737488355328 := by
    have hh : Sh.app 72 [] l_2 = some r23 := hr23
    obtain ⟨h1, h2⟩ := Sh.app_some hh
    subst h2; simpa using h1
  refine AR.op (r := .view 4 0 (List.map G.fact_Fact.av r23).length) rfl (aop_call3E (ok := NoId) (ys := [.view 1 0 (List.map G.fact_Fact.av l_2).length]) (xs := [.view 0 0 (List.map G.fact_Fact.av l_2).length]) (r' := .view 4 0 (List.map G.fact_Fact.av r23).length) (Hs := ⟨3, [(1, (7, List.map G.fact_Fact.av l_2))], []⟩) (H' := ⟨5, [(0, (4, [.agg [.view 1 0 (List.map G.fact_Fact.av l_2).length, .mref 2, .sl (List.map G.api_Txn.av chTxns_0), i64 clevel_1]])), (1, (7, List.map G.fact_Fact.av l_2)), (2, (0, [mpC G.api_Choice.ky l_3])), (4, (7, List.map G.fact_Fact.av r23))], []⟩) (g := [(0, 1)]) (m := [(0, 1), (1, 4)]) (nw := []) (p := 1) (.func rfl rfl (slices_Clone_fact_Fact_fact_Fact_view hT hr23).call) (slices_Clone_fact_Fact_fact_Fact_view hT hr23) { next := rfl, part := ⟨rfl, trivial⟩, inj := rfl, lt := rfl, nwf := rfl, gin := rfl, held := .cons rfl rfl (.same (by simp)) (of_decide_eq_true rfl) (trivial), seen := ⟨⟨_, rfl, .view rfl⟩, trivial⟩, inlps := rfl, ple := rfl, map := rfl, next' := rfl, back := .kept rfl rfl (.new 0 rfl rfl (.same (by simp [AV.flat, G.fact_Fact.av])) (.kept rfl rfl (.new 1 rfl rfl (.same (by simp [AV.flat, G.fact_Fact.av])) (trivial)))), lps := .inl ⟨rfl, rfl⟩, mode := .inr ⟨fun _ h => h, rfl⟩, ren := .view rfl } rfl) ?_
  refine AR.keep [12] rfl ?_
  refine AR.op (r := .view 4 0 (List.map G.fact_Fact.av r23).length) rfl (aop_move (.inr rfl) rfl) ?_
  refine AR.nil ?_
  refine hK4 _ (AWP.weak (Weak.re (fr' := [(3, .view 3 0 (List.map G.fact_Fact.av r23).length)]) (H' := ⟨4, [(0, oSt 1 2 l_2 chTxns_0 clevel_1), (1, oFs l_2), (2, oMp l_3), (3, oFs r23)], []⟩) [(0, 0), (1, 1), (2, 2), (3, 4)] [] rfl rfl rfl (.cons rfl rfl (.one (.ag ⟨.view rfl, .mref rfl, .sm, .sm, trivial⟩) rfl) (of_decide_eq_true rfl) (.cons rfl rfl (.same (by simp)) (of_decide_eq_true rfl) (.cons rfl rfl (.same (by simp)) (of_decide_eq_true rfl) (.cons rfl rfl (.same (by simp)) (of_decide_eq_true rfl) (trivial))))) ⟨⟨_, rfl, .view rfl⟩, trivial⟩) ?_)
  clear hK4 K4
  have hz : (⟨4, [(0, oSt 1 2 l_2 chTxns_0 clevel_1), (1, oFs l_2), (2, oMp l_3), (3, oFs r23)], []⟩ : Heap) = OH [(0, oSt 1 2 l_2 chTxns_0 clevel_1), (1, oFs l_2), (2, oMp l_3)] 3 4 r23 0 := by rw [OH_zero]; rfl
  have hF : Frt [(0, oSt 1 2 l_2 chTxns_0 clevel_1), (1, oFs l_2), (2, oMp l_3)] 3 4 1 := .of ⟨und_st (by decide) (by decide) _ _, und_av _, und_mp _, trivial⟩
  refine awp_seqJ (fun (p : (List G.fact_Fact)) => (⟨[(3, .view 3 0 p.length)], OH [(0, oSt 1 2 l_2 chTxns_0 clevel_1), (1, oFs l_2), (2, oMp l_3)] 3 4 p p.length⟩ : St)) (fun (p : (List G.fact_Fact)) => G.store_Store_Facts__1_j1 p = some r) ?_ ?_
  · rintro out43 h
    replace h : G.store_Store_Facts__1_j1 out43 = some r := h
    unfold G.store_Store_Facts__1_j1 at h
    refine awp_seqK fun K5 hK5 => ?_
    refine awp_reg rfl ?_
    refine AR.op (r := .view 3 0 out43.length) rfl (aop_move (.inl rfl) rfl) ?_
    refine AR.op (r := .view 3 0 out43.length) rfl (aop_move (.inr rfl) rfl) ?_
    refine AR.nil ?_
    refine hK5 _ (AWP.weak (Weak.kt [2] rfl) ?_)
    clear hK5 K5
    refine awp_ret ?_
    obtain rfl := Option.some.inj h
    refine ⟨.inr rfl, .view 3 0 out43.length, rfl, ?_⟩
    exact Weak.refl _
  · intro K6 hK6
    refine awp_seqK fun K7 hK7 => ?_
    refine awp_reg rfl ?_
    refine AR.op (r := .view 3 0 (List.map G.fact_Fact.av r23).length) rfl (aop_move (.inl rfl) rfl) ?_
    refine AR.op (r := i64 (Sh.len r23)) rfl (t_len_view G.fact_Fact.av r23 rfl rfl rfl rfl el25) ?_
    refine AR.op (r := i64 0) rfl (aop_move (.inl rfl) rfl) ?_
    refine AR.nil ?_
    refine hK7 _ (AWP.weak (Weak.kt [3, 14, 15] rfl) ?_)
    clear hK7 K7
    refine awp_block ?_
    rw [hz, List.length_map]
    refine awp_iterI (fun (p : (List G.fact_Fact) × Int) => G.store_Store_Facts__1_b1 r23 p.1 p.2) (fun (p : (List G.fact_Fact) × Int) => (⟨[(3, .view 3 0 p.1.length), (14, i64 (Sh.len r23)), (15, i64 p.2)], OH [(0, oSt 1 2 l_2 chTxns_0 clevel_1), (1, oFs l_2), (2, oMp l_3)] 3 4 p.1 p.2.toNat⟩ : St)) (fun p => 0 ≤ p.2 ∧ p.2 ≤ p.1.length ∧ p.1.length = r23.length) h ⟨by simp, by simp, rfl⟩ (Weak.refl _) ?_
    · rintro ⟨out56, v57⟩ o1 ⟨hi0, hi1, hi2⟩ h hx1
      simp only at hi0 hi1 hi2
      replace h : G.store_Store_Facts__1_b1 r23 out56 v57 = some o1 := h
      unfold G.store_Store_Facts__1_b1 at h
      refine awp_seqK fun K8 hK8 => ?_
      refine awp_reg rfl ?_
      refine AR.op (r := bl (decide (v57 < (Sh.len r23)))) rfl (aop_lss rfl rfl rfl) ?_
      refine AR.nil ?_
      refine hK8 _ ?_
      clear hK8 K8
      refine awp_seqK fun K9 hK9 => ?_
      refine awp_cond rfl (fun hb58 => ?_) (fun hb58 => ?_)
      · replace h := Sh.if_t h hb58
        refine awp_skip ?_
        refine hK9 _ (AWP.weak (Weak.kt [3, 14, 15] rfl) ?_)
        clear hK9 K9
        refine awp_seqK fun K10 hK10 => ?_
        have hb : v57 < (r23.length : Int) := by simpa using hb58
        refine awp_focus [(0, oSt 1 2 l_2 chTxns_0 clevel_1), (1, oFs l_2), (2, oMp l_3)] 3 4 out56 v57.toNat none hF (by omega) (fun i hi => by cases hi) ⟨.view _ _ _ (by decide), .imm _, .imm _, trivial⟩ (fun vs => ?_)
        refine awp_block ?_
        refine awp_seqK fun K11 hK11 => ?_
        refine awp_reg rfl ?_
        refine AR.op (r := i64 v57) rfl (aop_move (.inl rfl) rfl) ?_
        refine AR.op (r := i64 v57) rfl (aop_move (.inr rfl) rfl) ?_
        refine AR.nil ?_
        refine hK11 _ (AWP.weak (Weak.kt [3, 14, 15, 4] rfl) ?_)
        clear hK11 K11
        refine awp_reg rfl ?_
        refine AR.op (r := .view 3 0 out56.length) rfl (aop_move (.inl rfl) rfl) ?_
        refine AR.op (r := i64 v57) rfl (aop_move (.inl rfl) rfl) ?_
        refine AR.op (r := .view 3 0 out56.length) rfl (aop_move (.inl rfl) rfl) ?_
        refine AR.keep [3, 14, 15, 4, 18, 19, 20] rfl ?_
        refine AR.op (r := i64 v57) rfl (aop_move (.inl rfl) rfl) ?_
        obtain ⟨x64, hx64, h⟩ := Sh.bind_some' h
        obtain ⟨k65, hi65, hl65⟩ := Sh.idx_some hx64
        have hk65 : v57.toNat = k65 := by omega
        refine AR.op (r := .ref 3 k65 0) rfl (t_index_c hi65 hl65 rfl rfl rfl rfl rfl el25) ?_
        refine AR.op rfl (aop_field_ref rfl rfl rfl fd38_4 (by decide)) ?_
        refine AR.keep [3, 14, 15, 18, 19, 23] rfl ?_
        refine AR.op (r := .sl (List.map i64 x64.Cycle)) rfl (t_load_c hl65 rfl rfl rfl sz36 (by
          have : innC vs 4 v57.toNat none k65 x64 = .sl (List.map i64 x64.Cycle) := by unfold innC; rw [if_neg (by simp), if_neg (by omega)]
          rw [this]; rfl)) ?_
        obtain ⟨r66, hr66, h⟩ := Sh.bind_some' h
        refine AR.op (r := .view 4 0 (List.map i64 r66).length) rfl (aop_call2N (.view 4 0 (List.map i64 r66).length) [(4, (1, List.map i64 r66))] rfl (ys := [.sl (List.map i64 x64.Cycle)]) (xs := [.sl (List.map i64 x64.Cycle)]) rfl (Weak.refl _) rfl (by simp) (slices_Clone_int_int_own hT hr66) (.view _ _ _) ⟨rfl, rfl, .same (by simp [AV.flat]), trivial⟩) ?_
        obtain ⟨x67, hx67, h⟩ := Sh.bind_some' h
        obtain ⟨k68, hi68, hl68⟩ := Sh.idx_some hx67
        have hk68 : v57.toNat = k68 := by omega
        refine AR.op (r := .ref 3 k68 0) rfl (t_index_c hi68 hl68 rfl rfl rfl rfl rfl el25) ?_
        refine AR.keep [3, 14, 15, 25, 26] rfl ?_
        refine AR.op rfl (aop_field_ref rfl rfl rfl fd38_4 (by decide)) ?_
        refine AR.op rfl (t_store_c (g' := innC vs 4 (v57.toNat + 1) (some v57.toNat)) (fs' := Sh.set out56 v57 (G.fact_Fact.mk (G.api_Choice.mk x67.C.Key x67.C.A x67.C.B) x67.Kind x67.I x67.J r66)) (G.fact_Fact.mk (G.api_Choice.mk x67.C.Key x67.C.A x67.C.B) x67.Kind x67.I x67.J r66) hl68 (by unfold Sh.set; rw [hk68]) (fun j x hj hx => by
          unfold innC
          rw [if_neg (show ¬ (none : Option Nat) = some j by simp), if_neg (show ¬ some v57.toNat = some j by simp; omega)]
          by_cases hjj : j < v57.toNat
          · rw [if_pos hjj, if_pos (by omega)]
          · rw [if_neg hjj, if_neg (by omega)]) rfl rfl rfl rfl rfl sz36 rfl (of_decide_eq_true rfl) (by
          have : innC vs 4 (v57.toNat + 1) (some v57.toNat) k68 (G.fact_Fact.mk (G.api_Choice.mk x67.C.Key x67.C.A x67.C.B) x67.Kind x67.I x67.J r66) = .view 4 0 r66.length := by unfold innC; rw [if_pos (by rw [hk68])]
          rw [this]
          show _ = [i64 x67.C.Key, i64 x67.C.A, i64 x67.C.B, i64 x67.Kind, i64 x67.I, i64 x67.J] ++ [AV.view 4 0 (List.map i64 r66).length] ++ []
          rw [List.length_map]; rfl)) ?_
        refine AR.keep [3, 14, 15] rfl ?_
        refine AR.nil ?_
        refine ⟨[(3, .view 3 0 out56.length), (14, i64 (Sh.len r23)), (15, i64 v57)], [(0, oSt 1 2 l_2 chTxns_0 clevel_1), (1, oFs l_2), (2, oMp l_3)], 3, 4, v57.toNat + 1, Sh.set out56 v57 (G.fact_Fact.mk (G.api_Choice.mk x67.C.Key x67.C.A x67.C.B) x67.Kind x67.I x67.J r66), some v57.toNat, ?_, hF, ⟨.view _ _ _ (by decide), .imm _, .imm _, trivial⟩, .inr ⟨rfl, rfl, rfl⟩, by rw [Sh.set_len]; omega, fun j x hj _ hx => ?_, ?_⟩
        · have hrow : ((Sh.set out56 v57 (G.fact_Fact.mk (G.api_Choice.mk x67.C.Key x67.C.A x67.C.B) x67.Kind x67.I x67.J r66))[v57.toNat]?.getD default).Cycle = r66 := by
            unfold Sh.set
            rw [List.getElem?_set, if_pos rfl, if_pos (by omega)]; rfl
          simp only [IH, hrow]
          rfl
        · unfold Sh.set at hx
          rw [List.getElem?_set, if_neg (by omega)] at hx
          exact ⟨x, hx, rfl⟩
        refine hK10 _ (AWP.weak (Weak.refl _) ?_)
        clear hK10 K10
        refine awp_reg rfl ?_
        refine AR.op (r := i64 (w64 (v57 + 1))) rfl (aop_add rfl rfl rfl rfl) ?_
        refine AR.op (r := i64 (w64 (v57 + 1))) rfl (aop_move (.inl rfl) rfl) ?_
        refine AR.nil ?_
        replace h := Sh.next_eq h
        have hw : w64 (v57 + 1) = v57 + 1 := i64_wrap (by omega) (by omega)
        refine ⟨_, h, ⟨by rw [hw]; simp only; omega, by simp only [Sh.set_len]; rw [hw]; omega, by simp only [Sh.set_len]; exact hi2⟩, ?_⟩
        simp only [Sh.set_len]
        rw [hw, show (v57 + 1).toNat = v57.toNat + 1 by omega]
        exact Weak.kt [3, 14, 15] rfl
      · replace h := Sh.if_f h hb58
        refine awp_exit ?_
        replace h := Sh.exit_eq h hx1
        have hb : ¬ v57 < (r23.length : Int) := by simpa using hb58
        have hn : v57.toNat = out56.length := by omega
        refine hK6 out56 _ h ?_
        show Weak _ _ ⟨_, OH _ 3 4 out56 v57.toNat⟩ _
        rw [hn]
        exact Weak.kt [3] rfl
end Wk
