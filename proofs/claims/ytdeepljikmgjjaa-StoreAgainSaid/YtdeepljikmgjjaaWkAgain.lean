/- That a statement does what its plain function says. -/
import Derived.Test.YtdeepljikmgjjaaWkAgCall
open Go Go.Av Go.Proofs
set_option linter.unusedVariables false
set_option maxHeartbeats 8000000
set_option maxRecDepth 20000
namespace Wk
theorem noid_inn {vs : Nat → Value} {M n : Nat} {fs : List Fa} : ∀ e ∈ cellsF (innC vs M n none) 0 fs, NoId e := fun e he => by
  obtain ⟨j, hj⟩ := List.getElem?_of_mem he
  rw [cellsF_get] at hj
  obtain ⟨x, _, rfl⟩ := Option.map_eq_some_iff.1 hj
  unfold mcell innC
  rw [if_neg (by simp)]
  split <;> simp
theorem innN (a b : Nat) {vs : Nat → Value} {n : Nat} {fs : List Fa} : cellsF (innC vs a n none) 0 fs = cellsF (innC vs b n none) 0 fs := cellsF_same fun j x _ => by
  unfold innC
  rw [if_neg (show ¬ (none : Option Nat) = some j by simp), if_neg (show ¬ (none : Option Nat) = some j by simp)]
theorem seeC {H : Heap} {g : List (Nat × Nat)} {nw : List Nat} {vs : Nat → Value} {n k : Nat} {fs : List Fa} (hg : lk g 7 = some 7) : SeeL H g nw (cellsF (innC vs 7 n (some k)) 0 fs) (cellsF (innC vs 7 n (some k)) 0 fs) :=
  ⟨rfl, fun j e e' h1 h2 => by
    rw [h1] at h2; cases h2
    rw [cellsF_get] at h1
    obtain ⟨x, _, rfl⟩ := Option.map_eq_some_iff.1 h1
    refine ⟨.agg _ _ rfl fun q y y' h3 h4 => ?_, rfl⟩
    rw [h3] at h4; cases h4
    by_cases hq : q = 6
    · subst hq
      have : y = innC vs 7 n (some k) (0 + j) x := mcell_six (x := x) h3
      rw [this]
      unfold innC
      split
      · exact .view hg
      · split
        · exact .same _ (by simp)
        · exact .same _ (by simp)
    · exact .same _ (mcell_lt (x := x) (c' := nilS) hq h3).2⟩
theorem und_st0 {M b : Nat} (hb : b < M) (tx : List G.api_Txn) (lv : Int) : ∀ e ∈ [AV.agg [nilS, .mref b, .sl (List.map G.api_Txn.av tx), i64 lv]], ∀ x ∈ e.flat, Under M x := fun e he x hx => by
  simp at he; subst he
  simp [AV.flat] at hx
  rcases hx with rfl | rfl | rfl | rfl
  · exact .imm _
  · exact .mref _ hb
  · exact .noid (by simp)
  · exact .imm _
theorem awp_focusW {W : World} {p N : Nat} {P : Program} {c : Code} {fr : List (Nat × AV)} {Q : Exit → St → Prop} (F : List (Nat × (Nat × List AV))) (K M : Nat) (fs : List Fa) (n : Nat) (f : Option Nat) (hF : Frt F K M p) (hn : n ≤ fs.length) (hf : ∀ i, f = some i → i < n) (hfr : UnderL M fr)
    (h : ∀ vs : Nat → Value, AWP P (.pinned W p) N c ⟨fr, IH F K M vs fs n f⟩ (fun e st' => ∃ fr' F' K' M' n' fs' f', Weak (.pinned W p) N st' ⟨fr', IH F' K' M' vs fs' n' f'⟩ ∧ Frt F' K' M' p ∧ UnderL M' fr' ∧ ((f' = f ∧ n' = n) ∨ (f = none ∧ f' = some n ∧ n' = n + 1)) ∧ n' ≤ fs'.length ∧
      (∀ j x, j < n → f ≠ some j → fs'[j]? = some x → ∃ y, fs[j]? = some y ∧ x.Cycle = y.Cycle) ∧ Q e ⟨fr', OH F' K' M' fs' n'⟩)) : AWP P (.pinned W p) N c ⟨fr, OH F K M fs n⟩ Q :=
  awp_focus F K M fs n f hF hn hf hfr fun vs C a hr => wpIn_mono (h vs C a hr) fun e a' w' ⟨s, C', g1, g2, g3, fr', F', K', M', n', fs', f', hw, q⟩ => by
    obtain ⟨C2, p1, p2, p3⟩ := hw C' a' g3
    exact ⟨_, C2, p1.trans g1, g2.trans p2, p3, fr', F', K', M', n', fs', f', rfl, q⟩
theorem awp_iterG {P : Program} {W0 : Base} {N : Nat} {st : St} {Q : Exit → St → Prop} {c : Code} {σ α γ : Type} (b : σ → Option (σ ⊕ α)) (S : σ → γ → St) (I : σ → γ → Prop) {s0 : σ} {r : α} (g0 : γ) (h : Sh.loop b s0 = some r) (h0 : I s0 g0) (hw : Weak W0 N st (S s0 g0))
    (round : ∀ s g o, I s g → b s = some o → (∀ x, o = .inr x → x = r) → AWP P W0 N c (S s g) (Then (fun s1 => ∃ s' g', o = .inl s' ∧ I s' g' ∧ Weak W0 N s1 (S s' g')) Q)) : AWP P W0 N (.loop c) st Q := by
  refine awp_loopS (σ := (σ × γ) × Nat) (fun p => S p.1.1 p.1.2) (fun p => I p.1.1 p.1.2 ∧ Sh.iter b p.2 p.1.1 = some r) (fun p => p.2) ((s0, g0), Sh.FUEL) ⟨h0, h⟩ hw ?_
  rintro ⟨⟨s, g⟩, n⟩ ⟨hi, hn⟩
  cases n with
  | zero => cases hn
  | succ n =>
    simp only [Sh.iter] at hn
    cases hb : b s with
    | none => simp [hb] at hn
    | some o =>
      rw [hb] at hn
      refine (round s g o hi hb (fun x hx => ?_)).mono fun e s1 h1 => ?_
      · subst hx; simpa using hn
      · cases e with
        | normal =>
          obtain ⟨s', g', h2, h3, h4⟩ := h1
          subst h2
          exact ⟨((s', g'), n), ⟨h3, hn⟩, Nat.lt_succ_self n, h4⟩
        | _ => exact h1
def alike (m fs : List Fa) : Prop := fs.length = m.length ∧ ∀ (j : Nat) (x y : Fa), fs[j]? = some x → m[j]? = some y → x.Cycle.length = y.Cycle.length
theorem alike_refl (m : List Fa) : alike m m := ⟨rfl, fun j x y h1 h2 => by rw [h1] at h2; cases h2; rfl⟩
theorem alike_set {m fs : List Fa} (h : alike m fs) {k : Nat} {x y : Fa} (hx : fs[k]? = some x) (hy : m[k]? = some y) {row : List Int} (hr : row.length = x.Cycle.length) {c c' : G.api_Choice} {a b e a' b' e' : Int} : alike (Sh.set m (k : Int) (G.fact_Fact.mk c' a' b' e' y.Cycle)) (fs.set k (G.fact_Fact.mk c a b e row)) := by
  refine ⟨by unfold Sh.set; simp [h.1], fun j u v h1 h2 => ?_⟩
  unfold Sh.set at h2
  rw [Int.toNat_natCast, List.getElem?_set] at h2
  rw [List.getElem?_set] at h1
  by_cases hj : k = j
  · subst hj
    have hk1 := (List.getElem?_eq_some_iff.1 hx).1
    have hk2 := (List.getElem?_eq_some_iff.1 hy).1
    rw [if_pos rfl, if_pos hk1] at h1
    rw [if_pos rfl, if_pos hk2] at h2
    cases h1; cases h2
    simp only; rw [hr]; exact h.2 k x y hx hy
  · rw [if_neg hj] at h1 h2
    exact h.2 j u v h1 h2
theorem again_b2_nonneg {m : List G.fact_Fact} {i : Int} {o : ((List G.fact_Fact) × Int) ⊕ Bool} (h : Sh.loop (fun (p : Int) => G.inquestlaw23_StoreAgain_b2 m i p) 0 = some o) : 0 ≤ i := by
  unfold Sh.loop at h
  generalize Sh.FUEL = n at h
  cases n with
  | zero => cases h
  | succ n =>
  simp only [Sh.iter] at h
  unfold G.inquestlaw23_StoreAgain_b2 at h
  cases hx : Sh.idx m i with
  | none => rw [hx] at h; simp at h
  | some x => unfold Sh.idx at hx; split at hx <;> simp_all
abbrev aF (l : List G.fact_Fact) (m : List (G.api_Choice × Bool)) (tx : List G.api_Txn) (lv : Int) (l' : List G.fact_Fact) (m' : List (G.api_Choice × Bool)) (tx' : List G.api_Txn) : List (Nat × (Nat × List AV)) := [(0, oSt 1 2 l tx lv), (1, oFs l), (2, oMp m), (3, oSt 4 5 l' tx' lv), (4, oFs l'), (5, oMp m')]
theorem aF_frt (l : List G.fact_Fact) (m : List (G.api_Choice × Bool)) (tx : List G.api_Txn) (lv : Int) (l' : List G.fact_Fact) (m' : List (G.api_Choice × Bool)) (tx' : List G.api_Txn) : Frt (aF l m tx lv l' m' tx') 6 7 0 :=
  .of ⟨und_st (by decide) (by decide) _ _, und_av _, und_mp _, und_st (by decide) (by decide) _ _, und_av _, und_mp _, trivial⟩
theorem inquestlaw23_StoreAgain_ok0 {W0 : World} (hT : Tab W0) {h_0 : G.api_Hist} {level_1 : Int} {l_2 : List G.fact_Fact} {r : Bool} (h : G.inquestlaw23_StoreAgain h_0 level_1 l_2 = some r) : Fun2 Try.prog W0 3 [G.api_Hist.av h_0, i64 level_1, .sl (List.map G.fact_Fact.av l_2)] (bl r) .empty := by
  refine fun2_of_awp Try.func3 rfl (by kernel_rfl) Try.ntmps3 (by simp) ?_
  unfold G.inquestlaw23_StoreAgain at h
  show AWP _ _ _ _ ⟨[(0, G.api_Hist.av h_0), (1, i64 level_1), (2, .sl (List.map G.fact_Fact.av l_2))], .empty⟩ _
  refine awp_seqK fun K1 hK1 => ?_
  refine awp_reg rfl ?_
  refine AR.op (r := .ref 0 0 0) rfl (aop_box 1 [G.api_Hist.av h_0] rfl rfl rfl (.inl ⟨rfl, rfl⟩)) ?_
  refine AR.op (r := bl false) rfl (aop_move (.inr rfl) rfl) ?_
  refine AR.nil ?_
  refine hK1 _ (AWP.weak (Weak.re (fr' := [(1, i64 level_1), (2, .sl (List.map G.fact_Fact.av l_2)), (3, .pp [.sl (List.map G.api_Txn.av h_0.Txns)] 0)]) (H' := .empty) [] [] rfl rfl rfl (trivial) ⟨⟨_, rfl, .sm⟩, ⟨.sl (List.map G.fact_Fact.av l_2), rfl, .sm⟩, ⟨_, rfl, .frzA rfl rfl rfl rfl (by simp)⟩, trivial⟩) ?_)
  clear hK1 K1
  refine awp_seqK fun K2 hK2 => ?_
  refine awp_reg rfl ?_
  obtain ⟨r148, hr148, h⟩ := Sh.bind_some' h
  refine AR.op (r := bl r148) rfl (aop_call1 rfl rfl (by simp) (inquestlaw23_awake_ok hT hr148)) ?_
  refine AR.op (r := bl r148) rfl (aop_move (.inr rfl) rfl) ?_
  refine AR.nil ?_
  refine hK2 _ (AWP.weak (Weak.kt [1, 2, 3, 7] rfl) ?_)
  clear hK2 K2
  refine awp_seqK fun K3 hK3 => ?_
  refine awp_seqK fun K4 hK4 => ?_
  refine awp_reg rfl ?_
  refine AR.op (r := bl r148) rfl (aop_move (.inl rfl) rfl) ?_
  refine AR.op (r := bl (!r148)) rfl (aop_not rfl rfl) ?_
  refine AR.nil ?_
  refine hK4 _ (AWP.weak (Weak.kt [1, 2, 3, 23] rfl) ?_)
  clear hK4 K4
  refine awp_cond rfl (fun hb149 => ?_) (fun hb149 => ?_)
  · replace h := Sh.if_t h hb149
    refine awp_seqK fun K5 hK5 => ?_
    refine awp_reg rfl ?_
    refine AR.op (r := bl false) rfl (aop_move (.inr rfl) rfl) ?_
    refine AR.nil ?_
    refine hK5 _ (AWP.weak (Weak.kt [6] rfl) ?_)
    clear hK5 K5
    refine awp_ret ?_
    obtain rfl := Option.some.inj h
    refine ⟨.inr rfl, bl false, rfl, ?_⟩
    exact Weak.re [] [] rfl rfl rfl (trivial) ⟨⟨_, rfl, .sm⟩, trivial⟩
  · replace h := Sh.if_f h hb149
    refine awp_skip ?_
    refine hK3 _ (AWP.weak (Weak.kt [1, 2, 3] rfl) ?_)
    clear hK3 K3
    refine awp_seqK fun K6 hK6 => ?_
    refine awp_reg rfl ?_
    refine AR.op (r := G.api_Hist.av h_0) rfl (aop_load_pp rfl rfl sz24 rfl) ?_
    obtain ⟨r151, hr151, h⟩ := Sh.bind_some' h
    refine AR.op (r := bl r151) rfl (aop_call1 rfl rfl (by simp) (inquestref08_Few_ok hT hr151)) ?_
    refine AR.op (r := bl r151) rfl (aop_move (.inr rfl) rfl) ?_
    refine AR.nil ?_
    refine hK6 _ (AWP.weak (Weak.kt [1, 2, 3, 8] rfl) ?_)
    clear hK6 K6
    refine awp_seqK fun K7 hK7 => ?_
    refine awp_reg rfl ?_
    refine AR.op (r := .sl (List.map G.fact_Fact.av l_2)) rfl (aop_move (.inl rfl) rfl) ?_
    obtain ⟨r153, hr153, h⟩ := Sh.bind_some' h
    refine AR.op (r := bl r153) rfl (aop_call1 rfl rfl (by simp) (inquestlaw23_few_ok hT hr153)) ?_
    refine AR.op (r := bl r153) rfl (aop_move (.inr rfl) rfl) ?_
    refine AR.nil ?_
    refine hK7 _ (AWP.weak (Weak.kt [1, 2, 3, 8, 9] rfl) ?_)
    clear hK7 K7
    refine awp_seqK fun K8 hK8 => ?_
    refine awp_seqJ (fun (p : Bool) => (⟨[(1, i64 level_1), (2, .sl (List.map G.fact_Fact.av l_2)), (3, .pp [.sl (List.map G.api_Txn.av h_0.Txns)] 0), (33, bl p)], .empty⟩ : St)) (fun (p : Bool) => G.inquestlaw23_StoreAgain_j1 h_0 level_1 l_2 p = some r) ?_ ?_
    · rintro v157 h
      replace h : G.inquestlaw23_StoreAgain_j1 h_0 level_1 l_2 v157 = some r := h
      unfold G.inquestlaw23_StoreAgain_j1 at h
      refine awp_cond rfl (fun hb158 => ?_) (fun hb158 => ?_)
      · replace h := Sh.if_t h hb158
        refine awp_seqK fun K9 hK9 => ?_
        refine awp_reg rfl ?_
        refine AR.op (r := bl true) rfl (aop_move (.inr rfl) rfl) ?_
        refine AR.nil ?_
        refine hK9 _ (AWP.weak (Weak.kt [6] rfl) ?_)
        clear hK9 K9
        refine awp_ret ?_
        obtain rfl := Option.some.inj h
        refine ⟨.inr rfl, bl true, rfl, ?_⟩
        exact Weak.re [] [] rfl rfl rfl (trivial) ⟨⟨_, rfl, .sm⟩, trivial⟩
      · replace h := Sh.if_f h hb158
        refine awp_skip ?_
        refine hK8 _ (AWP.weak (Weak.kt [1, 2, 3] rfl) ?_)
        clear hK8 K8
        refine awp_seqK fun K10 hK10 => ?_
        refine awp_reg rfl ?_
        refine AR.op (r := G.api_Hist.av h_0) rfl (aop_load_pp rfl rfl sz24 rfl) ?_
        refine AR.op (r := i64 level_1) rfl (aop_move (.inl rfl) rfl) ?_
        obtain ⟨r160, hr160, h⟩ := Sh.bind_some' h
        rcases r160 with r160 | r160
        · replace h := Sh.either_l h
          refine AR.op (r := .tuple [.imm (.pointer none), i64 1]) rfl (aop_call3E (ok := NoId) (ys := [G.api_Hist.av h_0, i64 level_1]) (xs := [G.api_Hist.av h_0, i64 level_1]) (r' := .tuple [.imm (.pointer none), i64 1]) (Hs := ⟨0, [], []⟩) (H' := ⟨0, [], []⟩) (g := []) (m := []) (nw := []) (p := 0) (.func rfl rfl (store_New_ok0 hT hr160).call) (store_New_ok0 hT hr160) { next := rfl, part := trivial, inj := rfl, lt := rfl, nwf := rfl, gin := rfl, held := trivial, seen := ⟨⟨G.api_Hist.av h_0, rfl, .sm⟩, ⟨_, rfl, .sm⟩, trivial⟩, inlps := rfl, ple := rfl, map := rfl, next' := rfl, back := trivial, lps := .inl ⟨rfl, rfl⟩, mode := .inr ⟨fun _ h => h, rfl⟩, ren := .sm } rfl) ?_
          refine AR.keep [1, 2, 3, 37] rfl ?_
          refine AR.op (r := .tuple [.imm (.pointer none), i64 1]) rfl (aop_move (.inl rfl) rfl) ?_
          refine AR.op (r := .imm (.pointer none)) rfl (aop_extract rfl rfl rfl) ?_
          refine AR.op (r := i64 1) rfl (aop_extract rfl rfl rfl) ?_
          refine AR.keep [1, 2, 3, 38, 39] rfl ?_
          refine AR.op (r := .imm (.pointer none)) rfl (aop_move (.inr rfl) rfl) ?_
          refine AR.op (r := i64 1) rfl (aop_move (.inr rfl) rfl) ?_
          refine AR.nil ?_
          refine hK10 _ (AWP.weak (Weak.kt [1, 2, 3, 10, 11] rfl) ?_)
          clear hK10 K10
          refine awp_seqK fun K11 hK11 => ?_
          refine awp_reg rfl ?_
          refine AR.op (r := G.api_Hist.av h_0) rfl (aop_load_pp rfl rfl sz24 rfl) ?_
          refine AR.op (r := i64 level_1) rfl (aop_move (.inl rfl) rfl) ?_
          obtain ⟨r162, hr162, h⟩ := Sh.bind_some' h
          rcases r162 with r162 | r162
          · replace h := Sh.either_l h
            refine AR.op (r := .tuple [.imm (.pointer none), i64 1]) rfl (aop_call3E (ok := NoId) (ys := [G.api_Hist.av h_0, i64 level_1]) (xs := [G.api_Hist.av h_0, i64 level_1]) (r' := .tuple [.imm (.pointer none), i64 1]) (Hs := ⟨0, [], []⟩) (H' := ⟨0, [], []⟩) (g := []) (m := []) (nw := []) (p := 0) (.func rfl rfl (store_New_ok0 hT hr162).call) (store_New_ok0 hT hr162) { next := rfl, part := trivial, inj := rfl, lt := rfl, nwf := rfl, gin := rfl, held := trivial, seen := ⟨⟨G.api_Hist.av h_0, rfl, .sm⟩, ⟨_, rfl, .sm⟩, trivial⟩, inlps := rfl, ple := rfl, map := rfl, next' := rfl, back := trivial, lps := .inl ⟨rfl, rfl⟩, mode := .inr ⟨fun _ h => h, rfl⟩, ren := .sm } rfl) ?_
            refine AR.keep [2, 10, 11, 43] rfl ?_
            refine AR.op (r := .tuple [.imm (.pointer none), i64 1]) rfl (aop_move (.inl rfl) rfl) ?_
            refine AR.op (r := .imm (.pointer none)) rfl (aop_extract rfl rfl rfl) ?_
            refine AR.op (r := i64 1) rfl (aop_extract rfl rfl rfl) ?_
            refine AR.keep [2, 10, 11, 44, 45] rfl ?_
            refine AR.op (r := .imm (.pointer none)) rfl (aop_move (.inr rfl) rfl) ?_
            refine AR.op (r := i64 1) rfl (aop_move (.inr rfl) rfl) ?_
            refine AR.nil ?_
            refine hK11 _ (AWP.weak (Weak.kt [2, 10, 11, 12, 13] rfl) ?_)
            clear hK11 K11
            refine awp_seqK fun K12 hK12 => ?_
            refine awp_seqK fun K13 hK13 => ?_
            refine awp_reg rfl ?_
            refine AR.op (r := .imm (.pointer none)) rfl (aop_move (.inl rfl) rfl) ?_
            refine AR.op (r := bl true) rfl (aop_eq_nilp rfl rfl rfl pt29) ?_
            refine AR.op (r := bl true) rfl (aop_move (.inl rfl) rfl) ?_
            refine AR.keep [2, 10, 11, 12, 13, 48] rfl ?_
            refine AR.skip rfl ?_
            refine AR.skip rfl ?_
            refine AR.op (r := bl true) rfl (aop_pick rfl rfl rfl) ?_
            refine AR.nil ?_
            refine hK13 _ (AWP.weak (Weak.kt [2, 10, 11, 12, 13, 51] rfl) ?_)
            clear hK13 K13
            refine awp_cond_t rfl ?_
            refine awp_seqK fun K14 hK14 => ?_
            refine awp_reg rfl ?_
            refine AR.op (r := i64 1) rfl (aop_move (.inl rfl) rfl) ?_
            refine AR.op (r := bl true) rfl ((aop_eql rfl rfl rfl).tt (by decide)) ?_
            refine AR.op (r := bl true) rfl (aop_move (.inl rfl) rfl) ?_
            refine AR.keep [10, 11, 12, 13, 54] rfl ?_
            refine AR.op (r := i64 1) rfl (aop_move (.inl rfl) rfl) ?_
            refine AR.op (r := i64 1) rfl (aop_move (.inl rfl) rfl) ?_
            refine AR.op (r := bl true) rfl ((aop_eql rfl rfl rfl).tt (by decide)) ?_
            refine AR.keep [10, 12, 54, 57] rfl ?_
            refine AR.op (r := bl true) rfl (aop_pick rfl rfl rfl) ?_
            refine AR.op (r := bl true) rfl (aop_move (.inl rfl) rfl) ?_
            refine AR.op (r := .imm (.pointer none)) rfl (aop_move (.inl rfl) rfl) ?_
            refine AR.keep [12, 59, 60] rfl ?_
            refine AR.op (r := bl true) rfl (aop_eq_nilp rfl rfl rfl pt29) ?_
            refine AR.op (r := bl true) rfl (aop_pick rfl rfl rfl) ?_
            refine AR.op (r := bl true) rfl (aop_move (.inl rfl) rfl) ?_
            refine AR.keep [12, 63] rfl ?_
            refine AR.op (r := .imm (.pointer none)) rfl (aop_move (.inl rfl) rfl) ?_
            refine AR.op (r := bl true) rfl (aop_eq_nilp rfl rfl rfl pt29) ?_
            refine AR.op (r := bl true) rfl (aop_pick rfl rfl rfl) ?_
            refine AR.keep [66] rfl ?_
            refine AR.op (r := bl true) rfl (aop_move (.inr rfl) rfl) ?_
            refine AR.nil ?_
            refine hK14 _ (AWP.weak (Weak.kt [6] rfl) ?_)
            clear hK14 K14
            refine awp_ret ?_
            obtain rfl := Option.some.inj h
            refine ⟨.inr rfl, bl true, rfl, ?_⟩
            exact Weak.re [] [] rfl rfl rfl (trivial) ⟨⟨_, rfl, .sm⟩, trivial⟩
          · replace h := Sh.either_r h
            refine AR.op (r := .tuple [.ref 0 0 0, i64 0]) rfl (aop_call3E (ok := NoId) (ys := [G.api_Hist.av h_0, i64 level_1]) (xs := [G.api_Hist.av h_0, i64 level_1]) (r' := .tuple [.ref 0 0 0, i64 0]) (Hs := ⟨0, [], []⟩) (H' := ⟨2, [(0, (4, [.agg [nilS, .mref 1, .sl (List.map G.api_Txn.av r162), i64 level_1]])), (1, (0, [mpC G.api_Choice.ky []]))], []⟩) (g := []) (m := [(0, 0), (1, 1)]) (nw := []) (p := 0) (.func rfl rfl (store_New_ok1 hT hr162).call) (store_New_ok1 hT hr162) { next := rfl, part := trivial, inj := rfl, lt := rfl, nwf := rfl, gin := rfl, held := trivial, seen := ⟨⟨G.api_Hist.av h_0, rfl, .sm⟩, ⟨_, rfl, .sm⟩, trivial⟩, inlps := rfl, ple := rfl, map := rfl, next' := rfl, back := .new 0 rfl rfl (.one ⟨.sm, .mref rfl, .sm, .sm, trivial⟩) (.new 1 rfl rfl (.same (by simp)) (trivial)), lps := .inl ⟨rfl, rfl⟩, mode := .inr ⟨fun _ h => h, rfl⟩, ren := .tp ⟨.ref rfl, .sm, trivial⟩ } rfl) ?_
            refine AR.keep [2, 10, 11, 43] rfl ?_
            refine AR.op (r := .tuple [.ref 0 0 0, i64 0]) rfl (aop_move (.inl rfl) rfl) ?_
            refine AR.op (r := .ref 0 0 0) rfl (aop_extract rfl rfl rfl) ?_
            refine AR.op (r := i64 0) rfl (aop_extract rfl rfl rfl) ?_
            refine AR.keep [2, 10, 11, 44, 45] rfl ?_
            refine AR.op (r := .ref 0 0 0) rfl (aop_move (.inr rfl) rfl) ?_
            refine AR.op (r := i64 0) rfl (aop_move (.inr rfl) rfl) ?_
            refine AR.nil ?_
            refine hK11 _ (AWP.weak (Weak.kt [2, 10, 11, 12, 13] rfl) ?_)
            clear hK11 K11
            refine awp_seqK fun K15 hK15 => ?_
            refine awp_seqK fun K16 hK16 => ?_
            refine awp_reg rfl ?_
            refine AR.op (r := .imm (.pointer none)) rfl (aop_move (.inl rfl) rfl) ?_
            refine AR.op (r := bl true) rfl (aop_eq_nilp rfl rfl rfl pt29) ?_
            refine AR.op (r := bl true) rfl (aop_move (.inl rfl) rfl) ?_
            refine AR.keep [2, 10, 11, 12, 13, 48] rfl ?_
            refine AR.skip rfl ?_
            refine AR.skip rfl ?_
            refine AR.op (r := bl true) rfl (aop_pick rfl rfl rfl) ?_
            refine AR.nil ?_
            refine hK16 _ (AWP.weak (Weak.kt [2, 10, 11, 12, 13, 51] rfl) ?_)
            clear hK16 K16
            refine awp_cond_t rfl ?_
            refine awp_seqK fun K17 hK17 => ?_
            refine awp_reg rfl ?_
            refine AR.op (r := i64 1) rfl (aop_move (.inl rfl) rfl) ?_
            refine AR.op (r := bl true) rfl ((aop_eql rfl rfl rfl).tt (by decide)) ?_
            refine AR.op (r := bl true) rfl (aop_move (.inl rfl) rfl) ?_
            refine AR.keep [10, 11, 12, 13, 54] rfl ?_
            refine AR.op (r := i64 0) rfl (aop_move (.inl rfl) rfl) ?_
            refine AR.op (r := i64 1) rfl (aop_move (.inl rfl) rfl) ?_
            refine AR.op (r := bl false) rfl ((aop_eql rfl rfl rfl).ff (by decide)) ?_
            refine AR.keep [10, 12, 54, 57] rfl ?_
            refine AR.op (r := bl false) rfl (aop_pick rfl rfl rfl) ?_
            refine AR.op (r := bl false) rfl (aop_move (.inl rfl) rfl) ?_
            refine AR.skip rfl ?_
            refine AR.keep [12, 59, 60] rfl ?_
            refine AR.skip rfl ?_
            refine AR.op (r := bl false) rfl (aop_pick rfl rfl rfl) ?_
            refine AR.op (r := bl false) rfl (aop_move (.inl rfl) rfl) ?_
            refine AR.keep [12, 63] rfl ?_
            refine AR.skip rfl ?_
            refine AR.skip rfl ?_
            refine AR.op (r := bl false) rfl (aop_pick rfl rfl rfl) ?_
            refine AR.keep [66] rfl ?_
            refine AR.op (r := bl false) rfl (aop_move (.inr rfl) rfl) ?_
            refine AR.nil ?_
            refine hK17 _ (AWP.weak (Weak.re (fr' := [(6, bl false)]) (H' := .empty) [] [] rfl rfl rfl (trivial) ⟨⟨_, rfl, .sm⟩, trivial⟩) ?_)
            clear hK17 K17
            refine awp_ret ?_
            obtain rfl := Option.some.inj h
            refine ⟨.inr rfl, bl false, rfl, ?_⟩
            exact Weak.re [] [] rfl rfl rfl (trivial) ⟨⟨_, rfl, .sm⟩, trivial⟩
        · replace h := Sh.either_r h
          refine AR.op (r := .tuple [.ref 0 0 0, i64 0]) rfl (aop_call3E (ok := NoId) (ys := [G.api_Hist.av h_0, i64 level_1]) (xs := [G.api_Hist.av h_0, i64 level_1]) (r' := .tuple [.ref 0 0 0, i64 0]) (Hs := ⟨0, [], []⟩) (H' := ⟨2, [(0, (4, [.agg [nilS, .mref 1, .sl (List.map G.api_Txn.av r160), i64 level_1]])), (1, (0, [mpC G.api_Choice.ky []]))], []⟩) (g := []) (m := [(0, 0), (1, 1)]) (nw := []) (p := 0) (.func rfl rfl (store_New_ok1 hT hr160).call) (store_New_ok1 hT hr160) { next := rfl, part := trivial, inj := rfl, lt := rfl, nwf := rfl, gin := rfl, held := trivial, seen := ⟨⟨G.api_Hist.av h_0, rfl, .sm⟩, ⟨_, rfl, .sm⟩, trivial⟩, inlps := rfl, ple := rfl, map := rfl, next' := rfl, back := .new 0 rfl rfl (.one ⟨.sm, .mref rfl, .sm, .sm, trivial⟩) (.new 1 rfl rfl (.same (by simp)) (trivial)), lps := .inl ⟨rfl, rfl⟩, mode := .inr ⟨fun _ h => h, rfl⟩, ren := .tp ⟨.ref rfl, .sm, trivial⟩ } rfl) ?_
          refine AR.keep [1, 2, 3, 37] rfl ?_
          refine AR.op (r := .tuple [.ref 0 0 0, i64 0]) rfl (aop_move (.inl rfl) rfl) ?_
          refine AR.op (r := .ref 0 0 0) rfl (aop_extract rfl rfl rfl) ?_
          refine AR.op (r := i64 0) rfl (aop_extract rfl rfl rfl) ?_
          refine AR.keep [1, 2, 3, 38, 39] rfl ?_
          refine AR.op (r := .ref 0 0 0) rfl (aop_move (.inr rfl) rfl) ?_
          refine AR.op (r := i64 0) rfl (aop_move (.inr rfl) rfl) ?_
          refine AR.nil ?_
          refine hK10 _ (AWP.weak (Weak.kt [1, 2, 3, 10, 11] rfl) ?_)
          clear hK10 K10
          refine awp_seqK fun K18 hK18 => ?_
          refine awp_reg rfl ?_
          refine AR.op (r := G.api_Hist.av h_0) rfl (aop_load_pp rfl rfl sz24 rfl) ?_
          refine AR.op (r := i64 level_1) rfl (aop_move (.inl rfl) rfl) ?_
          obtain ⟨r164, hr164, h⟩ := Sh.bind_some' h
          rcases r164 with r164 | r164
          · replace h := Sh.either_l h
            refine AR.op (r := .tuple [.imm (.pointer none), i64 1]) rfl (aop_call3E (ok := NoId) (ys := [G.api_Hist.av h_0, i64 level_1]) (xs := [G.api_Hist.av h_0, i64 level_1]) (r' := .tuple [.imm (.pointer none), i64 1]) (Hs := ⟨2, [], []⟩) (H' := ⟨2, [(0, (4, [.agg [nilS, .mref 1, .sl (List.map G.api_Txn.av r160), i64 level_1]])), (1, (0, [mpC G.api_Choice.ky []]))], []⟩) (g := []) (m := []) (nw := []) (p := 0) (.func rfl rfl (store_New_ok0 hT hr164).call) (store_New_ok0 hT hr164) { next := rfl, part := trivial, inj := rfl, lt := rfl, nwf := rfl, gin := rfl, held := trivial, seen := ⟨⟨G.api_Hist.av h_0, rfl, .sm⟩, ⟨_, rfl, .sm⟩, trivial⟩, inlps := rfl, ple := rfl, map := rfl, next' := rfl, back := .kept rfl rfl (.kept rfl rfl (trivial)), lps := .inl ⟨rfl, rfl⟩, mode := .inr ⟨fun _ h => h, rfl⟩, ren := .sm } rfl) ?_
            refine AR.keep [2, 10, 11, 43] rfl ?_
            refine AR.op (r := .tuple [.imm (.pointer none), i64 1]) rfl (aop_move (.inl rfl) rfl) ?_
            refine AR.op (r := .imm (.pointer none)) rfl (aop_extract rfl rfl rfl) ?_
            refine AR.op (r := i64 1) rfl (aop_extract rfl rfl rfl) ?_
            refine AR.keep [2, 10, 11, 44, 45] rfl ?_
            refine AR.op (r := .imm (.pointer none)) rfl (aop_move (.inr rfl) rfl) ?_
            refine AR.op (r := i64 1) rfl (aop_move (.inr rfl) rfl) ?_
            refine AR.nil ?_
            refine hK18 _ (AWP.weak (Weak.kt [2, 10, 11, 12, 13] rfl) ?_)
            clear hK18 K18
            refine awp_seqK fun K19 hK19 => ?_
            refine awp_seqK fun K20 hK20 => ?_
            refine awp_reg rfl ?_
            refine AR.op (r := .ref 0 0 0) rfl (aop_move (.inl rfl) rfl) ?_
            refine AR.op (r := bl false) rfl (aop_eq_ref rfl rfl rfl rfl pt29) ?_
            refine AR.op (r := bl false) rfl (aop_move (.inl rfl) rfl) ?_
            refine AR.keep [2, 10, 11, 12, 13, 48] rfl ?_
            refine AR.op (r := .imm (.pointer none)) rfl (aop_move (.inl rfl) rfl) ?_
            refine AR.op (r := bl true) rfl (aop_eq_nilp rfl rfl rfl pt29) ?_
            refine AR.op (r := bl true) rfl (aop_pick rfl rfl rfl) ?_
            refine AR.nil ?_
            refine hK20 _ (AWP.weak (Weak.kt [2, 10, 11, 12, 13, 51] rfl) ?_)
            clear hK20 K20
            refine awp_cond_t rfl ?_
            refine awp_seqK fun K21 hK21 => ?_
            refine awp_reg rfl ?_
            refine AR.op (r := i64 0) rfl (aop_move (.inl rfl) rfl) ?_
            refine AR.op (r := bl false) rfl ((aop_eql rfl rfl rfl).ff (by decide)) ?_
            refine AR.op (r := bl false) rfl (aop_move (.inl rfl) rfl) ?_
            refine AR.keep [10, 11, 12, 13, 54] rfl ?_
            refine AR.skip rfl ?_
            refine AR.skip rfl ?_
            refine AR.skip rfl ?_
            refine AR.keep [10, 12, 54, 57] rfl ?_
            refine AR.op (r := bl false) rfl (aop_pick rfl rfl rfl) ?_
            refine AR.op (r := bl false) rfl (aop_move (.inl rfl) rfl) ?_
            refine AR.skip rfl ?_
            refine AR.keep [12, 59, 60] rfl ?_
            refine AR.skip rfl ?_
            refine AR.op (r := bl false) rfl (aop_pick rfl rfl rfl) ?_
            refine AR.op (r := bl false) rfl (aop_move (.inl rfl) rfl) ?_
            refine AR.keep [12, 63] rfl ?_
            refine AR.skip rfl ?_
            refine AR.skip rfl ?_
            refine AR.op (r := bl false) rfl (aop_pick rfl rfl rfl) ?_
            refine AR.keep [66] rfl ?_
            refine AR.op (r := bl false) rfl (aop_move (.inr rfl) rfl) ?_
            refine AR.nil ?_
            refine hK21 _ (AWP.weak (Weak.re (fr' := [(6, bl false)]) (H' := .empty) [] [] rfl rfl rfl (trivial) ⟨⟨_, rfl, .sm⟩, trivial⟩) ?_)
            clear hK21 K21
            refine awp_ret ?_
            obtain rfl := Option.some.inj h
            refine ⟨.inr rfl, bl false, rfl, ?_⟩
            exact Weak.re [] [] rfl rfl rfl (trivial) ⟨⟨_, rfl, .sm⟩, trivial⟩
          · replace h := Sh.either_r h
            refine AR.op (r := .tuple [.ref 2 0 0, i64 0]) rfl (aop_call3E (ok := NoId) (ys := [G.api_Hist.av h_0, i64 level_1]) (xs := [G.api_Hist.av h_0, i64 level_1]) (r' := .tuple [.ref 2 0 0, i64 0]) (Hs := ⟨2, [], []⟩) (H' := ⟨4, [(0, (4, [.agg [nilS, .mref 1, .sl (List.map G.api_Txn.av r160), i64 level_1]])), (1, (0, [mpC G.api_Choice.ky []])), (2, (4, [.agg [nilS, .mref 3, .sl (List.map G.api_Txn.av r164), i64 level_1]])), (3, (0, [mpC G.api_Choice.ky []]))], []⟩) (g := []) (m := [(0, 2), (1, 3)]) (nw := []) (p := 0) (.func rfl rfl (store_New_ok1 hT hr164).call) (store_New_ok1 hT hr164) { next := rfl, part := trivial, inj := rfl, lt := rfl, nwf := rfl, gin := rfl, held := trivial, seen := ⟨⟨G.api_Hist.av h_0, rfl, .sm⟩, ⟨_, rfl, .sm⟩, trivial⟩, inlps := rfl, ple := rfl, map := rfl, next' := rfl, back := .kept rfl rfl (.kept rfl rfl (.new 0 rfl rfl (.one ⟨.sm, .mref rfl, .sm, .sm, trivial⟩) (.new 1 rfl rfl (.same (by simp)) (trivial)))), lps := .inl ⟨rfl, rfl⟩, mode := .inr ⟨fun _ h => h, rfl⟩, ren := .tp ⟨.ref rfl, .sm, trivial⟩ } rfl) ?_
            refine AR.keep [2, 10, 11, 43] rfl ?_
            refine AR.op (r := .tuple [.ref 2 0 0, i64 0]) rfl (aop_move (.inl rfl) rfl) ?_
            refine AR.op (r := .ref 2 0 0) rfl (aop_extract rfl rfl rfl) ?_
            refine AR.op (r := i64 0) rfl (aop_extract rfl rfl rfl) ?_
            refine AR.keep [2, 10, 11, 44, 45] rfl ?_
            refine AR.op (r := .ref 2 0 0) rfl (aop_move (.inr rfl) rfl) ?_
            refine AR.op (r := i64 0) rfl (aop_move (.inr rfl) rfl) ?_
            refine AR.nil ?_
            refine hK18 _ (AWP.weak (Weak.kt [2, 10, 11, 12, 13] rfl) ?_)
            clear hK18 K18
            refine awp_seqK fun K22 hK22 => ?_
            refine awp_seqK fun K23 hK23 => ?_
            refine awp_reg rfl ?_
            refine AR.op (r := .ref 0 0 0) rfl (aop_move (.inl rfl) rfl) ?_
            refine AR.op (r := bl false) rfl (aop_eq_ref rfl rfl rfl rfl pt29) ?_
            refine AR.op (r := bl false) rfl (aop_move (.inl rfl) rfl) ?_
            refine AR.keep [2, 10, 11, 12, 13, 48] rfl ?_
            refine AR.op (r := .ref 2 0 0) rfl (aop_move (.inl rfl) rfl) ?_
            refine AR.op (r := bl false) rfl (aop_eq_ref rfl rfl rfl rfl pt29) ?_
            refine AR.op (r := bl false) rfl (aop_pick rfl rfl rfl) ?_
            refine AR.nil ?_
            refine hK23 _ (AWP.weak (Weak.kt [2, 10, 11, 12, 13, 51] rfl) ?_)
            clear hK23 K23
            refine awp_cond_f rfl ?_
            refine awp_skip ?_
            refine hK22 _ (AWP.weak (Weak.kt [2, 10, 12] rfl) ?_)
            clear hK22 K22
            refine awp_seqJ (fun (p : (List G.fact_Fact) × (List (G.api_Choice × Bool))) => (⟨[(10, .ref 0 0 0), (12, .ref 3 0 0)], ⟨5, [(0, (4, [.agg [.view 1 0 (List.map G.fact_Fact.av p.1).length, .mref 2, .sl (List.map G.api_Txn.av r160), i64 level_1]])), (1, (7, List.map G.fact_Fact.av p.1)), (2, (0, [mpC G.api_Choice.ky p.2])), (3, (4, [.agg [nilS, .mref 4, .sl (List.map G.api_Txn.av r164), i64 level_1]])), (4, (0, [mpC G.api_Choice.ky []]))], []⟩⟩ : St)) (fun (p : (List G.fact_Fact) × (List (G.api_Choice × Bool))) => G.inquestlaw23_StoreAgain_j2 level_1 r160 r164 p.1 p.2 = some r) ?_ ?_
            · rintro ⟨v180, v181⟩ h
              replace h : G.inquestlaw23_StoreAgain_j2 level_1 r160 r164 v180 v181 = some r := h
              unfold G.inquestlaw23_StoreAgain_j2 at h
              refine awp_seqK fun K24 hK24 => ?_
              refine awp_reg rfl ?_
              refine AR.op (r := .ref 0 0 0) rfl (aop_move (.inl rfl) rfl) ?_
              obtain ⟨r183, hr183, h⟩ := Sh.bind_some' h
              refine AR.op (r := .view 8 0 r183.length) rfl (t_facts_own hT hr183 rfl rfl) ?_
              refine AR.op (r := .view 8 0 r183.length) rfl (aop_move (.inr rfl) rfl) ?_
              refine AR.nil ?_
              refine hK24 _ (AWP.weak (Weak.kt [10, 12, 15] rfl) ?_)
              clear hK24 K24
              refine awp_seqK fun K25 hK25 => ?_
              refine awp_focusW (p := 0) [(0, oSt 6 7 v180 r160 level_1), (3, (4, [.agg [nilS, .mref 4, .sl (List.map G.api_Txn.av r164), i64 level_1]])), (4, oMp []), (6, oFs v180), (7, oMp v181)] 8 9 r183 r183.length none (.of ⟨und_st (by decide) (by decide) _ _, und_st0 (by decide) _ _, und_mp _, und_av _, und_mp _, trivial⟩) (Nat.le_refl _) (fun i hi => by cases hi) ⟨.ref _ _ _ (by decide), .ref _ _ _ (by decide), .view _ _ _ (by decide), trivial⟩ (fun vs => ?_)
              obtain ⟨cs, hcs⟩ : ∃ cs, cs = cellsF (innC vs 7 r183.length none) 0 r183 := ⟨_, rfl⟩
              have hno : ∀ e ∈ cs, NoId e := by rw [hcs]; exact noid_inn
              have hIH : IH [(0, oSt 6 7 v180 r160 level_1), (3, (4, [.agg [nilS, .mref 4, .sl (List.map G.api_Txn.av r164), i64 level_1]])), (4, oMp []), (6, oFs v180), (7, oMp v181)] 8 9 vs r183 r183.length none = ⟨9, [(0, oSt 6 7 v180 r160 level_1), (3, (4, [.agg [nilS, .mref 4, .sl (List.map G.api_Txn.av r164), i64 level_1]])), (4, oMp []), (6, oFs v180), (7, oMp v181), (8, (7, cs))], []⟩ := by
                rw [hcs, innN 7 9]; rfl
              rw [hIH]
              refine AWP.weak (Weak.re (fr' := [(10, .ref 0 0 0), (12, .ref 3 0 0), (15, .view 5 0 r183.length)]) (H' := ⟨6, [(0, oSt 1 2 v180 r160 level_1), (1, oFs v180), (2, oMp v181), (3, (4, [.agg [nilS, .mref 4, .sl (List.map G.api_Txn.av r164), i64 level_1]])), (4, oMp []), (5, (7, cs))], []⟩) [(0, 0), (1, 6), (2, 7), (3, 3), (4, 4), (5, 8)] [] rfl rfl rfl (.cons rfl rfl (.one (.ag ⟨.view rfl, .mref rfl, .sm, .sm, trivial⟩) rfl) (of_decide_eq_true rfl) (.cons rfl rfl (.same (by simp)) (of_decide_eq_true rfl) (.cons rfl rfl (.same (by simp)) (of_decide_eq_true rfl) (.cons rfl rfl (.one (.ag ⟨.sm, .mref rfl, .sm, .sm, trivial⟩) rfl) (of_decide_eq_true rfl) (.cons rfl rfl (.same (by simp)) (of_decide_eq_true rfl) (.cons rfl rfl (.same hno) (of_decide_eq_true rfl) (trivial))))))) ⟨⟨_, rfl, .ref rfl⟩, ⟨_, rfl, .ref rfl⟩, ⟨_, rfl, .view rfl⟩, trivial⟩) ?_
              refine awp_reg rfl ?_
              refine AR.op (r := .ref 0 0 0) rfl (aop_move (.inl rfl) rfl) ?_
              obtain ⟨r186, hr186, h⟩ := Sh.bind_some' h
              refine AR.op (r := .sl (List.map G.fact_Fact.av r186)) rfl (AOp.re (r := .view 7 0 (List.map G.fact_Fact.av r186).length) (H2 := ⟨10, [(0, (4, [.agg [.view 8 0 (List.map G.fact_Fact.av v180).length, .mref 9, .sl (List.map G.api_Txn.av r160), i64 level_1]])), (3, (4, [.agg [nilS, .mref 4, .sl (List.map G.api_Txn.av r164), i64 level_1]])), (4, (0, [mpC G.api_Choice.ky []])), (5, (7, cs)), (8, (7, List.map G.fact_Fact.av v180)), (9, (0, [mpC G.api_Choice.ky v181]))], []⟩) (aop_call3E (ok := NoId) (ys := [.ref 0 0 0]) (xs := [.ref 0 0 0]) (r' := .view 7 0 (List.map G.fact_Fact.av r186).length) (Hs := ⟨6, [(0, (4, [.agg [.view 1 0 (List.map G.fact_Fact.av v180).length, .mref 2, .sl (List.map G.api_Txn.av r160), i64 level_1]])), (1, (7, List.map G.fact_Fact.av v180)), (2, (0, [mpC G.api_Choice.ky v181]))], []⟩) (H' := ⟨10, [(0, (4, [.agg [.view 8 0 (List.map G.fact_Fact.av v180).length, .mref 9, .sl (List.map G.api_Txn.av r160), i64 level_1]])), (3, (4, [.agg [nilS, .mref 4, .sl (List.map G.api_Txn.av r164), i64 level_1]])), (4, (0, [mpC G.api_Choice.ky []])), (5, (7, cs)), (7, (7, List.map G.fact_Fact.av r186)), (8, (7, List.map G.fact_Fact.av v180)), (9, (0, [mpC G.api_Choice.ky v181]))], []⟩) (g := [(0, 0), (1, 1), (2, 2)]) (m := [(0, 0), (1, 7), (2, 8), (3, 9)]) (nw := []) (p := 1) (.func rfl rfl (store_Store_Facts__1_ok hT hr186).call) (store_Store_Facts__1_ok hT hr186) { next := rfl, part := ⟨rfl, rfl, rfl, trivial⟩, inj := rfl, lt := rfl, nwf := rfl, gin := rfl, held := .cons rfl rfl (.one (.ag ⟨.view rfl, .mref rfl, .sm, .sm, trivial⟩) rfl) (of_decide_eq_true rfl) (.cons rfl rfl (.same (by simp)) (of_decide_eq_true rfl) (.cons rfl rfl (.same (by simp)) (of_decide_eq_true rfl) (trivial))), seen := ⟨⟨_, rfl, .ref rfl⟩, trivial⟩, inlps := rfl, ple := rfl, map := rfl, next' := rfl, back := .new 0 rfl rfl (.one ⟨.view rfl, .mref rfl, .sm, .sm, trivial⟩) (.kept rfl rfl (.kept rfl rfl (.kept rfl rfl (.new 1 rfl rfl (.same (by simp [AV.flat, G.fact_Fact.av])) (.new 2 rfl rfl (.same (by simp [AV.flat, G.fact_Fact.av])) (.new 3 rfl rfl (.same (by simp)) (trivial))))))), lps := .inl ⟨rfl, rfl⟩, mode := .inr ⟨fun _ h => h, rfl⟩, ren := .view rfl } rfl) [(0, 0), (3, 3), (4, 4), (5, 5), (8, 8), (9, 9)] (.lendAll rfl rfl (by simp)) (.cons rfl rfl (.one (.ag ⟨.view rfl, .mref rfl, .sm, .sm, trivial⟩) rfl) (of_decide_eq_true rfl) (.cons rfl rfl (.one (.ag ⟨.sm, .mref rfl, .sm, .sm, trivial⟩) rfl) (of_decide_eq_true rfl) (.cons rfl rfl (.same (by simp)) (of_decide_eq_true rfl) (.cons rfl rfl (.same hno) (of_decide_eq_true rfl) (.cons rfl rfl (.same (by simp)) (of_decide_eq_true rfl) (.cons rfl rfl (.same (by simp)) (of_decide_eq_true rfl) (trivial)))))))) ?_
              obtain ⟨r187, hr187, h⟩ := Sh.bind_some' h
              refine AR.op (r := .sl (List.map G.inquestref22_F.av r187)) rfl (aop_call1 rfl rfl (by simp) (inquestlaw23_Plain_ok hT hr187)) ?_
              refine AR.keep [10, 12, 15, 83] rfl ?_
              refine AR.op (r := .sl (List.map G.inquestref22_F.av r187)) rfl (aop_move (.inr rfl) rfl) ?_
              refine AR.nil ?_
              refine ⟨[(10, .ref 0 0 0), (12, .ref 3 0 0), (15, .view 6 0 r183.length), (16, .sl (List.map G.inquestref22_F.av r187))], (aF v180 v181 r160 level_1 [] [] r164), 6, 7, r183.length, r183, none, ?_, aF_frt _ _ _ _ _ _ _, ⟨.ref _ _ _ (by decide), .ref _ _ _ (by decide), .view _ _ _ (by decide), .noid (by simp), trivial⟩, .inl ⟨rfl, rfl⟩, Nat.le_refl _, fun j x _ _ hx => ⟨x, hx, rfl⟩, ?_⟩
              · rw [show IH (aF v180 v181 r160 level_1 [] [] r164) 6 7 vs r183 r183.length none = ⟨7, (aF v180 v181 r160 level_1 [] [] r164) ++ [(6, (7, cs))], []⟩ by rw [hcs]; rfl]
                exact Weak.re [(0, 0), (1, 8), (2, 9), (3, 3), (5, 4), (6, 5)] [4] rfl rfl rfl (.cons rfl rfl (.one (.ag ⟨.view rfl, .mref rfl, .sm, .sm, trivial⟩) rfl) (of_decide_eq_true rfl) (.cons rfl rfl (.same (by simp)) (of_decide_eq_true rfl) (.cons rfl rfl (.same (by simp)) (of_decide_eq_true rfl) (.cons rfl rfl (.one (.ag ⟨.nil (by simp), .mref rfl, .sm, .sm, trivial⟩) rfl) (of_decide_eq_true rfl) (.fresh (by simp) (of_decide_eq_true rfl) (.cons rfl rfl (.same (by simp)) (of_decide_eq_true rfl) (.cons rfl rfl (.same hno) (of_decide_eq_true rfl) (trivial)))))))) ⟨⟨_, rfl, .ref rfl⟩, ⟨_, rfl, .ref rfl⟩, ⟨_, rfl, .view rfl⟩, ⟨.sl (List.map G.inquestref22_F.av r187), rfl, .sm⟩, trivial⟩
              refine hK25 _ ?_
              clear hK25 K25 hIH hno hcs cs vs
              refine awp_seqJ (fun (p : (List G.fact_Fact) × (List (G.api_Choice × Bool))) => (⟨[(10, .ref 0 0 0), (12, .ref 3 0 0), (15, .view 6 0 r183.length), (16, .sl (List.map G.inquestref22_F.av r187))], OH (aF v180 v181 r160 level_1 p.1 p.2 r164) 6 7 r183 r183.length⟩ : St)) (fun (p : (List G.fact_Fact) × (List (G.api_Choice × Bool))) => G.inquestlaw23_StoreAgain_j3 level_1 r160 r164 v180 v181 r183 r187 p.1 p.2 = some r) ?_ ?_
              · rintro ⟨v230, v231⟩ h
                replace h : G.inquestlaw23_StoreAgain_j3 level_1 r160 r164 v180 v181 r183 r187 v230 v231 = some r := h
                unfold G.inquestlaw23_StoreAgain_j3 at h
                refine awp_seqJ (fun (p : Unit) => (⟨[(10, .ref 0 0 0), (12, .ref 3 0 0), (16, .sl (List.map G.inquestref22_F.av r187))], ⟨6, [(0, (4, [.agg [.view 1 0 (List.map G.fact_Fact.av v180).length, .mref 2, .sl (List.map G.api_Txn.av r160), i64 level_1]])), (1, (7, List.map G.fact_Fact.av v180)), (2, (0, [mpC G.api_Choice.ky v181])), (3, (4, [.agg [.view 4 0 (List.map G.fact_Fact.av v230).length, .mref 5, .sl (List.map G.api_Txn.av r164), i64 level_1]])), (4, (7, List.map G.fact_Fact.av v230)), (5, (0, [mpC G.api_Choice.ky v231]))], []⟩⟩ : St)) (fun (p : Unit) => G.inquestlaw23_StoreAgain_j4 level_1 r160 r164 v180 v181 r187 v230 v231 = some r) ?_ ?_
                · rintro ⟨⟩ h
                  replace h : G.inquestlaw23_StoreAgain_j4 level_1 r160 r164 v180 v181 r187 v230 v231 = some r := h
                  unfold G.inquestlaw23_StoreAgain_j4 at h
                  refine awp_seqK fun K26 hK26 => ?_
                  refine awp_reg rfl ?_
                  refine AR.op (r := .ref 3 0 0) rfl (aop_move (.inl rfl) rfl) ?_
                  obtain ⟨r309, hr309, h⟩ := Sh.bind_some' h
                  refine AR.op (r := .sl (List.map G.fact_Fact.av r309)) rfl (AOp.re (r := .view 7 0 (List.map G.fact_Fact.av r309).length) (H2 := ⟨10, [(0, (4, [.agg [.view 1 0 (List.map G.fact_Fact.av v180).length, .mref 2, .sl (List.map G.api_Txn.av r160), i64 level_1]])), (1, (7, List.map G.fact_Fact.av v180)), (2, (0, [mpC G.api_Choice.ky v181])), (3, (4, [.agg [.view 8 0 (List.map G.fact_Fact.av v230).length, .mref 9, .sl (List.map G.api_Txn.av r164), i64 level_1]])), (8, (7, List.map G.fact_Fact.av v230)), (9, (0, [mpC G.api_Choice.ky v231]))], []⟩) (aop_call3E (ok := NoId) (ys := [.ref 3 0 0]) (xs := [.ref 0 0 0]) (r' := .view 7 0 (List.map G.fact_Fact.av r309).length) (Hs := ⟨6, [(3, (4, [.agg [.view 4 0 (List.map G.fact_Fact.av v230).length, .mref 5, .sl (List.map G.api_Txn.av r164), i64 level_1]])), (4, (7, List.map G.fact_Fact.av v230)), (5, (0, [mpC G.api_Choice.ky v231]))], []⟩) (H' := ⟨10, [(0, (4, [.agg [.view 1 0 (List.map G.fact_Fact.av v180).length, .mref 2, .sl (List.map G.api_Txn.av r160), i64 level_1]])), (1, (7, List.map G.fact_Fact.av v180)), (2, (0, [mpC G.api_Choice.ky v181])), (3, (4, [.agg [.view 8 0 (List.map G.fact_Fact.av v230).length, .mref 9, .sl (List.map G.api_Txn.av r164), i64 level_1]])), (7, (7, List.map G.fact_Fact.av r309)), (8, (7, List.map G.fact_Fact.av v230)), (9, (0, [mpC G.api_Choice.ky v231]))], []⟩) (g := [(0, 3), (1, 4), (2, 5)]) (m := [(0, 3), (1, 7), (2, 8), (3, 9)]) (nw := []) (p := 1) (.func rfl rfl (store_Store_Facts__1_ok hT hr309).call) (store_Store_Facts__1_ok hT hr309) { next := rfl, part := ⟨rfl, rfl, rfl, trivial⟩, inj := rfl, lt := rfl, nwf := rfl, gin := rfl, held := .cons rfl rfl (.one (.ag ⟨.view rfl, .mref rfl, .sm, .sm, trivial⟩) rfl) (of_decide_eq_true rfl) (.cons rfl rfl (.same (by simp)) (of_decide_eq_true rfl) (.cons rfl rfl (.same (by simp)) (of_decide_eq_true rfl) (trivial))), seen := ⟨⟨_, rfl, .ref rfl⟩, trivial⟩, inlps := rfl, ple := rfl, map := rfl, next' := rfl, back := .kept rfl rfl (.kept rfl rfl (.kept rfl rfl (.new 0 rfl rfl (.one ⟨.view rfl, .mref rfl, .sm, .sm, trivial⟩) (.new 1 rfl rfl (.same (by simp [AV.flat, G.fact_Fact.av])) (.new 2 rfl rfl (.same (by simp [AV.flat, G.fact_Fact.av])) (.new 3 rfl rfl (.same (by simp)) (trivial))))))), lps := .inl ⟨rfl, rfl⟩, mode := .inr ⟨fun _ h => h, rfl⟩, ren := .view rfl } rfl) [(0, 0), (1, 1), (2, 2), (3, 3), (8, 8), (9, 9)] (.lendAll rfl rfl (by simp)) (.cons rfl rfl (.one (.ag ⟨.view rfl, .mref rfl, .sm, .sm, trivial⟩) rfl) (of_decide_eq_true rfl) (.cons rfl rfl (.same (by simp)) (of_decide_eq_true rfl) (.cons rfl rfl (.same (by simp)) (of_decide_eq_true rfl) (.cons rfl rfl (.one (.ag ⟨.view rfl, .mref rfl, .sm, .sm, trivial⟩) rfl) (of_decide_eq_true rfl) (.cons rfl rfl (.same (by simp)) (of_decide_eq_true rfl) (.cons rfl rfl (.same (by simp)) (of_decide_eq_true rfl) (trivial)))))))) ?_
                  obtain ⟨r310, hr310, h⟩ := Sh.bind_some' h
                  refine AR.op (r := .sl (List.map G.inquestref22_F.av r310)) rfl (aop_call1 rfl rfl (by simp) (inquestlaw23_Plain_ok hT hr310)) ?_
                  refine AR.keep [10, 16, 148] rfl ?_
                  refine AR.op (r := .sl (List.map G.inquestref22_F.av r187)) rfl (aop_move (.inl rfl) rfl) ?_
                  obtain ⟨r311, hr311, h⟩ := Sh.bind_some' h
                  refine AR.op (r := bl r311) rfl (aop_call1 rfl rfl (by simp) (inquestref23_Same_ok hT hr311)) ?_
                  refine AR.op (r := bl r311) rfl (aop_move (.inl rfl) rfl) ?_
                  refine AR.keep [10, 16, 151] rfl ?_
                  rcases Bool.eq_false_or_eq_true (r311) with hb312 | hb312
                  · rw [hb312]
                    replace h := Sh.if_t h hb312
                    refine AR.op (r := .ref 0 0 0) rfl (aop_move (.inl rfl) rfl) ?_
                    obtain ⟨r313, hr313, h⟩ := Sh.bind_some' h
                    refine AR.op (r := .sl (List.map G.fact_Fact.av r313)) rfl (AOp.re (r := .view 11 0 (List.map G.fact_Fact.av r313).length) (H2 := ⟨14, [(0, (4, [.agg [.view 12 0 (List.map G.fact_Fact.av v180).length, .mref 13, .sl (List.map G.api_Txn.av r160), i64 level_1]])), (3, (4, [.agg [.view 8 0 (List.map G.fact_Fact.av v230).length, .mref 9, .sl (List.map G.api_Txn.av r164), i64 level_1]])), (8, (7, List.map G.fact_Fact.av v230)), (9, (0, [mpC G.api_Choice.ky v231])), (12, (7, List.map G.fact_Fact.av v180)), (13, (0, [mpC G.api_Choice.ky v181]))], []⟩) (aop_call3E (ok := NoId) (ys := [.ref 0 0 0]) (xs := [.ref 0 0 0]) (r' := .view 11 0 (List.map G.fact_Fact.av r313).length) (Hs := ⟨10, [(0, (4, [.agg [.view 1 0 (List.map G.fact_Fact.av v180).length, .mref 2, .sl (List.map G.api_Txn.av r160), i64 level_1]])), (1, (7, List.map G.fact_Fact.av v180)), (2, (0, [mpC G.api_Choice.ky v181]))], []⟩) (H' := ⟨14, [(0, (4, [.agg [.view 12 0 (List.map G.fact_Fact.av v180).length, .mref 13, .sl (List.map G.api_Txn.av r160), i64 level_1]])), (3, (4, [.agg [.view 8 0 (List.map G.fact_Fact.av v230).length, .mref 9, .sl (List.map G.api_Txn.av r164), i64 level_1]])), (8, (7, List.map G.fact_Fact.av v230)), (9, (0, [mpC G.api_Choice.ky v231])), (11, (7, List.map G.fact_Fact.av r313)), (12, (7, List.map G.fact_Fact.av v180)), (13, (0, [mpC G.api_Choice.ky v181]))], []⟩) (g := [(0, 0), (1, 1), (2, 2)]) (m := [(0, 0), (1, 11), (2, 12), (3, 13)]) (nw := []) (p := 1) (.func rfl rfl (store_Store_Facts__1_ok hT hr313).call) (store_Store_Facts__1_ok hT hr313) { next := rfl, part := ⟨rfl, rfl, rfl, trivial⟩, inj := rfl, lt := rfl, nwf := rfl, gin := rfl, held := .cons rfl rfl (.one (.ag ⟨.view rfl, .mref rfl, .sm, .sm, trivial⟩) rfl) (of_decide_eq_true rfl) (.cons rfl rfl (.same (by simp)) (of_decide_eq_true rfl) (.cons rfl rfl (.same (by simp)) (of_decide_eq_true rfl) (trivial))), seen := ⟨⟨_, rfl, .ref rfl⟩, trivial⟩, inlps := rfl, ple := rfl, map := rfl, next' := rfl, back := .new 0 rfl rfl (.one ⟨.view rfl, .mref rfl, .sm, .sm, trivial⟩) (.kept rfl rfl (.kept rfl rfl (.kept rfl rfl (.new 1 rfl rfl (.same (by simp [AV.flat, G.fact_Fact.av])) (.new 2 rfl rfl (.same (by simp [AV.flat, G.fact_Fact.av])) (.new 3 rfl rfl (.same (by simp)) (trivial))))))), lps := .inl ⟨rfl, rfl⟩, mode := .inr ⟨fun _ h => h, rfl⟩, ren := .view rfl } rfl) [(0, 0), (3, 3), (8, 8), (9, 9), (12, 12), (13, 13)] (.lendAll rfl rfl (by simp)) (.cons rfl rfl (.one (.ag ⟨.view rfl, .mref rfl, .sm, .sm, trivial⟩) rfl) (of_decide_eq_true rfl) (.cons rfl rfl (.one (.ag ⟨.view rfl, .mref rfl, .sm, .sm, trivial⟩) rfl) (of_decide_eq_true rfl) (.cons rfl rfl (.same (by simp)) (of_decide_eq_true rfl) (.cons rfl rfl (.same (by simp)) (of_decide_eq_true rfl) (.cons rfl rfl (.same (by simp)) (of_decide_eq_true rfl) (.cons rfl rfl (.same (by simp)) (of_decide_eq_true rfl) (trivial)))))))) ?_
                    obtain ⟨r314, hr314, h⟩ := Sh.bind_some' h
                    refine AR.op (r := .sl (List.map G.inquestref22_F.av r314)) rfl (aop_call1 rfl rfl (by simp) (inquestlaw23_Plain_ok hT hr314)) ?_
                    refine AR.keep [16, 151, 154] rfl ?_
                    refine AR.op (r := .sl (List.map G.inquestref22_F.av r187)) rfl (aop_move (.inl rfl) rfl) ?_
                    obtain ⟨r315, hr315, h⟩ := Sh.bind_some' h
                    refine AR.op (r := bl r315) rfl (aop_call1 rfl rfl (by simp) (inquestref23_Same_ok hT hr315)) ?_
                    refine AR.op (r := bl r315) rfl (aop_pick rfl rfl rfl) ?_
                    refine AR.keep [157] rfl ?_
                    refine AR.op (r := bl r315) rfl (aop_move (.inr rfl) rfl) ?_
                    refine AR.nil ?_
                    refine hK26 _ (AWP.weak (Weak.re (fr' := [(6, bl r315)]) (H' := .empty) [] [] rfl rfl rfl (trivial) ⟨⟨_, rfl, .sm⟩, trivial⟩) ?_)
                    clear hK26 K26
                    refine awp_ret ?_
                    obtain rfl := Option.some.inj h
                    refine ⟨.inr rfl, bl r315, rfl, ?_⟩
                    exact Weak.re [] [] rfl rfl rfl (trivial) ⟨⟨_, rfl, .sm⟩, trivial⟩
                  · rw [hb312]
                    replace h := Sh.if_f h hb312
                    refine AR.skip rfl ?_
                    refine AR.skip rfl ?_
                    refine AR.skip rfl ?_
                    refine AR.keep [16, 151, 154] rfl ?_
                    refine AR.skip rfl ?_
                    refine AR.skip rfl ?_
                    refine AR.op (r := bl false) rfl (aop_pick rfl rfl rfl) ?_
                    refine AR.keep [157] rfl ?_
                    refine AR.op (r := bl false) rfl (aop_move (.inr rfl) rfl) ?_
                    refine AR.nil ?_
                    refine hK26 _ (AWP.weak (Weak.re (fr' := [(6, bl false)]) (H' := .empty) [] [] rfl rfl rfl (trivial) ⟨⟨_, rfl, .sm⟩, trivial⟩) ?_)
                    clear hK26 K26
                    refine awp_ret ?_
                    obtain rfl := Option.some.inj h
                    refine ⟨.inr rfl, bl false, rfl, ?_⟩
                    exact Weak.re [] [] rfl rfl rfl (trivial) ⟨⟨_, rfl, .sm⟩, trivial⟩
                · intro K27 hK27
                  refine awp_seqK fun K28 hK28 => ?_
                  refine awp_reg rfl ?_
                  refine AR.op (r := i64 0) rfl (aop_move (.inr rfl) rfl) ?_
                  refine AR.nil ?_
                  refine hK28 _ ?_
                  clear hK28 K28
                  refine awp_block ?_
                  refine awp_iterG (fun (p : (List G.fact_Fact) × Int) => G.inquestlaw23_StoreAgain_b1 level_1 r160 r164 v180 v181 r187 v230 v231 p.1 p.2) (fun (p : (List G.fact_Fact) × Int) (fs : List G.fact_Fact) => (⟨[(10, .ref 0 0 0), (12, .ref 3 0 0), (15, .view 6 0 fs.length), (16, .sl (List.map G.inquestref22_F.av r187)), (19, i64 p.2)], OH (aF v180 v181 r160 level_1 v230 v231 r164) 6 7 fs fs.length⟩ : St)) (fun p fs => alike p.1 fs) r183 h (alike_refl _) (Weak.kt [10, 12, 15, 16, 19] rfl) ?_
                  · rintro ⟨m362, i363⟩ fs o1 hal h hx1
                    replace hal : alike m362 fs := hal
                    replace h : G.inquestlaw23_StoreAgain_b1 level_1 r160 r164 v180 v181 r187 v230 v231 m362 i363 = some o1 := h
                    unfold G.inquestlaw23_StoreAgain_b1 at h
                    refine awp_seqK fun K29 hK29 => ?_
                    refine awp_seqK fun K30 hK30 => ?_
                    refine awp_reg rfl ?_
                    refine AR.op (r := i64 i363) rfl (aop_move (.inl rfl) rfl) ?_
                    refine AR.op (r := .view 6 0 fs.length) rfl (aop_move (.inl rfl) rfl) ?_
                    refine AR.op (r := i64 fs.length) rfl (aop_len_view rfl rfl (get_iff.2 ⟨7, OH_K (C := ⟨W0, _, fun _ => ⟨0, 0, 0, 0, true⟩, fun _ => False, [], 0⟩) (aF_frt _ _ _ _ _ _ _) rfl⟩) el25) ?_
                    refine AR.keep [10, 12, 15, 16, 19, 118, 120] rfl ?_
                    refine AR.op (r := bl (decide (i363 < (Sh.len m362)))) rfl ((aop_lss rfl rfl rfl).conv (by show bl (decide (i363 < (fs.length : Int))) = _; rw [hal.1])) ?_
                    refine AR.nil ?_
                    refine hK30 _ (AWP.weak (Weak.kt [10, 12, 15, 16, 19, 121] rfl) ?_)
                    clear hK30 K30
                    refine awp_cond rfl (fun hb364 => ?_) (fun hb364 => ?_)
                    · replace h := Sh.if_t h hb364
                      refine awp_skip ?_
                      refine hK29 _ (AWP.weak (Weak.kt [10, 12, 15, 16, 19] rfl) ?_)
                      clear hK29 K29
                      refine awp_seqJ (fun (p : (List G.fact_Fact) × List G.fact_Fact) => (⟨[(10, .ref 0 0 0), (12, .ref 3 0 0), (15, .view 6 0 p.2.length), (16, .sl (List.map G.inquestref22_F.av r187)), (19, i64 i363)], OH (aF v180 v181 r160 level_1 v230 v231 r164) 6 7 p.2 p.2.length⟩ : St)) (fun p => alike p.1 p.2 ∧ G.inquestlaw23_StoreAgain_j5 i363 p.1 = some o1) ?_ ?_
                      · rintro ⟨m387, fs1⟩ ⟨hal1, h⟩
                        replace h : G.inquestlaw23_StoreAgain_j5 i363 m387 = some o1 := h
                        unfold G.inquestlaw23_StoreAgain_j5 at h
                        refine awp_reg rfl ?_
                        refine AR.op (r := i64 i363) rfl (aop_move (.inl rfl) rfl) ?_
                        refine AR.op (r := i64 (w64 (i363 + 1))) rfl (aop_add rfl rfl rfl rfl) ?_
                        refine AR.op (r := i64 (w64 (i363 + 1))) rfl (aop_move (.inr rfl) rfl) ?_
                        refine AR.nil ?_
                        replace h := Sh.next_eq h
                        exact ⟨_, fs1, h, hal1, Weak.kt [10, 12, 15, 16, 19] rfl⟩
                      · intro K31 hK31
                        have hi0 : 0 ≤ i363 := again_b2_nonneg h
                        have hilt : i363 < (fs.length : Int) := by have := hal.1; have h2 : i363 < (m362.length : Int) := by simpa using hb364
                                                                   omega
                        obtain ⟨ki, rfl⟩ : ∃ ki : Nat, i363 = ki := ⟨i363.toNat, by omega⟩
                        have hki : ki < fs.length := by omega
                        obtain ⟨xi, hxi⟩ : ∃ x, fs[ki]? = some x := ⟨fs[ki], List.getElem?_eq_getElem hki⟩
                        refine awp_focusW (p := 0) (aF v180 v181 r160 level_1 v230 v231 r164) 6 7 fs fs.length (some ki) (aF_frt _ _ _ _ _ _ _) (Nat.le_refl _) (fun i hi => by cases hi; exact hki) ⟨.ref _ _ _ (by decide), .ref _ _ _ (by decide), .view _ _ _ (by decide), .noid (by simp), .imm _, trivial⟩ (fun vs => ?_)
                        rw [show IH (aF v180 v181 r160 level_1 v230 v231 r164) 6 7 vs fs fs.length (some ki) = ⟨8, (aF v180 v181 r160 level_1 v230 v231 r164) ++ [(6, (7, cellsF (innC vs 7 fs.length (some ki)) 0 fs)), (7, (1, xi.Cycle.map i64))], []⟩ by simp only [IH, hxi]; rfl]
                        refine awp_block ?_
                        refine awp_seqJ (fun (row : List Int) => (⟨[(10, .ref 0 0 0), (12, .ref 3 0 0), (15, .view 6 0 fs.length), (16, .sl (List.map G.inquestref22_F.av r187)), (19, i64 (ki : Int))], ⟨8, (aF v180 v181 r160 level_1 v230 v231 r164) ++ [(6, (7, cellsF (innC vs 7 fs.length (some ki)) 0 fs)), (7, (1, row.map i64))], []⟩⟩ : St)) (fun row => row.length = xi.Cycle.length ∧ G.inquestlaw23_StoreAgain_j6 m362 ki = some o1) ?_ ?_
                        · rintro row ⟨hrow, h⟩
                          unfold G.inquestlaw23_StoreAgain_j6 at h
                          refine awp_reg rfl ?_
                          refine AR.op (r := .view 6 0 fs.length) rfl (aop_move (.inl rfl) rfl) ?_
                          refine AR.op (r := i64 (ki : Int)) rfl (aop_move (.inl rfl) rfl) ?_
                          refine AR.op (r := .agg [i64 0, i64 0, i64 0]) rfl (aop_build rfl bd35 rfl rfl rfl) ?_
                          refine AR.keep [10, 12, 15, 16, 19, 141, 142, 143] rfl ?_
                          obtain ⟨x408, hx408, h⟩ := Sh.bind_some' h
                          obtain ⟨k409, hi409, hl409⟩ := Sh.idx_some hx408
                          obtain rfl : ki = k409 := by omega
                          refine AR.op (r := .ref 6 ki 0) rfl (t_index_c rfl hxi rfl rfl rfl rfl rfl el25) ?_
                          refine AR.op rfl (aop_field_ref rfl rfl rfl fd38_0 (by decide)) ?_
                          refine AR.op rfl (t_store_c (g' := innC vs 7 fs.length (some ki)) (fs' := fs.set ki (G.fact_Fact.mk (G.api_Choice.mk 0 0 0) xi.Kind xi.I xi.J row)) (G.fact_Fact.mk (G.api_Choice.mk 0 0 0) xi.Kind xi.I xi.J row) hxi rfl (fun j x _ _ => rfl) rfl rfl rfl rfl rfl sz35 rfl (of_decide_eq_true rfl) (by
                            have e1 : innC vs 7 fs.length (some ki) ki (G.fact_Fact.mk (G.api_Choice.mk 0 0 0) xi.Kind xi.I xi.J row) = innC vs 7 fs.length (some ki) ki xi := by unfold innC; rw [if_pos rfl, if_pos rfl]; simp only [hrow]
                            rw [e1]; rfl)) ?_
                          refine AR.keep [10, 12, 15, 16, 19] rfl ?_
                          refine AR.nil ?_
                          have hgl : (fs.set ki (G.fact_Fact.mk (G.api_Choice.mk 0 0 0) xi.Kind xi.I xi.J row)).length = fs.length := List.length_set
                          refine ⟨[(10, .ref 0 0 0), (12, .ref 3 0 0), (15, .view 6 0 fs.length), (16, .sl (List.map G.inquestref22_F.av r187)), (19, i64 (ki : Int))], (aF v180 v181 r160 level_1 v230 v231 r164), 6, 7, fs.length, fs.set ki (G.fact_Fact.mk (G.api_Choice.mk 0 0 0) xi.Kind xi.I xi.J row), some ki, ?_, aF_frt _ _ _ _ _ _ _, ⟨.ref _ _ _ (by decide), .ref _ _ _ (by decide), .view _ _ _ (by decide), .noid (by simp), .imm _, trivial⟩, .inl ⟨rfl, rfl⟩, by rw [hgl]; exact Nat.le_refl _, fun j x _ hj hx => ?_, ?_⟩
                          · have e2 : ((fs.set ki (G.fact_Fact.mk (G.api_Choice.mk 0 0 0) xi.Kind xi.I xi.J row))[ki]?.getD default).Cycle = row := by rw [List.getElem?_set, if_pos rfl, if_pos hki]; rfl
                            simp only [IH, e2]
                            exact Weak.refl _
                          · rw [List.getElem?_set, if_neg (fun hh => hj (by rw [hh]))] at hx
                            exact ⟨x, hx, rfl⟩
                          · refine hK31 (Sh.set m362 ki (G.fact_Fact.mk (G.api_Choice.mk 0 0 0) x408.Kind x408.I x408.J x408.Cycle), fs.set ki (G.fact_Fact.mk (G.api_Choice.mk 0 0 0) xi.Kind xi.I xi.J row)) _ ⟨?_, h⟩ ?_
                            · exact alike_set hal hxi hl409 hrow
                            · simp only [hgl]; exact Weak.refl _
                        · intro K32 hK32
                          refine awp_seqK fun K33 hK33 => ?_
                          refine awp_reg rfl ?_
                          refine AR.op (r := i64 0) rfl (aop_move (.inr rfl) rfl) ?_
                          refine AR.nil ?_
                          refine hK33 _ ?_
                          clear hK33 K33
                          refine awp_block ?_
                          refine awp_iterG (fun (p : Int) => G.inquestlaw23_StoreAgain_b2 m362 ki p) (fun (p : Int) (row : List Int) => (⟨[(10, .ref 0 0 0), (12, .ref 3 0 0), (15, .view 6 0 fs.length), (16, .sl (List.map G.inquestref22_F.av r187)), (19, i64 (ki : Int)), (20, i64 p)], ⟨8, (aF v180 v181 r160 level_1 v230 v231 r164) ++ [(6, (7, cellsF (innC vs 7 fs.length (some ki)) 0 fs)), (7, (1, row.map i64))], []⟩⟩ : St)) (fun p row => row.length = xi.Cycle.length) xi.Cycle h rfl (Weak.kt [10, 12, 15, 16, 19, 20] rfl) ?_
                          · rintro k423 row o2 hrow h hx2
                            have hview : innC vs 7 fs.length (some ki) ki xi = .view 7 0 (row.map i64).length := by unfold innC; rw [if_pos rfl, List.length_map, hrow]
                            replace h : G.inquestlaw23_StoreAgain_b2 m362 ki k423 = some o2 := h
                            unfold G.inquestlaw23_StoreAgain_b2 at h
                            refine awp_seqK fun K34 hK34 => ?_
                            refine awp_seqK fun K35 hK35 => ?_
                            refine awp_reg rfl ?_
                            refine AR.op (r := i64 k423) rfl (aop_move (.inl rfl) rfl) ?_
                            refine AR.op (r := .view 6 0 fs.length) rfl (aop_move (.inl rfl) rfl) ?_
                            refine AR.op (r := i64 (ki : Int)) rfl (aop_move (.inl rfl) rfl) ?_
                            refine AR.keep [10, 12, 15, 16, 19, 20, 124, 125, 126] rfl ?_
                            obtain ⟨x428, hx428, h⟩ := Sh.bind_some' h
                            obtain ⟨k429, hi429, hl429⟩ := Sh.idx_some hx428
                            obtain rfl : ki = k429 := by omega
                            have hcl : row.length = x428.Cycle.length := by rw [hrow]; exact hal.2 ki xi x428 hxi hl429
                            refine AR.op (r := .ref 6 ki 0) rfl (t_index_c rfl hxi rfl rfl rfl rfl rfl el25) ?_
                            refine AR.op rfl (aop_field_ref rfl rfl rfl fd38_4 (by decide)) ?_
                            refine AR.op (r := .view 7 0 (row.map i64).length) rfl (t_load_c hxi rfl rfl rfl sz36 (by rw [hview]; rfl)) ?_
                            refine AR.keep [10, 12, 15, 16, 19, 20, 124, 129] rfl ?_
                            refine AR.op (r := i64 (Sh.len row)) rfl (t_len_view i64 row rfl rfl rfl rfl el36) ?_
                            refine AR.op (r := bl (decide (k423 < (Sh.len x428.Cycle)))) rfl ((aop_lss rfl rfl rfl).conv (by show bl (decide (k423 < (row.length : Int))) = _; rw [hcl])) ?_
                            refine AR.nil ?_
                            refine hK35 _ (AWP.weak (Weak.kt [10, 12, 15, 16, 19, 20, 131] rfl) ?_)
                            clear hK35 K35
                            refine awp_cond rfl (fun hb430 => ?_) (fun hb430 => ?_)
                            · replace h := Sh.if_t h hb430
                              refine awp_skip ?_
                              refine hK34 _ (AWP.weak (Weak.kt [10, 12, 15, 16, 19, 20] rfl) ?_)
                              clear hK34 K34
                              refine awp_seqK fun K36 hK36 => ?_
                              refine awp_block ?_
                              refine awp_reg rfl ?_
                              refine AR.op (r := .view 6 0 fs.length) rfl (aop_move (.inl rfl) rfl) ?_
                              refine AR.op (r := i64 (ki : Int)) rfl (aop_move (.inl rfl) rfl) ?_
                              obtain ⟨x435, hx435, h⟩ := Sh.bind_some' h
                              obtain ⟨k436, hi436, hl436⟩ := Sh.idx_some hx435
                              obtain rfl : ki = k436 := by omega
                              obtain rfl : x428 = x435 := by rw [hl429] at hl436; exact Option.some.inj hl436
                              refine AR.op (r := .ref 6 ki 0) rfl (t_index_c rfl hxi rfl rfl rfl rfl rfl el25) ?_
                              refine AR.keep [10, 12, 15, 16, 19, 20, 136] rfl ?_
                              refine AR.op rfl (aop_field_ref rfl rfl rfl fd38_4 (by decide)) ?_
                              refine AR.op (r := .view 7 0 (row.map i64).length) rfl (t_load_c hxi rfl rfl rfl sz36 (by rw [hview]; rfl)) ?_
                              refine AR.op (r := i64 k423) rfl (aop_move (.inl rfl) rfl) ?_
                              refine AR.keep [10, 12, 15, 16, 19, 20, 138, 139] rfl ?_
                              obtain ⟨x437, hx437, h⟩ := Sh.bind_some' h
                              obtain ⟨k438, hi438, hl438⟩ := Sh.idx_some hx437
                              have hk4 : k438 < row.length := by rw [hcl]; exact (List.getElem?_eq_some_iff.1 hl438).1
                              obtain ⟨w4, hw4⟩ : ∃ w4, row[k438]? = some w4 := ⟨row[k438], List.getElem?_eq_getElem hk4⟩
                              refine AR.op (r := .ref 7 k438 0) rfl (t_index_view i64 row hi438 hw4 rfl rfl rfl rfl rfl el36 rfl) ?_
                              refine AR.op rfl (t_store_el i64 row 99 hi438 hw4 rfl rfl rfl rfl rfl sz3 rfl (of_decide_eq_true rfl) rfl) ?_
                              refine AR.nil ?_
                              refine hK36 _ (AWP.weak (Weak.kt [10, 12, 15, 16, 19, 20] rfl) ?_)
                              clear hK36 K36
                              refine awp_reg rfl ?_
                              refine AR.op (r := i64 k423) rfl (aop_move (.inl rfl) rfl) ?_
                              refine AR.op (r := i64 (w64 (k423 + 1))) rfl (aop_add rfl rfl rfl rfl) ?_
                              refine AR.op (r := i64 (w64 (k423 + 1))) rfl (aop_move (.inr rfl) rfl) ?_
                              refine AR.nil ?_
                              replace h := Sh.next_eq h
                              exact ⟨_, Sh.set row k423 99, h, by rw [Sh.set_len]; exact hrow, Weak.kt [10, 12, 15, 16, 19, 20] rfl⟩
                            · replace h := Sh.if_f h hb430
                              refine awp_exit ?_
                              replace h := Sh.exit_eq h hx2
                              exact hK32 row _ ⟨hrow, h⟩ (Weak.kt [10, 12, 15, 16, 19] rfl)
                    · replace h := Sh.if_f h hb364
                      refine awp_exit ?_
                      replace h := Sh.exit_eq h hx1
                      exact hK27 () _ h (Weak.re [(0, 0), (1, 1), (2, 2), (3, 3), (4, 4), (5, 5)] [] rfl rfl rfl (.cons rfl rfl (.one (.ag ⟨.view rfl, .mref rfl, .sm, .sm, trivial⟩) rfl) (of_decide_eq_true rfl) (.cons rfl rfl (.same (by simp)) (of_decide_eq_true rfl) (.cons rfl rfl (.same (by simp)) (of_decide_eq_true rfl) (.cons rfl rfl (.one (.ag ⟨.view rfl, .mref rfl, .sm, .sm, trivial⟩) rfl) (of_decide_eq_true rfl) (.cons rfl rfl (.same (by simp)) (of_decide_eq_true rfl) (.cons rfl rfl (.same (by simp)) (of_decide_eq_true rfl) (trivial))))))) ⟨⟨_, rfl, .ref rfl⟩, ⟨_, rfl, .ref rfl⟩, ⟨.sl (List.map G.inquestref22_F.av r187), rfl, .sm⟩, trivial⟩)
              · intro K37 hK37
                refine awp_seqK fun K38 hK38 => ?_
                refine awp_reg rfl ?_
                refine AR.op (r := i64 0) rfl (aop_move (.inr rfl) rfl) ?_
                refine AR.nil ?_
                refine hK38 _ ?_
                clear hK38 K38
                refine awp_block ?_
                refine awp_iter (fun (p : (List G.fact_Fact) × (List (G.api_Choice × Bool)) × Int) => G.inquestlaw23_StoreAgain_b3 level_1 r160 r164 v180 v181 r183 r187 p.1 p.2.1 p.2.2) (fun (p : (List G.fact_Fact) × (List (G.api_Choice × Bool)) × Int) => (⟨[(10, .ref 0 0 0), (12, .ref 3 0 0), (15, .view 6 0 r183.length), (16, .sl (List.map G.inquestref22_F.av r187)), (17, i64 p.2.2)], OH (aF v180 v181 r160 level_1 p.1 p.2.1 r164) 6 7 r183 r183.length⟩ : St)) h (Weak.kt [10, 12, 15, 16, 17] rfl) ?_
                · rintro ⟨tfactsall466, tfactsset467, i468⟩ o3 h hx3
                  replace h : G.inquestlaw23_StoreAgain_b3 level_1 r160 r164 v180 v181 r183 r187 tfactsall466 tfactsset467 i468 = some o3 := h
                  unfold G.inquestlaw23_StoreAgain_b3 at h
                  refine awp_seqK fun K39 hK39 => ?_
                  refine awp_seqK fun K40 hK40 => ?_
                  refine awp_reg rfl ?_
                  refine AR.op (r := i64 i468) rfl (aop_move (.inl rfl) rfl) ?_
                  refine AR.op (r := .view 6 0 r183.length) rfl (aop_move (.inl rfl) rfl) ?_
                  refine AR.op (r := i64 (Sh.len r183)) rfl (aop_len_view rfl rfl (get_iff.2 ⟨7, OH_K (C := ⟨W0, _, fun _ => ⟨0, 0, 0, 0, true⟩, fun _ => False, [], 0⟩) (aF_frt _ _ _ _ _ _ _) rfl⟩) el25) ?_
                  refine AR.keep [10, 12, 15, 16, 17, 84, 86] rfl ?_
                  refine AR.op (r := bl (decide (i468 < (Sh.len r183)))) rfl (aop_lss rfl rfl rfl) ?_
                  refine AR.nil ?_
                  refine hK40 _ (AWP.weak (Weak.kt [10, 12, 15, 16, 17, 87] rfl) ?_)
                  clear hK40 K40
                  refine awp_cond rfl (fun hb469 => ?_) (fun hb469 => ?_)
                  · replace h := Sh.if_t h hb469
                    refine awp_skip ?_
                    refine hK39 _ (AWP.weak (Weak.kt [10, 12, 15, 16, 17] rfl) ?_)
                    clear hK39 K39
                    refine awp_seqK fun K41 hK41 => ?_
                    refine awp_block ?_
                    refine awp_seqK fun K42 hK42 => ?_
                    obtain ⟨x485, hx485, h⟩ := Sh.bind_some' h
                    obtain ⟨k486, hi486, hl486⟩ := Sh.idx_some hx485
                    have hk4 : k486 < r183.length := (List.getElem?_eq_some_iff.1 hl486).1
                    refine awp_focusW (p := 0) (aF v180 v181 r160 level_1 tfactsall466 tfactsset467 r164) 6 7 r183 r183.length (some k486) (aF_frt _ _ _ _ _ _ _) (Nat.le_refl _) (fun i hi => by cases hi; exact hk4) ⟨.ref _ _ _ (by decide), .ref _ _ _ (by decide), .view _ _ _ (by decide), .noid (by simp), .imm _, trivial⟩ (fun vs => ?_)
                    have hc6 : innC vs 7 r183.length (some k486) k486 x485 = .view 7 0 (List.map i64 x485.Cycle).length := by unfold innC; rw [if_pos rfl, List.length_map]
                    rw [show IH (aF v180 v181 r160 level_1 tfactsall466 tfactsset467 r164) 6 7 vs r183 r183.length (some k486) = ⟨8, (aF v180 v181 r160 level_1 tfactsall466 tfactsset467 r164) ++ [(6, (7, cellsF (innC vs 7 r183.length (some k486)) 0 r183)), (7, (1, List.map i64 x485.Cycle))], []⟩ by simp only [IH, hl486]; rfl]
                    obtain ⟨cs, hcs⟩ : ∃ cs, cs = cellsF (innC vs 7 r183.length (some k486)) 0 r183 := ⟨_, rfl⟩
                    rw [← hcs]
                    refine awp_reg rfl ?_
                    refine AR.op (r := .ref 3 0 0) rfl (aop_move (.inl rfl) rfl) ?_
                    refine AR.op (r := .view 6 0 r183.length) rfl (aop_move (.inl rfl) rfl) ?_
                    refine AR.op (r := i64 i468) rfl (aop_move (.inl rfl) rfl) ?_
                    refine AR.keep [10, 12, 15, 16, 17, 90, 91, 92] rfl ?_
                    refine AR.op (r := .ref 6 k486 0) rfl (t_index_c (g := innC vs 7 r183.length (some k486)) hi486 hl486 rfl rfl rfl (by rw [hcs]; rfl) rfl el25) ?_
                    refine AR.op (r := .agg [i64 x485.C.Key, i64 x485.C.A, i64 x485.C.B, i64 x485.Kind, i64 x485.I, i64 x485.J, .view 7 0 (List.map i64 x485.Cycle).length]) rfl (t_load_c (g := innC vs 7 r183.length (some k486)) hl486 rfl rfl (by rw [hcs]; rfl) sz38 (by rw [hc6]; rfl)) ?_
                    obtain ⟨r487, hr487, h⟩ := Sh.bind_some' h
                    refine AR.op (r := i64 r487.2.2) rfl (aop_call3E (ok := NoId) (ys := [.ref 3 0 0, .agg [i64 x485.C.Key, i64 x485.C.A, i64 x485.C.B, i64 x485.Kind, i64 x485.I, i64 x485.J, .view 7 0 (List.map i64 x485.Cycle).length]]) (xs := [.ref 0 0 0, .agg [i64 x485.C.Key, i64 x485.C.A, i64 x485.C.B, i64 x485.Kind, i64 x485.I, i64 x485.J, .view 1 0 (List.map i64 x485.Cycle).length]]) (r' := i64 r487.2.2) (Hs := ⟨8, [(3, (4, [.agg [.view 4 0 (List.map G.fact_Fact.av tfactsall466).length, .mref 5, .sl (List.map G.api_Txn.av r164), i64 level_1]])), (4, (7, List.map G.fact_Fact.av tfactsall466)), (5, (0, [mpC G.api_Choice.ky tfactsset467])), (7, (1, List.map i64 x485.Cycle))], []⟩) (H' := ⟨12, [(0, (4, [.agg [.view 1 0 (List.map G.fact_Fact.av v180).length, .mref 2, .sl (List.map G.api_Txn.av r160), i64 level_1]])), (1, (7, List.map G.fact_Fact.av v180)), (2, (0, [mpC G.api_Choice.ky v181])), (3, (4, [.agg [.view 10 0 (List.map G.fact_Fact.av r487.1).length, .mref 11, .sl (List.map G.api_Txn.av r164), i64 level_1]])), (6, (7, cs)), (7, (1, List.map i64 x485.Cycle)), (10, (7, List.map G.fact_Fact.av r487.1)), (11, (0, [mpC G.api_Choice.ky r487.2.1]))], []⟩) (g := [(0, 3), (1, 7), (2, 4), (3, 5)]) (m := [(0, 3), (1, 7), (2, 10), (3, 11)]) (nw := []) (p := 2) (.func rfl rfl (store_Store_Learn__2_ok hT hr487).call) (store_Store_Learn__2_ok hT hr487) { next := rfl, part := ⟨rfl, rfl, rfl, rfl, trivial⟩, inj := rfl, lt := rfl, nwf := rfl, gin := rfl, held := .cons rfl rfl (.one (.ag ⟨.view rfl, .mref rfl, .sm, .sm, trivial⟩) rfl) (of_decide_eq_true rfl) (.cons rfl rfl (.same (by simp)) (of_decide_eq_true rfl) (.cons rfl rfl (.same (by simp)) (of_decide_eq_true rfl) (.cons rfl rfl (.same (by simp)) (of_decide_eq_true rfl) (trivial)))), seen := ⟨⟨_, rfl, .ref rfl⟩, ⟨.agg [i64 x485.C.Key, i64 x485.C.A, i64 x485.C.B, i64 x485.Kind, i64 x485.I, i64 x485.J, .view 7 0 (List.map i64 x485.Cycle).length], rfl, .ag ⟨.sm, .sm, .sm, .sm, .sm, .sm, .view rfl, trivial⟩⟩, trivial⟩, inlps := rfl, ple := rfl, map := rfl, next' := rfl, back := .kept rfl rfl (.kept rfl rfl (.kept rfl rfl (.new 0 rfl rfl (.one ⟨.view rfl, .mref rfl, .sm, .sm, trivial⟩) (.kept rfl rfl (.new 1 rfl rfl (.same (by simp [AV.flat])) (.new 2 rfl rfl (.same (by simp [AV.flat, G.fact_Fact.av])) (.new 3 rfl rfl (.same (by simp)) (trivial)))))))), lps := .inl ⟨rfl, rfl⟩, mode := .inr ⟨fun _ h => h, rfl⟩, ren := .sm } rfl) ?_
                    refine AR.keep [10, 12, 15, 16, 17, 95] rfl ?_
                    refine AR.op (r := i64 r487.2.2) rfl (aop_move (.inr rfl) rfl) ?_
                    refine AR.nil ?_
                    refine ⟨[(10, .ref 0 0 0), (12, .ref 3 0 0), (15, .view 6 0 r183.length), (16, .sl (List.map G.inquestref22_F.av r187)), (17, i64 i468), (18, i64 r487.2.2)], (aF v180 v181 r160 level_1 r487.1 r487.2.1 r164), 6, 7, r183.length, r183, some k486, ?_, aF_frt _ _ _ _ _ _ _, ⟨.ref _ _ _ (by decide), .ref _ _ _ (by decide), .view _ _ _ (by decide), .noid (by simp), .imm _, .imm _, trivial⟩, .inl ⟨rfl, rfl⟩, Nat.le_refl _, fun j x _ _ hx => ⟨x, hx, rfl⟩, ?_⟩
                    · rw [show IH (aF v180 v181 r160 level_1 r487.1 r487.2.1 r164) 6 7 vs r183 r183.length (some k486) = ⟨8, (aF v180 v181 r160 level_1 r487.1 r487.2.1 r164) ++ [(6, (7, cs)), (7, (1, List.map i64 x485.Cycle))], []⟩ by rw [hcs]; simp only [IH, hl486]; rfl]
                      refine Weak.re [(0, 0), (1, 1), (2, 2), (3, 3), (4, 10), (5, 11), (6, 6), (7, 7)] [] rfl rfl rfl (.cons rfl rfl (.one (.ag ⟨.view rfl, .mref rfl, .sm, .sm, trivial⟩) rfl) (of_decide_eq_true rfl) (.cons rfl rfl (.same (by simp)) (of_decide_eq_true rfl) (.cons rfl rfl (.same (by simp)) (of_decide_eq_true rfl) (.cons rfl rfl (.one (.ag ⟨.view rfl, .mref rfl, .sm, .sm, trivial⟩) rfl) (of_decide_eq_true rfl) (.cons rfl rfl (.same (by simp)) (of_decide_eq_true rfl) (.cons rfl rfl (.same (by simp)) (of_decide_eq_true rfl) (.cons rfl rfl ?_ (of_decide_eq_true rfl) (.cons rfl rfl (.same (by simp)) (of_decide_eq_true rfl) (trivial))))))))) ⟨⟨_, rfl, .ref rfl⟩, ⟨_, rfl, .ref rfl⟩, ⟨_, rfl, .view rfl⟩, ⟨.sl (List.map G.inquestref22_F.av r187), rfl, .sm⟩, ⟨_, rfl, .sm⟩, ⟨_, rfl, .sm⟩, trivial⟩
                      rw [hcs]; exact seeC rfl
                    refine hK42 _ ?_
                    clear hK42 K42 hcs cs hc6 vs
                    refine awp_focusW (p := 0) (aF v180 v181 r160 level_1 r487.1 r487.2.1 r164) 6 7 r183 r183.length none (aF_frt _ _ _ _ _ _ _) (Nat.le_refl _) (fun i hi => by cases hi) ⟨.ref _ _ _ (by decide), .ref _ _ _ (by decide), .view _ _ _ (by decide), .noid (by simp), .imm _, .imm _, trivial⟩ (fun vs => ?_)
                    obtain ⟨cs, hcs⟩ : ∃ cs, cs = cellsF (innC vs 7 r183.length none) 0 r183 := ⟨_, rfl⟩
                    have hno : ∀ e ∈ cs, NoId e := by rw [hcs]; exact noid_inn
                    rw [show IH (aF v180 v181 r160 level_1 r487.1 r487.2.1 r164) 6 7 vs r183 r183.length none = ⟨7, (aF v180 v181 r160 level_1 r487.1 r487.2.1 r164) ++ [(6, (7, cs))], []⟩ by rw [hcs]; rfl]
                    refine awp_seqJ (fun (p : Bool) => (⟨[(10, .ref 0 0 0), (12, .ref 3 0 0), (15, .view 6 0 r183.length), (16, .sl (List.map G.inquestref22_F.av r187)), (17, i64 i468), (117, bl p)], ⟨7, (aF v180 v181 r160 level_1 r487.1 r487.2.1 r164) ++ [(6, (7, cs))], []⟩⟩ : St)) (fun (p : Bool) => G.inquestlaw23_StoreAgain_j7 i468 r487 p = some o3) ?_ ?_
                    · rintro v496 h
                      replace h : G.inquestlaw23_StoreAgain_j7 i468 r487 v496 = some o3 := h
                      unfold G.inquestlaw23_StoreAgain_j7 at h
                      refine awp_cond rfl (fun hb497 => ?_) (fun hb497 => ?_)
                      · replace h := Sh.if_t h hb497
                        refine awp_seqK fun K43 hK43 => ?_
                        refine awp_reg rfl ?_
                        refine AR.op (r := bl false) rfl (aop_move (.inr rfl) rfl) ?_
                        refine AR.nil ?_
                        refine hK43 _ (AWP.weak (Weak.kt [6] rfl) ?_)
                        clear hK43 K43
                        refine awp_ret ?_
                        replace h := Sh.exit_eq h hx3
                        obtain rfl := Option.some.inj h
                        refine ⟨[(6, bl false)], (aF v180 v181 r160 level_1 r487.1 r487.2.1 r164), 6, 7, r183.length, r183, none, ?_, aF_frt _ _ _ _ _ _ _, ⟨.imm _, trivial⟩, .inl ⟨rfl, rfl⟩, Nat.le_refl _, fun j x _ _ hx => ⟨x, hx, rfl⟩, ?_⟩
                        · rw [show IH (aF v180 v181 r160 level_1 r487.1 r487.2.1 r164) 6 7 vs r183 r183.length none = ⟨7, (aF v180 v181 r160 level_1 r487.1 r487.2.1 r164) ++ [(6, (7, cs))], []⟩ by rw [hcs]; rfl]
                          exact Weak.refl _
                        refine ⟨.inr rfl, bl false, rfl, ?_⟩
                        exact Weak.re [] [] rfl rfl rfl (trivial) ⟨⟨_, rfl, .sm⟩, trivial⟩
                      · replace h := Sh.if_f h hb497
                        refine awp_skip ?_
                        refine ⟨[(10, .ref 0 0 0), (12, .ref 3 0 0), (15, .view 6 0 r183.length), (16, .sl (List.map G.inquestref22_F.av r187)), (17, i64 i468)], (aF v180 v181 r160 level_1 r487.1 r487.2.1 r164), 6, 7, r183.length, r183, none, ?_, aF_frt _ _ _ _ _ _ _, ⟨.ref _ _ _ (by decide), .ref _ _ _ (by decide), .view _ _ _ (by decide), .noid (by simp), .imm _, trivial⟩, .inl ⟨rfl, rfl⟩, Nat.le_refl _, fun j x _ _ hx => ⟨x, hx, rfl⟩, ?_⟩
                        · rw [show IH (aF v180 v181 r160 level_1 r487.1 r487.2.1 r164) 6 7 vs r183 r183.length none = ⟨7, (aF v180 v181 r160 level_1 r487.1 r487.2.1 r164) ++ [(6, (7, cs))], []⟩ by rw [hcs]; rfl]
                          exact Weak.kt [10, 12, 15, 16, 17] rfl
                        refine hK41 _ ?_
                        clear hK41 K41
                        refine awp_reg rfl ?_
                        refine AR.op (r := i64 i468) rfl (aop_move (.inl rfl) rfl) ?_
                        refine AR.op (r := i64 (w64 (i468 + 1))) rfl (aop_add rfl rfl rfl rfl) ?_
                        refine AR.op (r := i64 (w64 (i468 + 1))) rfl (aop_move (.inr rfl) rfl) ?_
                        refine AR.nil ?_
                        replace h := Sh.next_eq h
                        exact ⟨_, h, Weak.kt [10, 12, 15, 16, 17] rfl⟩
                    · intro K44 hK44
                      refine awp_reg rfl ?_
                      refine AR.op (r := i64 r487.2.2) rfl (aop_move (.inl rfl) rfl) ?_
                      refine AR.op (r := bl (decide (r487.2.2 ≠ 0))) rfl (aop_neq rfl rfl rfl) ?_
                      refine AR.op (r := bl (decide (r487.2.2 ≠ 0))) rfl (aop_move (.inl rfl) rfl) ?_
                      refine AR.keep [10, 12, 15, 16, 17, 98] rfl ?_
                      rcases Bool.eq_false_or_eq_true (decide (r487.2.2 ≠ 0)) with hb498 | hb498
                      · rw [hb498]
                        replace h := Sh.if_t h hb498
                        refine AR.skip rfl ?_
                        refine AR.skip rfl ?_
                        refine AR.skip rfl ?_
                        refine AR.keep [10, 12, 15, 16, 17, 98, 99, 100, 101] rfl ?_
                        refine AR.skip rfl ?_
                        refine AR.skip rfl ?_
                        refine AR.skip rfl ?_
                        refine AR.keep [10, 12, 15, 16, 17, 98, 99, 100, 101, 102, 103, 104] rfl ?_
                        refine AR.skip rfl ?_
                        refine AR.skip rfl ?_
                        refine AR.op (r := bl true) rfl (aop_pick rfl rfl rfl) ?_
                        refine AR.keep [10, 12, 15, 16, 17, 99, 100, 101, 102, 103, 104, 105, 106, 107] rfl ?_
                        refine AR.op (r := bl true) rfl (aop_move (.inl rfl) rfl) ?_
                        refine AR.skip rfl ?_
                        refine AR.skip rfl ?_
                        refine AR.keep [10, 12, 15, 16, 17, 99, 100, 101, 102, 103, 104, 105, 106, 108, 109, 110] rfl ?_
                        refine AR.skip rfl ?_
                        refine AR.skip rfl ?_
                        refine AR.skip rfl ?_
                        refine AR.keep [10, 12, 15, 16, 17, 99, 100, 101, 102, 103, 104, 105, 106, 108, 109, 110, 111, 112, 113] rfl ?_
                        refine AR.skip rfl ?_
                        refine AR.skip rfl ?_
                        refine AR.skip rfl ?_
                        refine AR.keep [10, 12, 15, 16, 17, 99, 100, 101, 102, 103, 104, 105, 106, 108, 109, 110, 111, 112, 113, 114, 115, 116] rfl ?_
                        refine AR.op (r := bl true) rfl (aop_pick rfl rfl rfl) ?_
                        refine AR.nil ?_
                        exact hK44 true _ h (Weak.kt [10, 12, 15, 16, 17, 117] rfl)
                      · rw [hb498]
                        replace h := Sh.if_f h hb498
                        refine AR.op (r := .ref 0 0 0) rfl (aop_move (.inl rfl) rfl) ?_
                        refine AR.op (r := .view 6 0 r183.length) rfl (aop_move (.inl rfl) rfl) ?_
                        refine AR.op (r := i64 i468) rfl (aop_move (.inl rfl) rfl) ?_
                        refine AR.keep [10, 12, 15, 16, 17, 98, 99, 100, 101] rfl ?_
                        obtain ⟨x499, hx499, h⟩ := Sh.bind_some' h
                        obtain ⟨k500, hi500, hl500⟩ := Sh.idx_some hx499
                        refine AR.op (r := .ref 6 k500 0) rfl (t_index_c (g := innC vs 7 r183.length none) hi500 hl500 rfl rfl rfl (by rw [hcs]; rfl) rfl el25) ?_
                        refine AR.op rfl (aop_field_ref rfl rfl rfl fd38_0 (by decide)) ?_
                        refine AR.op (r := G.api_Choice.av x499.C) rfl (t_load_c (g := innC vs 7 r183.length none) hl500 rfl rfl (by rw [hcs]; rfl) sz35 rfl) ?_
                        refine AR.keep [10, 12, 15, 16, 17, 98, 99, 100, 101, 102, 103, 104] rfl ?_
                        obtain ⟨r501, hr501, h⟩ := Sh.bind_some' h
                        refine AR.op (r := i64 r501) rfl (aop_call3E (ok := NoId) (ys := [.ref 0 0 0, G.api_Choice.av x499.C]) (xs := [.ref 0 0 0, G.api_Choice.av x499.C]) (r' := i64 r501) (Hs := ⟨7, [(0, (4, [.agg [.view 1 0 (List.map G.fact_Fact.av v180).length, .mref 2, .sl (List.map G.api_Txn.av r160), i64 level_1]])), (1, (7, List.map G.fact_Fact.av v180)), (2, (0, [mpC G.api_Choice.ky v181]))], []⟩) (H' := ⟨10, [(0, (4, [.agg [.view 8 0 (List.map G.fact_Fact.av v180).length, .mref 9, .sl (List.map G.api_Txn.av r160), i64 level_1]])), (3, (4, [.agg [.view 4 0 (List.map G.fact_Fact.av r487.1).length, .mref 5, .sl (List.map G.api_Txn.av r164), i64 level_1]])), (4, (7, List.map G.fact_Fact.av r487.1)), (5, (0, [mpC G.api_Choice.ky r487.2.1])), (6, (7, cs)), (8, (7, List.map G.fact_Fact.av v180)), (9, (0, [mpC G.api_Choice.ky v181]))], []⟩) (g := [(0, 0), (1, 1), (2, 2)]) (m := [(0, 0), (1, 8), (2, 9)]) (nw := []) (p := 1) (.func rfl rfl (store_Store_Decides__1_ok hT hr501).call) (store_Store_Decides__1_ok hT hr501) { next := rfl, part := ⟨rfl, rfl, rfl, trivial⟩, inj := rfl, lt := rfl, nwf := rfl, gin := rfl, held := .cons rfl rfl (.one (.ag ⟨.view rfl, .mref rfl, .sm, .sm, trivial⟩) rfl) (of_decide_eq_true rfl) (.cons rfl rfl (.same (by simp)) (of_decide_eq_true rfl) (.cons rfl rfl (.same (by simp)) (of_decide_eq_true rfl) (trivial))), seen := ⟨⟨_, rfl, .ref rfl⟩, ⟨G.api_Choice.av x499.C, rfl, .sm⟩, trivial⟩, inlps := rfl, ple := rfl, map := rfl, next' := rfl, back := .new 0 rfl rfl (.one ⟨.view rfl, .mref rfl, .sm, .sm, trivial⟩) (.kept rfl rfl (.kept rfl rfl (.kept rfl rfl (.kept rfl rfl (.new 1 rfl rfl (.same (by simp [AV.flat, G.fact_Fact.av])) (.new 2 rfl rfl (.same (by simp)) (trivial))))))), lps := .inl ⟨rfl, rfl⟩, mode := .inr ⟨fun _ h => h, rfl⟩, ren := .sm } rfl) ?_
                        refine AR.op (r := bl (decide (r501 ≠ 1))) rfl (aop_neq rfl rfl rfl) ?_
                        refine AR.op (r := bl (decide (r501 ≠ 1))) rfl (aop_pick rfl rfl rfl) ?_
                        refine AR.keep [10, 12, 15, 16, 17, 99, 100, 101, 102, 103, 104, 105, 106, 107] rfl ?_
                        refine AR.op (r := bl (decide (r501 ≠ 1))) rfl (aop_move (.inl rfl) rfl) ?_
                        rcases Bool.eq_false_or_eq_true (decide (r501 ≠ 1)) with hb502 | hb502
                        · rw [hb502]
                          replace h := Sh.if_t h hb502
                          refine AR.skip rfl ?_
                          refine AR.skip rfl ?_
                          refine AR.keep [10, 12, 15, 16, 17, 99, 100, 101, 102, 103, 104, 105, 106, 108, 109, 110] rfl ?_
                          refine AR.skip rfl ?_
                          refine AR.skip rfl ?_
                          refine AR.skip rfl ?_
                          refine AR.keep [10, 12, 15, 16, 17, 99, 100, 101, 102, 103, 104, 105, 106, 108, 109, 110, 111, 112, 113] rfl ?_
                          refine AR.skip rfl ?_
                          refine AR.skip rfl ?_
                          refine AR.skip rfl ?_
                          refine AR.keep [10, 12, 15, 16, 17, 99, 100, 101, 102, 103, 104, 105, 106, 108, 109, 110, 111, 112, 113, 114, 115, 116] rfl ?_
                          refine AR.op (r := bl true) rfl (aop_pick rfl rfl rfl) ?_
                          refine AR.nil ?_
                          exact hK44 true _ h (Weak.re [(0, 0), (1, 8), (2, 9), (3, 3), (4, 4), (5, 5), (6, 6)] [] rfl rfl rfl (.cons rfl rfl (.one (.ag ⟨.view rfl, .mref rfl, .sm, .sm, trivial⟩) rfl) (of_decide_eq_true rfl) (.cons rfl rfl (.same (by simp)) (of_decide_eq_true rfl) (.cons rfl rfl (.same (by simp)) (of_decide_eq_true rfl) (.cons rfl rfl (.one (.ag ⟨.view rfl, .mref rfl, .sm, .sm, trivial⟩) rfl) (of_decide_eq_true rfl) (.cons rfl rfl (.same (by simp)) (of_decide_eq_true rfl) (.cons rfl rfl (.same (by simp)) (of_decide_eq_true rfl) (.cons rfl rfl (.same hno) (of_decide_eq_true rfl) (trivial)))))))) ⟨⟨_, rfl, .ref rfl⟩, ⟨_, rfl, .ref rfl⟩, ⟨_, rfl, .view rfl⟩, ⟨.sl (List.map G.inquestref22_F.av r187), rfl, .sm⟩, ⟨_, rfl, .sm⟩, ⟨_, rfl, .sm⟩, trivial⟩)
                        · rw [hb502]
                          replace h := Sh.if_f h hb502
                          refine AR.op (r := .ref 3 0 0) rfl (aop_move (.inl rfl) rfl) ?_
                          refine AR.op (r := .view 6 0 r183.length) rfl (aop_move (.inl rfl) rfl) ?_
                          refine AR.keep [10, 12, 15, 16, 17, 99, 100, 101, 102, 103, 104, 105, 106, 108, 109, 110] rfl ?_
                          refine AR.op (r := i64 i468) rfl (aop_move (.inl rfl) rfl) ?_
                          obtain ⟨x503, hx503, h⟩ := Sh.bind_some' h
                          obtain ⟨k504, hi504, hl504⟩ := Sh.idx_some hx503
                          refine AR.op (r := .ref 6 k504 0) rfl (t_index_c (g := innC vs 7 r183.length none) hi504 hl504 rfl rfl rfl (by rw [hcs]; rfl) rfl el25) ?_
                          refine AR.op rfl (aop_field_ref rfl rfl rfl fd38_0 (by decide)) ?_
                          refine AR.keep [10, 12, 15, 16, 17, 99, 100, 101, 102, 103, 104, 105, 106, 108, 109, 110, 111, 112, 113] rfl ?_
                          refine AR.op (r := G.api_Choice.av x503.C) rfl (t_load_c (g := innC vs 7 r183.length none) hl504 rfl rfl (by rw [hcs]; rfl) sz35 rfl) ?_
                          obtain ⟨r505, hr505, h⟩ := Sh.bind_some' h
                          refine AR.op (r := i64 r505) rfl (aop_call3E (ok := NoId) (ys := [.ref 3 0 0, G.api_Choice.av x503.C]) (xs := [.ref 0 0 0, G.api_Choice.av x503.C]) (r' := i64 r505) (Hs := ⟨10, [(3, (4, [.agg [.view 4 0 (List.map G.fact_Fact.av r487.1).length, .mref 5, .sl (List.map G.api_Txn.av r164), i64 level_1]])), (4, (7, List.map G.fact_Fact.av r487.1)), (5, (0, [mpC G.api_Choice.ky r487.2.1]))], []⟩) (H' := ⟨13, [(0, (4, [.agg [.view 8 0 (List.map G.fact_Fact.av v180).length, .mref 9, .sl (List.map G.api_Txn.av r160), i64 level_1]])), (3, (4, [.agg [.view 11 0 (List.map G.fact_Fact.av r487.1).length, .mref 12, .sl (List.map G.api_Txn.av r164), i64 level_1]])), (6, (7, cs)), (8, (7, List.map G.fact_Fact.av v180)), (9, (0, [mpC G.api_Choice.ky v181])), (11, (7, List.map G.fact_Fact.av r487.1)), (12, (0, [mpC G.api_Choice.ky r487.2.1]))], []⟩) (g := [(0, 3), (1, 4), (2, 5)]) (m := [(0, 3), (1, 11), (2, 12)]) (nw := []) (p := 1) (.func rfl rfl (store_Store_Decides__1_ok hT hr505).call) (store_Store_Decides__1_ok hT hr505) { next := rfl, part := ⟨rfl, rfl, rfl, trivial⟩, inj := rfl, lt := rfl, nwf := rfl, gin := rfl, held := .cons rfl rfl (.one (.ag ⟨.view rfl, .mref rfl, .sm, .sm, trivial⟩) rfl) (of_decide_eq_true rfl) (.cons rfl rfl (.same (by simp)) (of_decide_eq_true rfl) (.cons rfl rfl (.same (by simp)) (of_decide_eq_true rfl) (trivial))), seen := ⟨⟨_, rfl, .ref rfl⟩, ⟨G.api_Choice.av x503.C, rfl, .sm⟩, trivial⟩, inlps := rfl, ple := rfl, map := rfl, next' := rfl, back := .kept rfl rfl (.new 0 rfl rfl (.one ⟨.view rfl, .mref rfl, .sm, .sm, trivial⟩) (.kept rfl rfl (.kept rfl rfl (.kept rfl rfl (.new 1 rfl rfl (.same (by simp [AV.flat, G.fact_Fact.av])) (.new 2 rfl rfl (.same (by simp)) (trivial))))))), lps := .inl ⟨rfl, rfl⟩, mode := .inr ⟨fun _ h => h, rfl⟩, ren := .sm } rfl) ?_
                          refine AR.op (r := bl (decide (r505 ≠ 1))) rfl (aop_neq rfl rfl rfl) ?_
                          refine AR.keep [10, 12, 15, 16, 17, 99, 100, 101, 102, 103, 104, 105, 106, 108, 109, 110, 111, 112, 113, 114, 115, 116] rfl ?_
                          refine AR.op (r := bl (decide (r505 ≠ 1))) rfl (aop_pick rfl rfl rfl) ?_
                          refine AR.nil ?_
                          exact hK44 (decide (r505 ≠ 1)) _ h (Weak.re [(0, 0), (1, 8), (2, 9), (3, 3), (4, 11), (5, 12), (6, 6)] [] rfl rfl rfl (.cons rfl rfl (.one (.ag ⟨.view rfl, .mref rfl, .sm, .sm, trivial⟩) rfl) (of_decide_eq_true rfl) (.cons rfl rfl (.same (by simp)) (of_decide_eq_true rfl) (.cons rfl rfl (.same (by simp)) (of_decide_eq_true rfl) (.cons rfl rfl (.one (.ag ⟨.view rfl, .mref rfl, .sm, .sm, trivial⟩) rfl) (of_decide_eq_true rfl) (.cons rfl rfl (.same (by simp)) (of_decide_eq_true rfl) (.cons rfl rfl (.same (by simp)) (of_decide_eq_true rfl) (.cons rfl rfl (.same hno) (of_decide_eq_true rfl) (trivial)))))))) ⟨⟨_, rfl, .ref rfl⟩, ⟨_, rfl, .ref rfl⟩, ⟨_, rfl, .view rfl⟩, ⟨.sl (List.map G.inquestref22_F.av r187), rfl, .sm⟩, ⟨_, rfl, .sm⟩, ⟨_, rfl, .sm⟩, trivial⟩)
                  · replace h := Sh.if_f h hb469
                    refine awp_exit ?_
                    replace h := Sh.exit_eq h hx3
                    exact hK37 (tfactsall466, tfactsset467) _ h (Weak.kt [10, 12, 15, 16] rfl)
            · intro K45 hK45
              refine awp_seqK fun K46 hK46 => ?_
              refine awp_reg rfl ?_
              refine AR.op (r := i64 0) rfl (aop_move (.inr rfl) rfl) ?_
              refine AR.nil ?_
              refine hK46 _ ?_
              clear hK46 K46
              refine awp_block ?_
              refine awp_iter (fun (p : (List G.fact_Fact) × (List (G.api_Choice × Bool)) × Int) => G.inquestlaw23_StoreAgain_b4 level_1 l_2 r160 r164 p.1 p.2.1 p.2.2) (fun (p : (List G.fact_Fact) × (List (G.api_Choice × Bool)) × Int) => (⟨[(2, .sl (List.map G.fact_Fact.av l_2)), (10, .ref 0 0 0), (12, .ref 3 0 0), (14, i64 p.2.2)], ⟨5, [(0, (4, [.agg [.view 1 0 (List.map G.fact_Fact.av p.1).length, .mref 2, .sl (List.map G.api_Txn.av r160), i64 level_1]])), (1, (7, List.map G.fact_Fact.av p.1)), (2, (0, [mpC G.api_Choice.ky p.2.1])), (3, (4, [.agg [nilS, .mref 4, .sl (List.map G.api_Txn.av r164), i64 level_1]])), (4, (0, [mpC G.api_Choice.ky []]))], []⟩⟩ : St)) h (Weak.re [(0, 0), (2, 1), (3, 2), (4, 3)] [1] rfl rfl rfl (.cons rfl rfl (.one (.ag ⟨.nil (by simp), .mref rfl, .sm, .sm, trivial⟩) rfl) (of_decide_eq_true rfl) (.fresh (by simp) (of_decide_eq_true rfl) (.cons rfl rfl (.same (by simp)) (of_decide_eq_true rfl) (.cons rfl rfl (.one (.ag ⟨.sm, .mref rfl, .sm, .sm, trivial⟩) rfl) (of_decide_eq_true rfl) (.cons rfl rfl (.same (by simp)) (of_decide_eq_true rfl) (trivial)))))) ⟨⟨.sl (List.map G.fact_Fact.av l_2), rfl, .sm⟩, ⟨_, rfl, .ref rfl⟩, ⟨_, rfl, .ref rfl⟩, ⟨_, rfl, .sm⟩, trivial⟩) ?_
              · skip
                rintro ⟨sfactsall515, sfactsset516, i517⟩ o4 h hx4
                replace h : G.inquestlaw23_StoreAgain_b4 level_1 l_2 r160 r164 sfactsall515 sfactsset516 i517 = some o4 := h
                unfold G.inquestlaw23_StoreAgain_b4 at h
                refine awp_seqK fun K47 hK47 => ?_
                refine awp_seqK fun K48 hK48 => ?_
                refine awp_reg rfl ?_
                refine AR.op (r := i64 i517) rfl (aop_move (.inl rfl) rfl) ?_
                refine AR.op (r := .sl (List.map G.fact_Fact.av l_2)) rfl (aop_move (.inl rfl) rfl) ?_
                refine AR.op (r := i64 (Sh.len l_2)) rfl (t_len_sl G.fact_Fact.av l_2 rfl rfl el25) ?_
                refine AR.keep [2, 10, 12, 14, 67, 69] rfl ?_
                refine AR.op (r := bl (decide (i517 < (Sh.len l_2)))) rfl (aop_lss rfl rfl rfl) ?_
                refine AR.nil ?_
                refine hK48 _ (AWP.weak (Weak.kt [2, 10, 12, 14, 70] rfl) ?_)
                clear hK48 K48
                refine awp_cond rfl (fun hb518 => ?_) (fun hb518 => ?_)
                · replace h := Sh.if_t h hb518
                  refine awp_skip ?_
                  refine hK47 _ (AWP.weak (Weak.kt [2, 10, 12, 14] rfl) ?_)
                  clear hK47 K47
                  refine awp_seqK fun K49 hK49 => ?_
                  refine awp_block ?_
                  refine awp_reg rfl ?_
                  refine AR.op (r := .ref 0 0 0) rfl (aop_move (.inl rfl) rfl) ?_
                  refine AR.op (r := .sl (List.map G.fact_Fact.av l_2)) rfl (aop_move (.inl rfl) rfl) ?_
                  refine AR.op (r := i64 i517) rfl (aop_move (.inl rfl) rfl) ?_
                  refine AR.keep [2, 10, 12, 14, 73, 74, 75] rfl ?_
                  obtain ⟨x522, hx522, h⟩ := Sh.bind_some' h
                  obtain ⟨k523, hi523, hl523⟩ := Sh.idx_some hx522
                  refine AR.op rfl (t_index_sl G.fact_Fact.av l_2 hi523 hl523 rfl rfl rfl el25 rfl) ?_
                  refine AR.op (r := G.fact_Fact.av x522) rfl (aop_load_pp rfl rfl sz38 rfl) ?_
                  obtain ⟨r524, hr524, h⟩ := Sh.bind_some' h
                  refine AR.op (r := i64 r524.2.2) rfl (aop_call3E (ok := NoId) (ys := [.ref 0 0 0, G.fact_Fact.av x522]) (xs := [.ref 0 0 0, G.fact_Fact.av x522]) (r' := i64 r524.2.2) (Hs := ⟨5, [(0, (4, [.agg [.view 1 0 (List.map G.fact_Fact.av sfactsall515).length, .mref 2, .sl (List.map G.api_Txn.av r160), i64 level_1]])), (1, (7, List.map G.fact_Fact.av sfactsall515)), (2, (0, [mpC G.api_Choice.ky sfactsset516]))], []⟩) (H' := ⟨8, [(0, (4, [.agg [.view 6 0 (List.map G.fact_Fact.av r524.1).length, .mref 7, .sl (List.map G.api_Txn.av r160), i64 level_1]])), (3, (4, [.agg [nilS, .mref 4, .sl (List.map G.api_Txn.av r164), i64 level_1]])), (4, (0, [mpC G.api_Choice.ky []])), (6, (7, List.map G.fact_Fact.av r524.1)), (7, (0, [mpC G.api_Choice.ky r524.2.1]))], []⟩) (g := [(0, 0), (1, 1), (2, 2)]) (m := [(0, 0), (1, 6), (2, 7)]) (nw := []) (p := 1) (.func rfl rfl (store_Store_Learn__1_ok hT hr524).call) (store_Store_Learn__1_ok hT hr524) { next := rfl, part := ⟨rfl, rfl, rfl, trivial⟩, inj := rfl, lt := rfl, nwf := rfl, gin := rfl, held := .cons rfl rfl (.one (.ag ⟨.view rfl, .mref rfl, .sm, .sm, trivial⟩) rfl) (of_decide_eq_true rfl) (.cons rfl rfl (.same (by simp)) (of_decide_eq_true rfl) (.cons rfl rfl (.same (by simp)) (of_decide_eq_true rfl) (trivial))), seen := ⟨⟨_, rfl, .ref rfl⟩, ⟨G.fact_Fact.av x522, rfl, .sm⟩, trivial⟩, inlps := rfl, ple := rfl, map := rfl, next' := rfl, back := .new 0 rfl rfl (.one ⟨.view rfl, .mref rfl, .sm, .sm, trivial⟩) (.kept rfl rfl (.kept rfl rfl (.new 1 rfl rfl (.same (by simp [AV.flat, G.fact_Fact.av])) (.new 2 rfl rfl (.same (by simp)) (trivial))))), lps := .inl ⟨rfl, rfl⟩, mode := .inr ⟨fun _ h => h, rfl⟩, ren := .sm } rfl) ?_
                  refine AR.nil ?_
                  refine hK49 _ (AWP.weak (Weak.re (fr' := [(2, .sl (List.map G.fact_Fact.av l_2)), (10, .ref 0 0 0), (12, .ref 3 0 0), (14, i64 i517)]) (H' := ⟨5, [(0, (4, [.agg [.view 1 0 (List.map G.fact_Fact.av r524.1).length, .mref 2, .sl (List.map G.api_Txn.av r160), i64 level_1]])), (1, (7, List.map G.fact_Fact.av r524.1)), (2, (0, [mpC G.api_Choice.ky r524.2.1])), (3, (4, [.agg [nilS, .mref 4, .sl (List.map G.api_Txn.av r164), i64 level_1]])), (4, (0, [mpC G.api_Choice.ky []]))], []⟩) [(0, 0), (1, 6), (2, 7), (3, 3), (4, 4)] [] rfl rfl rfl (.cons rfl rfl (.one (.ag ⟨.view rfl, .mref rfl, .sm, .sm, trivial⟩) rfl) (of_decide_eq_true rfl) (.cons rfl rfl (.same (by simp)) (of_decide_eq_true rfl) (.cons rfl rfl (.same (by simp)) (of_decide_eq_true rfl) (.cons rfl rfl (.one (.ag ⟨.sm, .mref rfl, .sm, .sm, trivial⟩) rfl) (of_decide_eq_true rfl) (.cons rfl rfl (.same (by simp)) (of_decide_eq_true rfl) (trivial)))))) ⟨⟨.sl (List.map G.fact_Fact.av l_2), rfl, .sm⟩, ⟨_, rfl, .ref rfl⟩, ⟨_, rfl, .ref rfl⟩, ⟨_, rfl, .sm⟩, trivial⟩) ?_)
                  clear hK49 K49
                  refine awp_reg rfl ?_
                  refine AR.op (r := i64 i517) rfl (aop_move (.inl rfl) rfl) ?_
                  refine AR.op (r := i64 (w64 (i517 + 1))) rfl (aop_add rfl rfl rfl rfl) ?_
                  refine AR.op (r := i64 (w64 (i517 + 1))) rfl (aop_move (.inr rfl) rfl) ?_
                  refine AR.nil ?_
                  replace h := Sh.next_eq h
                  exact ⟨_, h, Weak.kt [2, 10, 12, 14] rfl⟩
                · replace h := Sh.if_f h hb518
                  refine awp_exit ?_
                  replace h := Sh.exit_eq h hx4
                  exact hK45 (sfactsall515, sfactsset516) _ h (Weak.kt [10, 12] rfl)
    · intro K50 hK50
      refine awp_reg rfl ?_
      refine AR.op (r := bl r151) rfl (aop_move (.inl rfl) rfl) ?_
      refine AR.op (r := bl (!r151)) rfl (aop_not rfl rfl) ?_
      refine AR.op (r := bl (!r151)) rfl (aop_move (.inl rfl) rfl) ?_
      refine AR.keep [1, 2, 3, 9, 30] rfl ?_
      rcases Bool.eq_false_or_eq_true (!r151) with hb525 | hb525
      · rw [hb525]
        replace h := Sh.if_t h hb525
        refine AR.skip rfl ?_
        refine AR.skip rfl ?_
        refine AR.op (r := bl true) rfl (aop_pick rfl rfl rfl) ?_
        refine AR.nil ?_
        exact hK50 true _ h (Weak.kt [1, 2, 3, 33] rfl)
      · rw [hb525]
        replace h := Sh.if_f h hb525
        refine AR.op (r := bl r153) rfl (aop_move (.inl rfl) rfl) ?_
        refine AR.op (r := bl (!r153)) rfl (aop_not rfl rfl) ?_
        refine AR.op (r := bl (!r153)) rfl (aop_pick rfl rfl rfl) ?_
        refine AR.nil ?_
        exact hK50 (!r153) _ h (Weak.kt [1, 2, 3, 33] rfl)
theorem inquestlaw23_StoreAgain_ok {W0 : World} (hT : Tab W0) {h_0 : G.api_Hist} {level_1 : Int} {l_2 : List G.fact_Fact} {r : Bool} (h : G.inquestlaw23_StoreAgain h_0 level_1 l_2 = some r) : Fun1 Try.prog W0 3 [G.api_Hist.av h_0, i64 level_1, .sl (List.map G.fact_Fact.av l_2)] (bl r) := Fun1.two (inquestlaw23_StoreAgain_ok0 hT h) (by simp)

end Wk
