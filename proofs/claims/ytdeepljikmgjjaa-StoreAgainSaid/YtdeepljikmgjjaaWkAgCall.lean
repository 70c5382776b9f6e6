/- A store's list of facts asked for: the slice that is handed back, and those in its cells, are the caller's own. -/
import Derived.Test.YtdeepljikmgjjaaWkAgFacts
open Go Go.Av Go.Proofs
set_option linter.unusedVariables false
set_option maxHeartbeats 8000000
set_option maxRecDepth 20000
namespace Go.Av
theorem Back.append {ok : AV → Prop} {H : Heap} {g m : List (Nat × Nat)} {Hout : Heap} : ∀ {l r : List (Nat × (Nat × List AV))}, Back ok H g m Hout l → Back ok H g m Hout r → Back ok H g m Hout (l ++ r)
  | [], _, _, h => h
  | _ :: _, _, h1, h2 => ⟨h1.1, Back.append h1.2 h2⟩
def mvR (a b : Nat) : Nat → List (Nat × Nat)
  | 0 => []
  | n + 1 => mvR a b n ++ [(a + n, b + n)]
theorem mvR_mem {a b : Nat} : ∀ {n : Nat} {q : Nat × Nat}, q ∈ mvR a b n → ∃ j, j < n ∧ q = (a + j, b + j)
  | 0, q, h => by cases h
  | n + 1, q, h => by
    rcases List.mem_append.1 h with h | h
    · obtain ⟨j, h1, h2⟩ := mvR_mem h
      exact ⟨j, by omega, h2⟩
    · simp at h; exact ⟨n, by omega, h⟩
theorem mvR_lk {a b : Nat} : ∀ {n j : Nat}, j < n → lk (mvR a b n) (a + j) = some (b + j)
  | 0, j, h => by omega
  | n + 1, j, h => by
    simp only [mvR]
    rw [lk_append]
    by_cases hj : j < n
    · rw [mvR_lk hj]
    · have : j = n := by omega
      subst this
      have : lk (mvR a b j) (a + j) = none := by
        cases hc : lk (mvR a b j) (a + j) with
        | none => rfl
        | some v =>
          obtain ⟨i, h1, h2⟩ := mvR_mem (lk_mem hc)
          simp only [Prod.mk.injEq] at h2
          omega
      rw [this]; simp [lk]
theorem back_rows {H : Heap} {g m : List (Nat × Nat)} {Hout : Heap} : ∀ (L : List (List Int)) (M : Nat), (∀ j l, L[j]? = some l → ∃ i, lk m i = some (M + j) ∧ lk Hout.objs i = some (1, l.map i64)) → Back NoId H g m Hout (fam i64 1 M L)
  | [], M, _ => trivial
  | l :: L, M, h => ⟨.inr (by
      obtain ⟨i, h1, h2⟩ := h 0 l rfl
      exact ⟨i, _, h1, h2, .same (fun e he x hx => by
        obtain ⟨a, _, rfl⟩ := List.mem_map.1 he
        have : x = i64 a := by simpa [AV.flat] using hx
        rw [this]; simp)⟩), back_rows L (M + 1) (fun j l' hj => by
      obtain ⟨i, h1, h2⟩ := h (j + 1) l' (by simpa using hj)
      exact ⟨i, by rw [h1]; congr 1; omega, h2⟩)⟩
theorem renC {m : List (Nat × Nat)} {a b n : Nat} {fs : List Fa} (hm : ∀ j, j < n → lk m (a + j) = some (b + j)) : RenL NoId m (cellsF (outC a n) 0 fs) (cellsF (outC b n) 0 fs) where
  len := by rw [cellsF_len, cellsF_len]
  see k e e' h1 h2 := by
    rw [cellsF_get] at h1 h2
    obtain ⟨x, hx, rfl⟩ := Option.map_eq_some_iff.1 h1
    rw [hx] at h2
    simp only [Option.map_some, Option.some.injEq] at h2
    subst h2
    refine ⟨rfl, fun j y y' h3 h4 => ?_⟩
    by_cases hj : j = 6
    · subst hj
      rw [mcell_six h3, mcell_six h4, Nat.zero_add]
      unfold outC
      by_cases hk : k < n
      · rw [if_pos hk, if_pos hk]; exact .view (hm k hk)
      · rw [if_neg hk, if_neg hk]; exact .same _ (by simp)
    · obtain ⟨h5, h6⟩ := mcell_lt (c' := outC b n (0 + k) x) hj h3
      rw [h4] at h5; cases h5
      exact .same _ h6
  mapd l h := by
    cases fs with
    | nil => simp [cellsF] at h
    | cons y r => simp [cellsF, mcell] at h
end Go.Av
namespace Wk
theorem t_facts_own {W0 : World} (hT : Tab W0) {fr : Fr} {o : Oper} {tx : List G.api_Txn} {lv : Int} {l : List G.fact_Fact} {m : List (G.api_Choice × Bool)} {r : List G.fact_Fact} (h : G.store_Store_Facts__1 tx lv l m = some r) {o3 o4 : Nat × List AV} {x : Operand} {ty : Array TypeId}
    (ho : o.op = .call { callee := .value (.func 12), args := #[x], argTypes := ty }) (hx : evalA fr x = some (.ref 0 0 0)) :
    AOp Try.prog (.of W0) o fr ⟨5, [(0, oSt 1 2 l tx lv), (1, oFs l), (2, oMp m), (3, o3), (4, o4)], []⟩ (.view 8 0 r.length) (OH [(0, oSt 6 7 l tx lv), (3, o3), (4, o4), (6, oFs l), (7, oMp m)] 8 9 r r.length) := by
  have hin : Frt [(0, oSt 1 2 l tx lv), (1, oFs l), (2, oMp m)] 3 4 1 := .of ⟨und_st (by decide) (by decide) _ _, und_av _, und_mp _, trivial⟩
  have hlk : ∀ j, j < r.length → lk ([(0, 0), (1, 6), (2, 7), (3, 8)] ++ mvR 4 9 r.length) (4 + j) = some (9 + j) := fun j hj => by
    rw [lk_append, mvR_lk hj]
    have : lk [(0, 0), (1, 6), (2, 7), (3, 8)] (4 + j) = none := by
      simp only [lk]
      rw [if_neg (by omega), if_neg (by omega), if_neg (by omega), if_neg (by omega)]
    rw [this]
  have hl : ∀ k v, k < 4 → lk [(0, 0), (1, 6), (2, 7), (3, 8)] k = some v → lk ([(0, 0), (1, 6), (2, 7), (3, 8)] ++ mvR 4 9 r.length) k = some v := fun k v _ h => by rw [lk_append, h]
  refine aop_call3E (ok := NoId) (ys := [.ref 0 0 0]) (xs := [.ref 0 0 0]) (r' := .view 8 0 r.length) (Hs := ⟨5, [(0, oSt 1 2 l tx lv), (1, oFs l), (2, oMp m)], []⟩) (g := [(0, 0), (1, 1), (2, 2)]) (m := [(0, 0), (1, 6), (2, 7), (3, 8)] ++ mvR 4 9 r.length) (nw := []) (p := 1) (.func ho (by simp [hx]) (store_Store_Facts__own hT h).call) (store_Store_Facts__own hT h) { next := rfl, part := ⟨rfl, rfl, rfl, trivial⟩, inj := rfl, lt := rfl, nwf := rfl, gin := rfl, held := .cons rfl rfl (.one (.ag ⟨.view rfl, .mref rfl, .sm, .sm, trivial⟩) rfl) (of_decide_eq_true rfl) (.cons rfl rfl (.same (by simp)) (of_decide_eq_true rfl) (.cons rfl rfl (.same (by simp)) (of_decide_eq_true rfl) (trivial))), seen := ⟨⟨_, rfl, .ref rfl⟩, trivial⟩, inlps := rfl, ple := rfl, map := ?_, next' := ?_, back := ?_, lps := .inl ⟨rfl, rfl⟩, mode := .inr ⟨fun _ h => h, rfl⟩, ren := .view (hl 3 8 (by decide) rfl) } rfl
  · unfold mapOk
    rw [List.all_append, Bool.and_eq_true]
    refine ⟨rfl, List.all_eq_true.2 fun q hq => ?_⟩
    obtain ⟨j, _, rfl⟩ := mvR_mem hq
    simp only [Bool.or_eq_true, beq_iff_eq]
    exact .inr (by omega)
  · show 9 + r.length = 5 + (4 + r.length)
    omega
  · refine Back.append (.new 0 (hl 0 0 (by decide) rfl) rfl (.one ⟨.view (hl 1 6 (by decide) rfl), .mref (hl 2 7 (by decide) rfl), .sm, .sm, trivial⟩) (.kept rfl rfl (.kept rfl rfl (.new 1 (hl 1 6 (by decide) rfl) rfl (.same (by simp [AV.flat, G.fact_Fact.av])) (.new 2 (hl 2 7 (by decide) rfl) rfl (.same (by simp)) (.new 3 (hl 3 8 (by decide) rfl) (OH_K (C := ⟨W0, _, fun _ => ⟨0, 0, 0, 0, true⟩, fun _ => False, [], 0⟩) hin rfl) (renC hlk) trivial)))))) (back_rows _ _ fun j q hj => ?_)
    rw [rowsF_get] at hj
    split at hj
    · rename_i hj'
      obtain ⟨y, hy, rfl⟩ := Option.map_eq_some_iff.1 hj
      refine ⟨4 + j, hlk j hj', ?_⟩
      exact OH_row (C := ⟨W0, _, fun _ => ⟨0, 0, 0, 0, true⟩, fun _ => False, [], 0⟩) hin rfl hj' hy
    · cases hj
end Wk
