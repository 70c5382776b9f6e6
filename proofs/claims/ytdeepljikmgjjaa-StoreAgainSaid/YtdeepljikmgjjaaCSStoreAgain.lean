/- The statement of StoreAgain: it answers true of every input that its arguments' types allow. -/
import Derived.Test.YtdeepljikmgjjaaPl
import Derived.Test.YtdeepljikmgjjaaDecSStoreAgain
import Derived.Test.YtdeepljikmgjjaaRows
import Derived.WalkKit
import Derived.ProofKit
import Derived.OpenShut
import Derived.Deep.DeepHandedRow
import Derived.Lib.LaidTab
namespace Go.Proofs.Ytdeepljikmgjjaa.storeAgain
open Go.ChangeShapes Go.WideShapes Go.ChangeAt Go.RowKit Go.Av

theorem own : ownKnob Try.prog.godebug = none := by kernel_rfl
theorem tab {W : World} (_ : laidMetH Try.prog Rows.storeAgainRow.laid W) : Wk.Tab W := trivial

set_option maxRecDepth 20000 in
theorem contract (H : Type) (enc : TypeId × Value → H) (W : World) (base : Nat) (args : Array Value) (ds gs : List (DataW H)) (before : List MemPlace)
    (hval : ∀ (j : Nat) t v, Try.f3.params[j]? = some t → args[j]? = some v → Value.okWide Try.prog W .any base t v)
    (hW : DataW.Whole enc Try.prog Try.f3.params.toList Rows.storeAgainSpec.vars false W args.toList ds gs before) (hL : laidMetH Try.prog Rows.storeAgainRow.laid W) :
    Calls Try.prog 3 args W fun e W' => ∃ v, e = .returned v ∧ Rows.storeAgainSpec.post enc Try.prog Try.f3 false true false false W args v W' := by
  have hW' := hW
  obtain ⟨p, q, hA0, hV, rfl, hfz, hnd⟩ := hW
  have hA : DataW.TrodAll enc Try.prog W 0 (fun _ => true) true Try.f3.params.toList args.toList ds p := hA0
  rw [Try.params3] at hA hval
  obtain ⟨v0, vs0, d0, ds0, p0, q0, hargs, rfl, rfl, h0, r0⟩ := trodAll_cons hA
  obtain ⟨v1, vs1, d1, ds1, p1, q1, rfl, rfl, rfl, h1, r1⟩ := trodAll_cons r0
  obtain ⟨v2, vs2, d2, ds2, p2, q2, rfl, rfl, rfl, h2, r2⟩ := trodAll_cons r1
  obtain ⟨rfl, rfl, rfl⟩ := trodAll_nil r2
  obtain rfl : args = #[v0, v1, v2] := by cases args; simp_all
  obtain ⟨rfl, rfl⟩ := trodVars_none hV
  obtain ⟨x0, ok0, a0⟩ := arg_dec 9 (by kernel_rfl) WkStoreAgain.dec_api_Hist h0 (hval 0 24 v0 rfl rfl)
  obtain ⟨x1, ok1, a1⟩ := arg_dec 9 (by kernel_rfl) (dec_i64 Try.underlying3) h1 (hval 1 3 v1 rfl rfl)
  obtain ⟨x2, ok2, a2⟩ := arg_dec 9 (by kernel_rfl) (dec_slice Try.underlying25 WkStoreAgain.dec_fact_Fact) h2 (hval 2 25 v2 rfl rfl)
  exact law_calls (Wk.inquestlaw23_StoreAgain_ok (tab hL) (Pl.StoreAgain x0 x1 x2)) rfl (reps3 a0 a1 a2) hW' rfl rfl rfl Try.underlying4 (by kernel_rfl) (params_ok (by kernel_rfl))

/-- A world for the witness. -/
noncomputable def laidWorld (os : Os) : World :=
  World.holding Try.prog os ⟨#[], #[], []⟩
noncomputable def wit : Array Value := #[.agg #[.slice none 0 0], .int .i64 0, .slice none 0 0]
theorem laid_met (os : Os) : laidMet Try.prog Rows.storeAgainRow.laid ((laidWorld os).forCall (fun _ _ => 0) ⟨#[], wit, []⟩).memory :=
  laidMet_of_run' 8 (by kernel_rfl) (by kernel_rfl)
theorem reads (os : Os) {H : Type} (enc : TypeId × Value → H) : ∃ places, DataW.whole enc Try.prog ((laidWorld os).forCall (fun _ _ => 0) ⟨#[], wit, []⟩).memory Try.f3.params.toList Rows.storeAgainSpec.vars false wit.toList 8 = some ([.agg [.nil], .lit (.int .i64 0), .nil], [], places) :=
  ⟨[], by kernel_rfl⟩

set_option maxRecDepth 100000 in
theorem lifted (os : Os) (started : os.Started) (H : Type) (enc : TypeId × Value → H) (F : Stop.Interp) :
    ReturnsInHanded {} Try.checked os 3 .any ((OpenSpec.ofChange Rows.storeAgainSpec).preRow enc Try.prog Try.f3 Rows.storeAgainRow.domain false Rows.storeAgainRow.laid) (((OpenSpec.ofChange Rows.storeAgainSpec).at F).post enc Try.prog Try.f3 false true false false) := by
  obtain ⟨places, hx⟩ := reads os enc
  refine returnsInHanded_of_row (C := Try.checked) (s := OpenSpec.ofChange Rows.storeAgainSpec) own started (by kernel_rfl) Try.func3
    (witness_row_at (enc := enc) (C := Try.checked) false (laidWorld os) wit rfl (by kernel_rfl) (by kernel_rfl) (by kernel_rfl)
      (OpenSpec.preRow_of_cond 8 hx (by kernel_rfl) (fun k hk => by cases hk) (by kernel_rfl) (laid_met os))) ?_
  intro W base args ds gs before hval hW _ _ _ hL _ _
  exact contract H enc W base args ds gs before hval hW hL

theorem said : Rows.StoreAgainSaid :=
  OpenClaim.holds_of_cond 3 Try.f3 rfl rfl rfl rfl rfl rfl rfl ⟨rfl, rfl, rfl, rfl, rfl⟩ rfl rfl rfl rfl rfl (by kernel_rfl) Try.func3 (by kernel_rfl)
    (of_decide_eq_true (by kernel_rfl)) (by unfold Func.isWrapper; first | (rw [if_pos (by decide +kernel)]; kernel_rfl) | (rw [if_neg (by decide +kernel)]; exact ⟨rfl, rfl⟩))
    (fun os started H enc _ F => by rw [OpenClaim.pre_eq_preRow]; exact lifted os started H enc F)

end Go.Proofs.Ytdeepljikmgjjaa.storeAgain
