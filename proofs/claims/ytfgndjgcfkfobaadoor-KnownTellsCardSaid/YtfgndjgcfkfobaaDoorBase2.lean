/- What a proof sees of a run, and the rules by which it goes through a text. -/
import Derived.Test.YtfgndjgcfkfobaaDoorBase
import Derived.Test.YtfgndjgcfkfobaaDoorBase1
import Derived.OpenShut
import Derived.Lib.LaidTab
set_option linter.unusedSimpArgs false
set_option linter.unusedVariables false
section
/- From a row's argument to what a proof sees of it. -/
namespace Go.Av
open Go.ChangeShapes Go.WideShapes Go.ChangeAt Go.RowKit
variable {P : Program} {H : Type} {enc : TypeId × Value → H}

/-- An argument of a plain type: one of a family's. -/
theorem arg_dec {W : World} {base : Nat} {t : TypeId} {v : Value} {d : DataW H} {ps : List MemPlace} {α : Type} {f : α → AV} {ok : α → Prop} (n : Nat) (hp : plainTy P n t = true) (hd : Dec P t f ok) (h : DataW.Trod enc P W 0 (fun _ => true) true t v d ps) (hform : Value.okWide P W .any base t v) : ∃ x, ok x ∧ Rep (Ctx.start W) (f x) v := by
  have h1 := arg_rep n hp h hform
  obtain ⟨fuel, hf⟩ := h
  obtain ⟨x, h2, h3⟩ := hd enc W _ _ fuel _ d ps hf
  exact ⟨x, h2, h3 ▸ h1⟩

theorem params_ok {fn : Func} (h : (fn.params.toList.all fun t => P.readableRec t && decide (t < P.types.size)) = true) : ∀ t ∈ fn.params.toList, P.readableRec t = true ∧ t < P.types.size := fun t ht => by
  have := List.all_eq_true.1 h t ht
  simpa using this

theorem tab_of {W : World} {name : String} {l : List Nat} {g : Nat} (h : Lib.TabIs P W name .u8 (l.map fun (k : Nat) => (k : Int))) (hg : P.globalNamed name = some g) : ∀ (j : Nat) (v : Value), (l.map fun (k : Nat) => Value.int .u8 (k : Int))[j]? = some v → W.cell? ⟨g, j, none⟩ = some v ∧ v.oneCell' = true := fun j v hj => by
  simp only [List.getElem?_map, Option.map_eq_some_iff] at hj
  obtain ⟨k, hk, rfl⟩ := hj
  have hlt := (List.getElem?_eq_some_iff.1 hk).1
  have := h.cell hg j (by simpa using hlt)
  rw [this]
  refine ⟨?_, rfl⟩
  simp [List.getD, hk]

theorem reps1 {C : Ctx} {x0 : AV} {v0 : Value} (h0 : Rep C x0 v0) : ∀ (k : Nat) (x : AV), [x0][k]? = some x → Rep C x (#[v0].getD k undef) := fun k x h => by
  match k with
  | 0 => cases h; exact h0
  | k + 1 => cases h
end Go.Av
end
