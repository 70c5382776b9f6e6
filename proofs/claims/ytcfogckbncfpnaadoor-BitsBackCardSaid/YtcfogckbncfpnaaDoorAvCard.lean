/- From a row's argument to what a proof sees of it. -/
import Derived.Test.YtcfogckbncfpnaaDoorAvMore
import Derived.Test.YtcfogckbncfpnaaDoorAvLaw
import Derived.OpenShut
import Derived.Lib.LaidTab
namespace Go.Av
open Go.ChangeShapes Go.WideShapes Go.ChangeAt Go.RowKit
variable {P : Program} {H : Type} {enc : TypeId × Value → H}

/-- An argument of a plain type: one of a family's. -/
theorem arg_dec {W : World} {base : Nat} {t : TypeId} {v : Value} {d : DataW H} {ps : List MemPlace} {α : Type} {f : α → AV} {ok : α → Prop} (n : Nat) (hp : plainTy P n t = true) (hd : Dec P t f ok) (h : DataW.Trod enc P W 0 (fun _ => true) true t v d ps) (hform : Value.okWide P W .any base t v) : ∃ x, ok x ∧ Rep (Ctx.start W) (f x) v := by
  have h1 := arg_rep n hp h hform
  obtain ⟨fuel, hf⟩ := h
  obtain ⟨x, h2, h3⟩ := hd enc W _ _ fuel _ d ps hf
  exact ⟨x, h2, h3 ▸ h1⟩

theorem params_ok {fn : Func} (h : (fn.params.toList.all fun t => P.readableRec t && decide (t < P.types.size)) = true) : ∀ t ∈ fn.params.toList, P.readableRec t = true ∧ t < P.types.size := fun t ht => by
  have := List.all_eq_true.1 h t ht
  simpa using this

theorem tab_of {W : World} {name : String} {l : List Nat} {g : Nat} (h : Lib.TabIs P W name .u8 (l.map fun (k : Nat) => (k : Int))) (hg : P.globalNamed name = some g) : ∀ (j : Nat) (v : Value), (l.map fun (k : Nat) => Value.int .u8 (k : Int))[j]? = some v → W.cell? ⟨g, j, none⟩ = some v ∧ v.oneCell' = true := fun j v hj => by
  simp only [List.getElem?_map, Option.map_eq_some_iff] at hj
  obtain ⟨k, hk, rfl⟩ := hj
  have hlt := (List.getElem?_eq_some_iff.1 hk).1
  have := h.cell hg j (by simpa using hlt)
  rw [this]
  refine ⟨?_, rfl⟩
  simp [List.getD, hk]

/-- The arguments, one by one. -/
theorem reps_nil {C : Ctx} : ∀ (k : Nat) (x : AV), ([] : List AV)[k]? = some x → Rep C x ((#[] : Array Value).getD k undef) := fun k x h => by cases h
theorem reps1 {C : Ctx} {x0 : AV} {v0 : Value} (h0 : Rep C x0 v0) : ∀ (k : Nat) (x : AV), [x0][k]? = some x → Rep C x (#[v0].getD k undef) := fun k x h => by
  match k with
  | 0 => cases h; exact h0
  | k + 1 => cases h
theorem reps2 {C : Ctx} {x0 x1 : AV} {v0 v1 : Value} (h0 : Rep C x0 v0) (h1 : Rep C x1 v1) : ∀ (k : Nat) (x : AV), [x0, x1][k]? = some x → Rep C x (#[v0, v1].getD k undef) := fun k x h => by
  match k with
  | 0 => cases h; exact h0
  | 1 => cases h; exact h1
  | k + 2 => cases h
theorem reps3 {C : Ctx} {x0 x1 x2 : AV} {v0 v1 v2 : Value} (h0 : Rep C x0 v0) (h1 : Rep C x1 v1) (h2 : Rep C x2 v2) : ∀ (k : Nat) (x : AV), [x0, x1, x2][k]? = some x → Rep C x (#[v0, v1, v2].getD k undef) := fun k x h => by
  match k with
  | 0 => cases h; exact h0
  | 1 => cases h; exact h1
  | 2 => cases h; exact h2
  | k + 3 => cases h
theorem reps4 {C : Ctx} {x0 x1 x2 x3 : AV} {v0 v1 v2 v3 : Value} (h0 : Rep C x0 v0) (h1 : Rep C x1 v1) (h2 : Rep C x2 v2) (h3 : Rep C x3 v3) : ∀ (k : Nat) (x : AV), [x0, x1, x2, x3][k]? = some x → Rep C x (#[v0, v1, v2, v3].getD k undef) := fun k x h => by
  match k with
  | 0 => cases h; exact h0
  | 1 => cases h; exact h1
  | 2 => cases h; exact h2
  | 3 => cases h; exact h3
  | k + 4 => cases h
theorem reps5 {C : Ctx} {x0 x1 x2 x3 x4 : AV} {v0 v1 v2 v3 v4 : Value} (h0 : Rep C x0 v0) (h1 : Rep C x1 v1) (h2 : Rep C x2 v2) (h3 : Rep C x3 v3) (h4 : Rep C x4 v4) : ∀ (k : Nat) (x : AV), [x0, x1, x2, x3, x4][k]? = some x → Rep C x (#[v0, v1, v2, v3, v4].getD k undef) := fun k x h => by
  match k with
  | 0 => cases h; exact h0
  | 1 => cases h; exact h1
  | 2 => cases h; exact h2
  | 3 => cases h; exact h3
  | 4 => cases h; exact h4
  | k + 5 => cases h
end Go.Av
