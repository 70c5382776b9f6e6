/- How the arguments of SerGraph are read. -/
import Derived.Test.YtcoegkcdabpijaaDoorWkDinquestlaw20SerGraph
import Derived.Test.YtcoegkcdabpijaaDoorBase2
open Go Go.Av Go.Proofs
namespace WkSerGraph
def ok_api_Take (x : G.api_Take) : Prop := (fun n : Int => -9223372036854775808 ≤ n ∧ n ≤ 9223372036854775807) x.Key ∧ (fun n : Int => -9223372036854775808 ≤ n ∧ n ≤ 9223372036854775807) x.From
theorem dec_api_Take : Dec Tryd.prog 50 G.api_Take.av ok_api_Take := by
  intro H enc w spare held fuel cs d ps h
  obtain ⟨fuel', xs, e1, e2⟩ := dec_agg Tryd.underlying50 h
  simp only [List.mapM_cons, List.mapM_nil, Option.bind_eq_bind, Option.bind_eq_some_iff, Option.pure_def, Option.some.injEq] at e2
  obtain ⟨y1, q1, _, ⟨y2, q2, _, rfl, rfl⟩, rfl⟩ := e2
  obtain ⟨x1, p1, e1x⟩ := (dec_i64 Tryd.underlying3) _ _ _ _ _ _ _ _ q1
  obtain ⟨x2, p2, e2x⟩ := (dec_i64 Tryd.underlying3) _ _ _ _ _ _ _ _ q2
  refine ⟨⟨x1, x2⟩, ⟨p1, p2⟩, ?_⟩
  rw [e1]; simp only [List.map_cons, List.map_nil, cellsAll, e1x, e2x]; rfl
def ok_api_Txn (x : G.api_Txn) : Prop := (fun n : Int => -9223372036854775808 ≤ n ∧ n ≤ 9223372036854775807) x.Session ∧ (fun l : List Int => (∀ x ∈ l, (fun n : Int => -9223372036854775808 ≤ n ∧ n ≤ 9223372036854775807) x) ∧ l.length ≤ 9223372036854775807) x.Writes ∧ (fun l : List G.api_Take => (∀ x ∈ l, ok_api_Take x) ∧ l.length ≤ 9223372036854775807) x.Reads
theorem dec_api_Txn : Dec Tryd.prog 53 G.api_Txn.av ok_api_Txn := by
  intro H enc w spare held fuel cs d ps h
  obtain ⟨fuel', xs, e1, e2⟩ := dec_agg Tryd.underlying53 h
  simp only [List.mapM_cons, List.mapM_nil, Option.bind_eq_bind, Option.bind_eq_some_iff, Option.pure_def, Option.some.injEq] at e2
  obtain ⟨y1, q1, _, ⟨y2, q2, _, ⟨y3, q3, _, rfl, rfl⟩, rfl⟩, rfl⟩ := e2
  obtain ⟨x1, p1, e1x⟩ := (dec_i64 Tryd.underlying3) _ _ _ _ _ _ _ _ q1
  obtain ⟨x2, p2, e2x⟩ := (dec_slice Tryd.underlying26 (dec_i64 Tryd.underlying3)) _ _ _ _ _ _ _ _ q2
  obtain ⟨x3, p3, e3x⟩ := (dec_slice Tryd.underlying51 dec_api_Take) _ _ _ _ _ _ _ _ q3
  refine ⟨⟨x1, x2, x3⟩, ⟨p1, p2, p3⟩, ?_⟩
  rw [e1]; simp only [List.map_cons, List.map_nil, cellsAll, e1x, e2x, e3x]; rfl
def ok_api_Hist (x : G.api_Hist) : Prop := (fun l : List G.api_Txn => (∀ x ∈ l, ok_api_Txn x) ∧ l.length ≤ 9223372036854775807) x.Txns
theorem dec_api_Hist : Dec Tryd.prog 24 G.api_Hist.av ok_api_Hist := by
  intro H enc w spare held fuel cs d ps h
  obtain ⟨fuel', xs, e1, e2⟩ := dec_agg Tryd.underlying24 h
  simp only [List.mapM_cons, List.mapM_nil, Option.bind_eq_bind, Option.bind_eq_some_iff, Option.pure_def, Option.some.injEq] at e2
  obtain ⟨y1, q1, _, rfl, rfl⟩ := e2
  obtain ⟨x1, p1, e1x⟩ := (dec_slice Tryd.underlying22 dec_api_Txn) _ _ _ _ _ _ _ _ q1
  refine ⟨⟨x1⟩, p1, ?_⟩
  rw [e1]; simp only [List.map_cons, List.map_nil, cellsAll, e1x]; rfl
end WkSerGraph
