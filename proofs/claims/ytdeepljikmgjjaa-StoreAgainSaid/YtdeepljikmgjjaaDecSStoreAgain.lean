/- How the arguments of StoreAgain are read. -/
import Derived.Test.YtdeepljikmgjjaaWkAgain
import Derived.Test.YtdeepljikmgjjaaBase2
open Go Go.Av Go.Proofs
namespace WkStoreAgain
def ok_api_Take (x : G.api_Take) : Prop := (fun n : Int => -9223372036854775808 ≤ n ∧ n ≤ 9223372036854775807) x.Key ∧ (fun n : Int => -9223372036854775808 ≤ n ∧ n ≤ 9223372036854775807) x.From
theorem dec_api_Take : Dec Try.prog 78 G.api_Take.av ok_api_Take := by
  intro H enc w spare held fuel cs d ps h
  obtain ⟨fuel', xs, e1, e2⟩ := dec_agg Try.underlying78 h
  simp only [List.mapM_cons, List.mapM_nil, Option.bind_eq_bind, Option.bind_eq_some_iff, Option.pure_def, Option.some.injEq] at e2
  obtain ⟨y1, q1, _, ⟨y2, q2, _, rfl, rfl⟩, rfl⟩ := e2
  obtain ⟨x1, p1, e1x⟩ := (dec_i64 Try.underlying3) _ _ _ _ _ _ _ _ q1
  obtain ⟨x2, p2, e2x⟩ := (dec_i64 Try.underlying3) _ _ _ _ _ _ _ _ q2
  refine ⟨⟨x1, x2⟩, ⟨p1, p2⟩, ?_⟩
  rw [e1]; simp only [List.map_cons, List.map_nil, cellsAll, e1x, e2x]; rfl
def ok_api_Txn (x : G.api_Txn) : Prop := (fun n : Int => -9223372036854775808 ≤ n ∧ n ≤ 9223372036854775807) x.Session ∧ (fun l : List Int => (∀ x ∈ l, (fun n : Int => -9223372036854775808 ≤ n ∧ n ≤ 9223372036854775807) x) ∧ l.length ≤ 9223372036854775807) x.Writes ∧ (fun l : List G.api_Take => (∀ x ∈ l, ok_api_Take x) ∧ l.length ≤ 9223372036854775807) x.Reads
theorem dec_api_Txn : Dec Try.prog 58 G.api_Txn.av ok_api_Txn := by
  intro H enc w spare held fuel cs d ps h
  obtain ⟨fuel', xs, e1, e2⟩ := dec_agg Try.underlying58 h
  simp only [List.mapM_cons, List.mapM_nil, Option.bind_eq_bind, Option.bind_eq_some_iff, Option.pure_def, Option.some.injEq] at e2
  obtain ⟨y1, q1, _, ⟨y2, q2, _, ⟨y3, q3, _, rfl, rfl⟩, rfl⟩, rfl⟩ := e2
  obtain ⟨x1, p1, e1x⟩ := (dec_i64 Try.underlying3) _ _ _ _ _ _ _ _ q1
  obtain ⟨x2, p2, e2x⟩ := (dec_slice Try.underlying36 (dec_i64 Try.underlying3)) _ _ _ _ _ _ _ _ q2
  obtain ⟨x3, p3, e3x⟩ := (dec_slice Try.underlying56 dec_api_Take) _ _ _ _ _ _ _ _ q3
  refine ⟨⟨x1, x2, x3⟩, ⟨p1, p2, p3⟩, ?_⟩
  rw [e1]; simp only [List.map_cons, List.map_nil, cellsAll, e1x, e2x, e3x]; rfl
def ok_api_Hist (x : G.api_Hist) : Prop := (fun l : List G.api_Txn => (∀ x ∈ l, ok_api_Txn x) ∧ l.length ≤ 9223372036854775807) x.Txns
theorem dec_api_Hist : Dec Try.prog 24 G.api_Hist.av ok_api_Hist := by
  intro H enc w spare held fuel cs d ps h
  obtain ⟨fuel', xs, e1, e2⟩ := dec_agg Try.underlying24 h
  simp only [List.mapM_cons, List.mapM_nil, Option.bind_eq_bind, Option.bind_eq_some_iff, Option.pure_def, Option.some.injEq] at e2
  obtain ⟨y1, q1, _, rfl, rfl⟩ := e2
  obtain ⟨x1, p1, e1x⟩ := (dec_slice Try.underlying22 dec_api_Txn) _ _ _ _ _ _ _ _ q1
  refine ⟨⟨x1⟩, p1, ?_⟩
  rw [e1]; simp only [List.map_cons, List.map_nil, cellsAll, e1x]; rfl
def ok_api_Choice (x : G.api_Choice) : Prop := (fun n : Int => -9223372036854775808 ≤ n ∧ n ≤ 9223372036854775807) x.Key ∧ (fun n : Int => -9223372036854775808 ≤ n ∧ n ≤ 9223372036854775807) x.A ∧ (fun n : Int => -9223372036854775808 ≤ n ∧ n ≤ 9223372036854775807) x.B
theorem dec_api_Choice : Dec Try.prog 35 G.api_Choice.av ok_api_Choice := by
  intro H enc w spare held fuel cs d ps h
  obtain ⟨fuel', xs, e1, e2⟩ := dec_agg Try.underlying35 h
  simp only [List.mapM_cons, List.mapM_nil, Option.bind_eq_bind, Option.bind_eq_some_iff, Option.pure_def, Option.some.injEq] at e2
  obtain ⟨y1, q1, _, ⟨y2, q2, _, ⟨y3, q3, _, rfl, rfl⟩, rfl⟩, rfl⟩ := e2
  obtain ⟨x1, p1, e1x⟩ := (dec_i64 Try.underlying3) _ _ _ _ _ _ _ _ q1
  obtain ⟨x2, p2, e2x⟩ := (dec_i64 Try.underlying3) _ _ _ _ _ _ _ _ q2
  obtain ⟨x3, p3, e3x⟩ := (dec_i64 Try.underlying3) _ _ _ _ _ _ _ _ q3
  refine ⟨⟨x1, x2, x3⟩, ⟨p1, p2, p3⟩, ?_⟩
  rw [e1]; simp only [List.map_cons, List.map_nil, cellsAll, e1x, e2x, e3x]; rfl
def ok_fact_Fact (x : G.fact_Fact) : Prop := ok_api_Choice x.C ∧ (fun n : Int => -9223372036854775808 ≤ n ∧ n ≤ 9223372036854775807) x.Kind ∧ (fun n : Int => -9223372036854775808 ≤ n ∧ n ≤ 9223372036854775807) x.I ∧ (fun n : Int => -9223372036854775808 ≤ n ∧ n ≤ 9223372036854775807) x.J ∧ (fun l : List Int => (∀ x ∈ l, (fun n : Int => -9223372036854775808 ≤ n ∧ n ≤ 9223372036854775807) x) ∧ l.length ≤ 9223372036854775807) x.Cycle
theorem dec_fact_Fact : Dec Try.prog 38 G.fact_Fact.av ok_fact_Fact := by
  intro H enc w spare held fuel cs d ps h
  obtain ⟨fuel', xs, e1, e2⟩ := dec_agg Try.underlying38 h
  simp only [List.mapM_cons, List.mapM_nil, Option.bind_eq_bind, Option.bind_eq_some_iff, Option.pure_def, Option.some.injEq] at e2
  obtain ⟨y1, q1, _, ⟨y2, q2, _, ⟨y3, q3, _, ⟨y4, q4, _, ⟨y5, q5, _, rfl, rfl⟩, rfl⟩, rfl⟩, rfl⟩, rfl⟩ := e2
  obtain ⟨x1, p1, e1x⟩ := dec_api_Choice _ _ _ _ _ _ _ _ q1
  obtain ⟨x2, p2, e2x⟩ := (dec_i64 Try.underlying3) _ _ _ _ _ _ _ _ q2
  obtain ⟨x3, p3, e3x⟩ := (dec_i64 Try.underlying3) _ _ _ _ _ _ _ _ q3
  obtain ⟨x4, p4, e4x⟩ := (dec_i64 Try.underlying3) _ _ _ _ _ _ _ _ q4
  obtain ⟨x5, p5, e5x⟩ := (dec_slice Try.underlying36 (dec_i64 Try.underlying3)) _ _ _ _ _ _ _ _ q5
  refine ⟨⟨x1, x2, x3, x4, x5⟩, ⟨p1, p2, p3, p4, p5⟩, ?_⟩
  rw [e1]; simp only [List.map_cons, List.map_nil, cellsAll, e1x, e2x, e3x, e4x, e5x]; rfl
end WkStoreAgain
