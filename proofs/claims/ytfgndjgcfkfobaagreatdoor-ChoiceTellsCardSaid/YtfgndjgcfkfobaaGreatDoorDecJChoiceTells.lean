/- How the arguments of ChoiceTells are read. -/
import Derived.Test.YtfgndjgcfkfobaaGreatDoorWkJinquestlaw18ChoiceTells
import Derived.Test.YtfgndjgcfkfobaaGreatDoorBase1
open Go Go.Av Go.Proofs
namespace WkChoiceTells
def ok_api_Take (x : G.api_Take) : Prop := (fun n : Int => -9223372036854775808 ≤ n ∧ n ≤ 9223372036854775807) x.Key ∧ (fun n : Int => -9223372036854775808 ≤ n ∧ n ≤ 9223372036854775807) x.From
theorem dec_api_Take : Dec Tryz.prog 47 G.api_Take.av ok_api_Take := by
  intro H enc w spare held fuel cs d ps h
  obtain ⟨fuel', xs, e1, e2⟩ := dec_agg Tryz.underlying47 h
  simp only [List.mapM_cons, List.mapM_nil, Option.bind_eq_bind, Option.bind_eq_some_iff, Option.pure_def, Option.some.injEq] at e2
  obtain ⟨y1, q1, _, ⟨y2, q2, _, rfl, rfl⟩, rfl⟩ := e2
  obtain ⟨x1, p1, e1x⟩ := (dec_i64 Tryz.underlying3) _ _ _ _ _ _ _ _ q1
  obtain ⟨x2, p2, e2x⟩ := (dec_i64 Tryz.underlying3) _ _ _ _ _ _ _ _ q2
  refine ⟨⟨x1, x2⟩, ⟨p1, p2⟩, ?_⟩
  rw [e1]; simp only [List.map_cons, List.map_nil, cellsAll, e1x, e2x]; rfl
def ok_api_Txn (x : G.api_Txn) : Prop := (fun n : Int => -9223372036854775808 ≤ n ∧ n ≤ 9223372036854775807) x.Session ∧ (fun l : List Int => (∀ x ∈ l, (fun n : Int => -9223372036854775808 ≤ n ∧ n ≤ 9223372036854775807) x) ∧ l.length ≤ 9223372036854775807) x.Writes ∧ (fun l : List G.api_Take => (∀ x ∈ l, ok_api_Take x) ∧ l.length ≤ 9223372036854775807) x.Reads
theorem dec_api_Txn : Dec Tryz.prog 51 G.api_Txn.av ok_api_Txn := by
  intro H enc w spare held fuel cs d ps h
  obtain ⟨fuel', xs, e1, e2⟩ := dec_agg Tryz.underlying51 h
  simp only [List.mapM_cons, List.mapM_nil, Option.bind_eq_bind, Option.bind_eq_some_iff, Option.pure_def, Option.some.injEq] at e2
  obtain ⟨y1, q1, _, ⟨y2, q2, _, ⟨y3, q3, _, rfl, rfl⟩, rfl⟩, rfl⟩ := e2
  obtain ⟨x1, p1, e1x⟩ := (dec_i64 Tryz.underlying3) _ _ _ _ _ _ _ _ q1
  obtain ⟨x2, p2, e2x⟩ := (dec_slice Tryz.underlying49 (dec_i64 Tryz.underlying3)) _ _ _ _ _ _ _ _ q2
  obtain ⟨x3, p3, e3x⟩ := (dec_slice Tryz.underlying48 dec_api_Take) _ _ _ _ _ _ _ _ q3
  refine ⟨⟨x1, x2, x3⟩, ⟨p1, p2, p3⟩, ?_⟩
  rw [e1]; simp only [List.map_cons, List.map_nil, cellsAll, e1x, e2x, e3x]; rfl
def ok_api_Hist (x : G.api_Hist) : Prop := (fun l : List G.api_Txn => (∀ x ∈ l, ok_api_Txn x) ∧ l.length ≤ 9223372036854775807) x.Txns
theorem dec_api_Hist : Dec Tryz.prog 24 G.api_Hist.av ok_api_Hist := by
  intro H enc w spare held fuel cs d ps h
  obtain ⟨fuel', xs, e1, e2⟩ := dec_agg Tryz.underlying24 h
  simp only [List.mapM_cons, List.mapM_nil, Option.bind_eq_bind, Option.bind_eq_some_iff, Option.pure_def, Option.some.injEq] at e2
  obtain ⟨y1, q1, _, rfl, rfl⟩ := e2
  obtain ⟨x1, p1, e1x⟩ := (dec_slice Tryz.underlying22 dec_api_Txn) _ _ _ _ _ _ _ _ q1
  refine ⟨⟨x1⟩, p1, ?_⟩
  rw [e1]; simp only [List.map_cons, List.map_nil, cellsAll, e1x]; rfl
def ok_api_Choice (x : G.api_Choice) : Prop := (fun n : Int => -9223372036854775808 ≤ n ∧ n ≤ 9223372036854775807) x.Key ∧ (fun n : Int => -9223372036854775808 ≤ n ∧ n ≤ 9223372036854775807) x.A ∧ (fun n : Int => -9223372036854775808 ≤ n ∧ n ≤ 9223372036854775807) x.B
theorem dec_api_Choice : Dec Tryz.prog 38 G.api_Choice.av ok_api_Choice := by
  intro H enc w spare held fuel cs d ps h
  obtain ⟨fuel', xs, e1, e2⟩ := dec_agg Tryz.underlying38 h
  simp only [List.mapM_cons, List.mapM_nil, Option.bind_eq_bind, Option.bind_eq_some_iff, Option.pure_def, Option.some.injEq] at e2
  obtain ⟨y1, q1, _, ⟨y2, q2, _, ⟨y3, q3, _, rfl, rfl⟩, rfl⟩, rfl⟩ := e2
  obtain ⟨x1, p1, e1x⟩ := (dec_i64 Tryz.underlying3) _ _ _ _ _ _ _ _ q1
  obtain ⟨x2, p2, e2x⟩ := (dec_i64 Tryz.underlying3) _ _ _ _ _ _ _ _ q2
  obtain ⟨x3, p3, e3x⟩ := (dec_i64 Tryz.underlying3) _ _ _ _ _ _ _ _ q3
  refine ⟨⟨x1, x2, x3⟩, ⟨p1, p2, p3⟩, ?_⟩
  rw [e1]; simp only [List.map_cons, List.map_nil, cellsAll, e1x, e2x, e3x]; rfl
end WkChoiceTells
