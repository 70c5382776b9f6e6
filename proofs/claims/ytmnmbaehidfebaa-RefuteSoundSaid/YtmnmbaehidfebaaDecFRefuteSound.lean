/- How the arguments of RefuteSound are read. -/
import Derived.Test.YtmnmbaehidfebaaWkFinquestlaw24RefuteSound
import Derived.Test.YtmnmbaehidfebaaBase1
open Go Go.Av Go.Proofs
namespace WkRefuteSound
def ok_api_Take (x : G.api_Take) : Prop := (fun n : Int => -9223372036854775808 ≤ n ∧ n ≤ 9223372036854775807) x.Key ∧ (fun n : Int => -9223372036854775808 ≤ n ∧ n ≤ 9223372036854775807) x.From
theorem dec_api_Take : Dec Try.prog 70 G.api_Take.av ok_api_Take := by
  intro H enc w spare held fuel cs d ps h
  obtain ⟨fuel', xs, e1, e2⟩ := dec_agg Try.underlying70 h
  simp only [List.mapM_cons, List.mapM_nil, Option.bind_eq_bind, Option.bind_eq_some_iff, Option.pure_def, Option.some.injEq] at e2
  obtain ⟨y1, q1, _, ⟨y2, q2, _, rfl, rfl⟩, rfl⟩ := e2
  obtain ⟨x1, p1, e1x⟩ := (dec_i64 Try.underlying3) _ _ _ _ _ _ _ _ q1
  obtain ⟨x2, p2, e2x⟩ := (dec_i64 Try.underlying3) _ _ _ _ _ _ _ _ q2
  refine ⟨⟨x1, x2⟩, ⟨p1, p2⟩, ?_⟩
  rw [e1]; simp only [List.map_cons, List.map_nil, cellsAll, e1x, e2x]; rfl
def ok_api_Txn (x : G.api_Txn) : Prop := (fun n : Int => -9223372036854775808 ≤ n ∧ n ≤ 9223372036854775807) x.Session ∧ (fun l : List Int => (∀ x ∈ l, (fun n : Int => -9223372036854775808 ≤ n ∧ n ≤ 9223372036854775807) x) ∧ l.length ≤ 9223372036854775807) x.Writes ∧ (fun l : List G.api_Take => (∀ x ∈ l, ok_api_Take x) ∧ l.length ≤ 9223372036854775807) x.Reads
theorem dec_api_Txn : Dec Try.prog 73 G.api_Txn.av ok_api_Txn := by
  intro H enc w spare held fuel cs d ps h
  obtain ⟨fuel', xs, e1, e2⟩ := dec_agg Try.underlying73 h
  simp only [List.mapM_cons, List.mapM_nil, Option.bind_eq_bind, Option.bind_eq_some_iff, Option.pure_def, Option.some.injEq] at e2
  obtain ⟨y1, q1, _, ⟨y2, q2, _, ⟨y3, q3, _, rfl, rfl⟩, rfl⟩, rfl⟩ := e2
  obtain ⟨x1, p1, e1x⟩ := (dec_i64 Try.underlying3) _ _ _ _ _ _ _ _ q1
  obtain ⟨x2, p2, e2x⟩ := (dec_slice Try.underlying44 (dec_i64 Try.underlying3)) _ _ _ _ _ _ _ _ q2
  obtain ⟨x3, p3, e3x⟩ := (dec_slice Try.underlying71 dec_api_Take) _ _ _ _ _ _ _ _ q3
  refine ⟨⟨x1, x2, x3⟩, ⟨p1, p2, p3⟩, ?_⟩
  rw [e1]; simp only [List.map_cons, List.map_nil, cellsAll, e1x, e2x, e3x]; rfl
def ok_api_Hist (x : G.api_Hist) : Prop := (fun l : List G.api_Txn => (∀ x ∈ l, ok_api_Txn x) ∧ l.length ≤ 9223372036854775807) x.Txns
theorem dec_api_Hist : Dec Try.prog 24 G.api_Hist.av ok_api_Hist := by
  intro H enc w spare held fuel cs d ps h
  obtain ⟨fuel', xs, e1, e2⟩ := dec_agg Try.underlying24 h
  simp only [List.mapM_cons, List.mapM_nil, Option.bind_eq_bind, Option.bind_eq_some_iff, Option.pure_def, Option.some.injEq] at e2
  obtain ⟨y1, q1, _, rfl, rfl⟩ := e2
  obtain ⟨x1, p1, e1x⟩ := (dec_slice Try.underlying22 dec_api_Txn) _ _ _ _ _ _ _ _ q1
  refine ⟨⟨x1⟩, p1, ?_⟩
  rw [e1]; simp only [List.map_cons, List.map_nil, cellsAll, e1x]; rfl
def ok_api_Choice (x : G.api_Choice) : Prop := (fun n : Int => -9223372036854775808 ≤ n ∧ n ≤ 9223372036854775807) x.Key ∧ (fun n : Int => -9223372036854775808 ≤ n ∧ n ≤ 9223372036854775807) x.A ∧ (fun n : Int => -9223372036854775808 ≤ n ∧ n ≤ 9223372036854775807) x.B
theorem dec_api_Choice : Dec Try.prog 42 G.api_Choice.av ok_api_Choice := by
  intro H enc w spare held fuel cs d ps h
  obtain ⟨fuel', xs, e1, e2⟩ := dec_agg Try.underlying42 h
  simp only [List.mapM_cons, List.mapM_nil, Option.bind_eq_bind, Option.bind_eq_some_iff, Option.pure_def, Option.some.injEq] at e2
  obtain ⟨y1, q1, _, ⟨y2, q2, _, ⟨y3, q3, _, rfl, rfl⟩, rfl⟩, rfl⟩ := e2
  obtain ⟨x1, p1, e1x⟩ := (dec_i64 Try.underlying3) _ _ _ _ _ _ _ _ q1
  obtain ⟨x2, p2, e2x⟩ := (dec_i64 Try.underlying3) _ _ _ _ _ _ _ _ q2
  obtain ⟨x3, p3, e3x⟩ := (dec_i64 Try.underlying3) _ _ _ _ _ _ _ _ q3
  refine ⟨⟨x1, x2, x3⟩, ⟨p1, p2, p3⟩, ?_⟩
  rw [e1]; simp only [List.map_cons, List.map_nil, cellsAll, e1x, e2x, e3x]; rfl
def ok_refute_Node (x : G.refute_Node) : Prop := ok_api_Choice x.C ∧ (fun l : List Int => (∀ x ∈ l, (fun n : Int => -9223372036854775808 ≤ n ∧ n ≤ 9223372036854775807) x) ∧ l.length ≤ 9223372036854775807) x.Cycle
theorem dec_refute_Node : Dec Try.prog 46 G.refute_Node.av ok_refute_Node := by
  intro H enc w spare held fuel cs d ps h
  obtain ⟨fuel', xs, e1, e2⟩ := dec_agg Try.underlying46 h
  simp only [List.mapM_cons, List.mapM_nil, Option.bind_eq_bind, Option.bind_eq_some_iff, Option.pure_def, Option.some.injEq] at e2
  obtain ⟨y1, q1, _, ⟨y2, q2, _, rfl, rfl⟩, rfl⟩ := e2
  obtain ⟨x1, p1, e1x⟩ := dec_api_Choice _ _ _ _ _ _ _ _ q1
  obtain ⟨x2, p2, e2x⟩ := (dec_slice Try.underlying44 (dec_i64 Try.underlying3)) _ _ _ _ _ _ _ _ q2
  refine ⟨⟨x1, x2⟩, ⟨p1, p2⟩, ?_⟩
  rw [e1]; simp only [List.map_cons, List.map_nil, cellsAll, e1x, e2x]; rfl
def ok_inquestlaw24_Case (x : G.inquestlaw24_Case) : Prop := ok_api_Hist x.H ∧ (fun n : Int => -9223372036854775808 ≤ n ∧ n ≤ 9223372036854775807) x.Level ∧ (fun l : List G.api_Choice => (∀ x ∈ l, ok_api_Choice x) ∧ l.length ≤ 9223372036854775807) x.L ∧ (fun l : List G.refute_Node => (∀ x ∈ l, ok_refute_Node x) ∧ l.length ≤ 9223372036854775807) x.Tree
theorem dec_inquestlaw24_Case : Dec Try.prog 28 G.inquestlaw24_Case.av ok_inquestlaw24_Case := by
  intro H enc w spare held fuel cs d ps h
  obtain ⟨fuel', xs, e1, e2⟩ := dec_agg Try.underlying28 h
  simp only [List.mapM_cons, List.mapM_nil, Option.bind_eq_bind, Option.bind_eq_some_iff, Option.pure_def, Option.some.injEq] at e2
  obtain ⟨y1, q1, _, ⟨y2, q2, _, ⟨y3, q3, _, ⟨y4, q4, _, rfl, rfl⟩, rfl⟩, rfl⟩, rfl⟩ := e2
  obtain ⟨x1, p1, e1x⟩ := dec_api_Hist _ _ _ _ _ _ _ _ q1
  obtain ⟨x2, p2, e2x⟩ := (dec_i64 Try.underlying3) _ _ _ _ _ _ _ _ q2
  obtain ⟨x3, p3, e3x⟩ := (dec_slice Try.underlying25 dec_api_Choice) _ _ _ _ _ _ _ _ q3
  obtain ⟨x4, p4, e4x⟩ := (dec_slice Try.underlying26 dec_refute_Node) _ _ _ _ _ _ _ _ q4
  refine ⟨⟨x1, x2, x3, x4⟩, ⟨p1, p2, p3, p4⟩, ?_⟩
  rw [e1]; simp only [List.map_cons, List.map_nil, cellsAll, e1x, e2x, e3x, e4x]; rfl
end WkRefuteSound
