/- How the arguments of CertBack are read. -/
import Derived.Test.YtleihjegenjacaaGreatWkYinquestlaw27CertBack
import Derived.Test.YtleihjegenjacaaGreatBase2
open Go Go.Av Go.Proofs
namespace WkCertBack
def ok_si_Row (x : G.si_Row) : Prop := (fun n : Int => -9223372036854775808 ≤ n ∧ n ≤ 9223372036854775807) x.Key ∧ (fun l : List Int => (∀ x ∈ l, (fun n : Int => -9223372036854775808 ≤ n ∧ n ≤ 9223372036854775807) x) ∧ l.length ≤ 9223372036854775807) x.L
theorem dec_si_Row : Dec Tryz.prog 65 G.si_Row.av ok_si_Row := by
  intro H enc w spare held fuel cs d ps h
  obtain ⟨fuel', xs, e1, e2⟩ := dec_agg Tryz.underlying65 h
  simp only [List.mapM_cons, List.mapM_nil, Option.bind_eq_bind, Option.bind_eq_some_iff, Option.pure_def, Option.some.injEq] at e2
  obtain ⟨y1, q1, _, ⟨y2, q2, _, rfl, rfl⟩, rfl⟩ := e2
  obtain ⟨x1, p1, e1x⟩ := (dec_i64 Tryz.underlying3) _ _ _ _ _ _ _ _ q1
  obtain ⟨x2, p2, e2x⟩ := (dec_slice Tryz.underlying25 (dec_i64 Tryz.underlying3)) _ _ _ _ _ _ _ _ q2
  refine ⟨⟨x1, x2⟩, ⟨p1, p2⟩, ?_⟩
  rw [e1]; simp only [List.map_cons, List.map_nil, cellsAll, e1x, e2x]; rfl
def ok_api_Choice (x : G.api_Choice) : Prop := (fun n : Int => -9223372036854775808 ≤ n ∧ n ≤ 9223372036854775807) x.Key ∧ (fun n : Int => -9223372036854775808 ≤ n ∧ n ≤ 9223372036854775807) x.A ∧ (fun n : Int => -9223372036854775808 ≤ n ∧ n ≤ 9223372036854775807) x.B
theorem dec_api_Choice : Dec Tryz.prog 67 G.api_Choice.av ok_api_Choice := by
  intro H enc w spare held fuel cs d ps h
  obtain ⟨fuel', xs, e1, e2⟩ := dec_agg Tryz.underlying67 h
  simp only [List.mapM_cons, List.mapM_nil, Option.bind_eq_bind, Option.bind_eq_some_iff, Option.pure_def, Option.some.injEq] at e2
  obtain ⟨y1, q1, _, ⟨y2, q2, _, ⟨y3, q3, _, rfl, rfl⟩, rfl⟩, rfl⟩ := e2
  obtain ⟨x1, p1, e1x⟩ := (dec_i64 Tryz.underlying3) _ _ _ _ _ _ _ _ q1
  obtain ⟨x2, p2, e2x⟩ := (dec_i64 Tryz.underlying3) _ _ _ _ _ _ _ _ q2
  obtain ⟨x3, p3, e3x⟩ := (dec_i64 Tryz.underlying3) _ _ _ _ _ _ _ _ q3
  refine ⟨⟨x1, x2, x3⟩, ⟨p1, p2, p3⟩, ?_⟩
  rw [e1]; simp only [List.map_cons, List.map_nil, cellsAll, e1x, e2x, e3x]; rfl
def ok_refute_Node (x : G.refute_Node) : Prop := ok_api_Choice x.C ∧ (fun l : List Int => (∀ x ∈ l, (fun n : Int => -9223372036854775808 ≤ n ∧ n ≤ 9223372036854775807) x) ∧ l.length ≤ 9223372036854775807) x.Cycle
theorem dec_refute_Node : Dec Tryz.prog 69 G.refute_Node.av ok_refute_Node := by
  intro H enc w spare held fuel cs d ps h
  obtain ⟨fuel', xs, e1, e2⟩ := dec_agg Tryz.underlying69 h
  simp only [List.mapM_cons, List.mapM_nil, Option.bind_eq_bind, Option.bind_eq_some_iff, Option.pure_def, Option.some.injEq] at e2
  obtain ⟨y1, q1, _, ⟨y2, q2, _, rfl, rfl⟩, rfl⟩ := e2
  obtain ⟨x1, p1, e1x⟩ := dec_api_Choice _ _ _ _ _ _ _ _ q1
  obtain ⟨x2, p2, e2x⟩ := (dec_slice Tryz.underlying25 (dec_i64 Tryz.underlying3)) _ _ _ _ _ _ _ _ q2
  refine ⟨⟨x1, x2⟩, ⟨p1, p2⟩, ?_⟩
  rw [e1]; simp only [List.map_cons, List.map_nil, cellsAll, e1x, e2x]; rfl
def ok_cert_Cert (x : G.cert_Cert) : Prop := (fun n : Int => -9223372036854775808 ≤ n ∧ n ≤ 9223372036854775807) x.Level ∧ (fun _ : Bool => True) x.Yes ∧ (fun l : List Int => (∀ x ∈ l, (fun n : Int => -9223372036854775808 ≤ n ∧ n ≤ 9223372036854775807) x) ∧ l.length ≤ 9223372036854775807) x.Order ∧ (fun l : List G.si_Row => (∀ x ∈ l, ok_si_Row x) ∧ l.length ≤ 9223372036854775807) x.Rows ∧ (fun l : List G.refute_Node => (∀ x ∈ l, ok_refute_Node x) ∧ l.length ≤ 9223372036854775807) x.Tree
theorem dec_cert_Cert : Dec Tryz.prog 29 G.cert_Cert.av ok_cert_Cert := by
  intro H enc w spare held fuel cs d ps h
  obtain ⟨fuel', xs, e1, e2⟩ := dec_agg Tryz.underlying29 h
  simp only [List.mapM_cons, List.mapM_nil, Option.bind_eq_bind, Option.bind_eq_some_iff, Option.pure_def, Option.some.injEq] at e2
  obtain ⟨y1, q1, _, ⟨y2, q2, _, ⟨y3, q3, _, ⟨y4, q4, _, ⟨y5, q5, _, rfl, rfl⟩, rfl⟩, rfl⟩, rfl⟩, rfl⟩ := e2
  obtain ⟨x1, p1, e1x⟩ := (dec_i64 Tryz.underlying3) _ _ _ _ _ _ _ _ q1
  obtain ⟨x2, p2, e2x⟩ := (dec_bool Tryz.underlying4) _ _ _ _ _ _ _ _ q2
  obtain ⟨x3, p3, e3x⟩ := (dec_slice Tryz.underlying25 (dec_i64 Tryz.underlying3)) _ _ _ _ _ _ _ _ q3
  obtain ⟨x4, p4, e4x⟩ := (dec_slice Tryz.underlying26 dec_si_Row) _ _ _ _ _ _ _ _ q4
  obtain ⟨x5, p5, e5x⟩ := (dec_slice Tryz.underlying27 dec_refute_Node) _ _ _ _ _ _ _ _ q5
  refine ⟨⟨x1, x2, x3, x4, x5⟩, ⟨p1, p2, p3, p4, p5⟩, ?_⟩
  rw [e1]; simp only [List.map_cons, List.map_nil, cellsAll, e1x, e2x, e3x, e4x, e5x]; rfl
end WkCertBack
