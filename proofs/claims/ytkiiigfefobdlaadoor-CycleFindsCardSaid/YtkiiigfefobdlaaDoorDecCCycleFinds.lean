/- How the arguments of CycleFinds are read. -/
import Derived.Test.YtkiiigfefobdlaaDoorWkCinquestlaw15CycleFinds
import Derived.Test.YtkiiigfefobdlaaDoorBase2
open Go Go.Av Go.Proofs
namespace WkCycleFinds
def ok_graph_Graph (x : G.graph_Graph) : Prop := (fun n : Int => -9223372036854775808 ≤ n ∧ n ≤ 9223372036854775807) x.N ∧ (fun l : List (BitVec 64) => (∀ x ∈ l, (fun _ : BitVec 64 => True) x) ∧ l.length ≤ 9223372036854775807) x.Rows
theorem dec_graph_Graph : Dec Tryd.prog 24 G.graph_Graph.av ok_graph_Graph := by
  intro H enc w spare held fuel cs d ps h
  obtain ⟨fuel', xs, e1, e2⟩ := dec_agg Tryd.underlying24 h
  simp only [List.mapM_cons, List.mapM_nil, Option.bind_eq_bind, Option.bind_eq_some_iff, Option.pure_def, Option.some.injEq] at e2
  obtain ⟨y1, q1, _, ⟨y2, q2, _, rfl, rfl⟩, rfl⟩ := e2
  obtain ⟨x1, p1, e1x⟩ := (dec_i64 Tryd.underlying3) _ _ _ _ _ _ _ _ q1
  obtain ⟨x2, p2, e2x⟩ := (dec_slice Tryd.underlying22 (dec_u64 Tryd.underlying35)) _ _ _ _ _ _ _ _ q2
  refine ⟨⟨x1, x2⟩, ⟨p1, p2⟩, ?_⟩
  rw [e1]; simp only [List.map_cons, List.map_nil, cellsAll, e1x, e2x]; rfl
end WkCycleFinds
