/- What the types of the loaded program are. -/
import Derived.Test.YtmmeihaoldinnaaDoorSh
import Derived.Test.YtmmeihaoldinnaaDoorRows
import Derived.KernelRfl
open Go Go.Av Go.Proofs
namespace Wk
def Tab (W0 : World) : Prop := TabAt W0 0
theorem ar69 : arT Tryd.prog 69 = some (64, 1) := by kernel_rfl
theorem bd24 : bdT Tryd.prog 24 = some ([(0, 1), (1, 1)], [.int .i64 0, .slice none 0 0]) := by kernel_rfl
theorem bd26 : bdT Tryd.prog 26 = some ([(0, 1), (1, 1)], [.int .i64 0, .slice none 0 0]) := by kernel_rfl
theorem bd43 : bdT Tryd.prog 43 = some ([(0, 1), (1, 1)], [.int .i64 0, .int .i64 0]) := by kernel_rfl
theorem el22 : elT Tryd.prog 22 = some (45, 1, 8) := by kernel_rfl
theorem el36 : elT Tryd.prog 36 = some (43, 2, 16) := by kernel_rfl
theorem el50 : elT Tryd.prog 50 = some (3, 1, 8) := by kernel_rfl
theorem et22 : ElT Tryd.prog 22 45 1 8 (.int .u64 0) := ⟨by kernel_rfl, by kernel_rfl, rfl, by simp [Value.cells, Value.oneCell'], by decide, by decide⟩
theorem et36 : ElT Tryd.prog 36 43 2 16 (.agg #[.int .i64 0, .int .i64 0]) := ⟨by kernel_rfl, by kernel_rfl, rfl, by simp [Value.cells, Value.oneCell'], by decide, by decide⟩
theorem et50 : ElT Tryd.prog 50 3 1 8 (.int .i64 0) := ⟨by kernel_rfl, by kernel_rfl, rfl, by simp [Value.cells, Value.oneCell'], by decide, by decide⟩
theorem fd24_0 : fdT Tryd.prog 24 0 = some (0, 1, false) := by kernel_rfl
theorem fd24_1 : fdT Tryd.prog 24 1 = some (1, 1, false) := by kernel_rfl
theorem fd26_0 : fdT Tryd.prog 26 0 = some (0, 1, false) := by kernel_rfl
theorem fd26_1 : fdT Tryd.prog 26 1 = some (1, 1, false) := by kernel_rfl
theorem fd43_0 : fdT Tryd.prog 43 0 = some (0, 1, false) := by kernel_rfl
theorem fd43_1 : fdT Tryd.prog 43 1 = some (1, 1, false) := by kernel_rfl
theorem sz22 : szT Tryd.prog 22 = some (1, false) := by kernel_rfl
theorem sz24 : szT Tryd.prog 24 = some (2, true) := by kernel_rfl
theorem sz26 : szT Tryd.prog 26 = some (2, true) := by kernel_rfl
theorem sz3 : szT Tryd.prog 3 = some (1, false) := by kernel_rfl
theorem sz43 : szT Tryd.prog 43 = some (2, true) := by kernel_rfl
theorem sz45 : szT Tryd.prog 45 = some (1, false) := by kernel_rfl
theorem sz5 : szT Tryd.prog 5 = some (1, false) := by kernel_rfl
theorem ze22 : (zrT Tryd.prog 45).isSome = true := by kernel_rfl
theorem ze36 : (zrT Tryd.prog 43).isSome = true := by kernel_rfl
theorem ze50 : (zrT Tryd.prog 3).isSome = true := by kernel_rfl
theorem zr24 : zrT Tryd.prog 24 = some (.agg #[.int .i64 0, .slice none 0 0]) := by kernel_rfl
theorem zr26 : zrT Tryd.prog 26 = some (.agg #[.int .i64 0, .slice none 0 0]) := by kernel_rfl
theorem zr43 : zrT Tryd.prog 43 = some (.agg #[.int .i64 0, .int .i64 0]) := by kernel_rfl
theorem zv22 : zrT Tryd.prog 45 = some (.int .u64 0) := by kernel_rfl
theorem zv50 : zrT Tryd.prog 3 = some (.int .i64 0) := by kernel_rfl
theorem ints_graph_Edge : intsB Tryd.prog 43 2 = true := by kernel_rfl
theorem dec_graph_Edge (x y : G.graph_Edge) : decide ([x.A, x.B] = [y.A, y.B]) = decide (x = y) := by cases x; cases y; simp
theorem t_eq_graph_Edge {W0 : World} {fr : Fr} {H : Heap} {o : Oper} {t' : TypeId} {x y : Operand} {a b : G.graph_Edge} (ho : o.op = .binOp .eql 43 x y t') (hx : evalA fr x = some (G.graph_Edge.av a)) (hy : evalA fr y = some (G.graph_Edge.av b)) : AOp Tryd.prog W0 o fr H (bl (decide (a = b))) H := (t_eq_ints [a.A, a.B] [b.A, b.B] ints_graph_Edge rfl rfl ho hx hy).conv (by rw [dec_graph_Edge])
theorem t_ne_graph_Edge {W0 : World} {fr : Fr} {H : Heap} {o : Oper} {t' : TypeId} {x y : Operand} {a b : G.graph_Edge} (ho : o.op = .binOp .neq 43 x y t') (hx : evalA fr x = some (G.graph_Edge.av a)) (hy : evalA fr y = some (G.graph_Edge.av b)) : AOp Tryd.prog W0 o fr H (bl (!decide (a = b))) H := (t_ne_ints [a.A, a.B] [b.A, b.B] ints_graph_Edge rfl rfl ho hx hy).conv (by rw [dec_graph_Edge])
end Wk
