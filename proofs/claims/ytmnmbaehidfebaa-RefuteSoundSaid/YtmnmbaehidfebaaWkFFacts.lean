/- What the types of the loaded program are. -/
import Derived.Test.YtmnmbaehidfebaaSh
import Derived.Test.YtmnmbaehidfebaaRows
import Derived.KernelRfl
open Go Go.Av Go.Proofs
namespace Wk
def Tab (_ : World) : Prop := True
theorem bd101 : bdT Try.prog 101 = some ([], []) := by kernel_rfl
theorem bd119 : bdT Try.prog 119 = some ([(0, 1), (1, 1)], [.int .i64 0, .slice none 0 0]) := by kernel_rfl
theorem bd129 : bdT Try.prog 129 = some ([], []) := by kernel_rfl
theorem bd130 : bdT Try.prog 130 = some ([], []) := by kernel_rfl
theorem bd24 : bdT Try.prog 24 = some ([(0, 1)], [.slice none 0 0]) := by kernel_rfl
theorem bd42 : bdT Try.prog 42 = some ([(0, 1), (1, 1), (2, 1)], [.int .i64 0, .int .i64 0, .int .i64 0]) := by kernel_rfl
theorem bd46 : bdT Try.prog 46 = some ([(0, 3), (3, 1)], [.int .i64 0, .int .i64 0, .int .i64 0, .slice none 0 0]) := by kernel_rfl
theorem bd70 : bdT Try.prog 70 = some ([(0, 1), (1, 1)], [.int .i64 0, .int .i64 0]) := by kernel_rfl
theorem bd73 : bdT Try.prog 73 = some ([(0, 1), (1, 1), (2, 1)], [.int .i64 0, .slice none 0 0, .slice none 0 0]) := by kernel_rfl
theorem bd77 : bdT Try.prog 77 = some ([(0, 1)], [.slice none 0 0]) := by kernel_rfl
theorem ca75 : Callable Try.prog 75 := callable_of Try.func75 (by kernel_rfl) rfl
theorem el117 : elT Try.prog 117 = some (135, 1, 8) := by kernel_rfl
theorem el131 : elT Try.prog 131 = some (42, 3, 24) := by kernel_rfl
theorem el133 : elT Try.prog 133 = some (42, 3, 24) := by kernel_rfl
theorem el139 : elT Try.prog 139 = some (142, 1, 16) := by kernel_rfl
theorem el22 : elT Try.prog 22 = some (73, 3, 56) := by kernel_rfl
theorem el25 : elT Try.prog 25 = some (42, 3, 24) := by kernel_rfl
theorem el26 : elT Try.prog 26 = some (46, 4, 48) := by kernel_rfl
theorem el44 : elT Try.prog 44 = some (3, 1, 8) := by kernel_rfl
theorem el71 : elT Try.prog 71 = some (70, 2, 16) := by kernel_rfl
theorem et117 : ElT Try.prog 117 135 1 8 (.int .u64 0) := ⟨by kernel_rfl, by kernel_rfl, rfl, by simp [Value.cells, Value.oneCell'], by decide, by decide⟩
theorem et25 : ElT Try.prog 25 42 3 24 (.agg #[.int .i64 0, .int .i64 0, .int .i64 0]) := ⟨by kernel_rfl, by kernel_rfl, rfl, by simp [Value.cells, Value.oneCell'], by decide, by decide⟩
theorem et44 : ElT Try.prog 44 3 1 8 (.int .i64 0) := ⟨by kernel_rfl, by kernel_rfl, rfl, by simp [Value.cells, Value.oneCell'], by decide, by decide⟩
theorem fd119_0 : fdT Try.prog 119 0 = some (0, 1, false) := by kernel_rfl
theorem fd119_1 : fdT Try.prog 119 1 = some (1, 1, false) := by kernel_rfl
theorem fd24_0 : fdT Try.prog 24 0 = some (0, 1, false) := by kernel_rfl
theorem fd28_0 : fdT Try.prog 28 0 = some (0, 1, true) := by kernel_rfl
theorem fd28_1 : fdT Try.prog 28 1 = some (1, 1, false) := by kernel_rfl
theorem fd28_2 : fdT Try.prog 28 2 = some (2, 1, false) := by kernel_rfl
theorem fd28_3 : fdT Try.prog 28 3 = some (3, 1, false) := by kernel_rfl
theorem fd42_0 : fdT Try.prog 42 0 = some (0, 1, false) := by kernel_rfl
theorem fd42_1 : fdT Try.prog 42 1 = some (1, 1, false) := by kernel_rfl
theorem fd42_2 : fdT Try.prog 42 2 = some (2, 1, false) := by kernel_rfl
theorem fd46_0 : fdT Try.prog 46 0 = some (0, 3, true) := by kernel_rfl
theorem fd46_1 : fdT Try.prog 46 1 = some (3, 1, false) := by kernel_rfl
theorem fd70_0 : fdT Try.prog 70 0 = some (0, 1, false) := by kernel_rfl
theorem fd70_1 : fdT Try.prog 70 1 = some (1, 1, false) := by kernel_rfl
theorem fd73_0 : fdT Try.prog 73 0 = some (0, 1, false) := by kernel_rfl
theorem fd73_1 : fdT Try.prog 73 1 = some (1, 1, false) := by kernel_rfl
theorem fd73_2 : fdT Try.prog 73 2 = some (2, 1, false) := by kernel_rfl
theorem fd77_0 : fdT Try.prog 77 0 = some (0, 1, false) := by kernel_rfl
theorem mt129_123 : ∀ v w, (method (Try.prog.types.size + Made.depth) 129 v "inquest/edge.is").run Try.prog w = .ok (123, v) w := by intro v w; kernel_rfl
theorem mt130_124 : ∀ v w, (method (Try.prog.types.size + Made.depth) 130 v "inquest/edge.is").run Try.prog w = .ok (124, v) w := by intro v w; kernel_rfl
theorem mt131_128 : ∀ v w, (method (Try.prog.types.size + Made.depth) 131 v "inquest/edge.is").run Try.prog w = .ok (128, v) w := by intro v w; kernel_rfl
theorem mt133_133 : ∀ v w, (method (Try.prog.types.size + Made.depth) 133 v "inquest/edge.is").run Try.prog w = .ok (133, v) w := by intro v w; kernel_rfl
theorem sz117 : szT Try.prog 117 = some (1, false) := by kernel_rfl
theorem sz119 : szT Try.prog 119 = some (2, true) := by kernel_rfl
theorem sz133 : szT Try.prog 133 = some (1, false) := by kernel_rfl
theorem sz135 : szT Try.prog 135 = some (1, false) := by kernel_rfl
theorem sz142 : szT Try.prog 142 = some (1, false) := by kernel_rfl
theorem sz22 : szT Try.prog 22 = some (1, false) := by kernel_rfl
theorem sz24 : szT Try.prog 24 = some (1, true) := by kernel_rfl
theorem sz25 : szT Try.prog 25 = some (1, false) := by kernel_rfl
theorem sz26 : szT Try.prog 26 = some (1, false) := by kernel_rfl
theorem sz28 : szT Try.prog 28 = some (4, true) := by kernel_rfl
theorem sz3 : szT Try.prog 3 = some (1, false) := by kernel_rfl
theorem sz4 : szT Try.prog 4 = some (1, false) := by kernel_rfl
theorem sz42 : szT Try.prog 42 = some (3, true) := by kernel_rfl
theorem sz44 : szT Try.prog 44 = some (1, false) := by kernel_rfl
theorem sz46 : szT Try.prog 46 = some (4, true) := by kernel_rfl
theorem sz70 : szT Try.prog 70 = some (2, true) := by kernel_rfl
theorem sz71 : szT Try.prog 71 = some (1, false) := by kernel_rfl
theorem sz73 : szT Try.prog 73 = some (3, true) := by kernel_rfl
theorem ze117 : (zrT Try.prog 135).isSome = true := by kernel_rfl
theorem ze139 : (zrT Try.prog 142).isSome = true := by kernel_rfl
theorem ze22 : (zrT Try.prog 73).isSome = true := by kernel_rfl
theorem ze25 : (zrT Try.prog 42).isSome = true := by kernel_rfl
theorem ze26 : (zrT Try.prog 46).isSome = true := by kernel_rfl
theorem ze44 : (zrT Try.prog 3).isSome = true := by kernel_rfl
theorem ze71 : (zrT Try.prog 70).isSome = true := by kernel_rfl
theorem zr119 : zrT Try.prog 119 = some (.agg #[.int .i64 0, .slice none 0 0]) := by kernel_rfl
theorem zr24 : zrT Try.prog 24 = some (.agg #[.slice none 0 0]) := by kernel_rfl
theorem zr3 : zrT Try.prog 3 = some (.int .i64 0) := by kernel_rfl
theorem zr4 : zrT Try.prog 4 = some (.bool false) := by kernel_rfl
theorem zr42 : zrT Try.prog 42 = some (.agg #[.int .i64 0, .int .i64 0, .int .i64 0]) := by kernel_rfl
theorem zr46 : zrT Try.prog 46 = some (.agg #[.int .i64 0, .int .i64 0, .int .i64 0, .slice none 0 0]) := by kernel_rfl
theorem zr70 : zrT Try.prog 70 = some (.agg #[.int .i64 0, .int .i64 0]) := by kernel_rfl
theorem zr73 : zrT Try.prog 73 = some (.agg #[.int .i64 0, .slice none 0 0, .slice none 0 0]) := by kernel_rfl
theorem ints_api_Choice : intsB Try.prog 42 3 = true := by kernel_rfl
theorem dec_api_Choice (x y : G.api_Choice) : decide ([x.Key, x.A, x.B] = [y.Key, y.A, y.B]) = decide (x = y) := by cases x; cases y; simp
theorem t_eq_api_Choice {W0 : Base} {fr : Fr} {H : Heap} {o : Oper} {t' : TypeId} {x y : Operand} {a b : G.api_Choice} (ho : o.op = .binOp .eql 42 x y t') (hx : evalA fr x = some (G.api_Choice.av a)) (hy : evalA fr y = some (G.api_Choice.av b)) : AOp Try.prog W0 o fr H (bl (decide (a = b))) H := (t_eq_ints [a.Key, a.A, a.B] [b.Key, b.A, b.B] ints_api_Choice rfl rfl ho hx hy).conv (by rw [dec_api_Choice])
theorem dec_api_Take (x y : G.api_Take) : decide ([x.Key, x.From] = [y.Key, y.From]) = decide (x = y) := by cases x; cases y; simp
end Wk
