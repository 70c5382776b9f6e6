/- What the types of the loaded program are. -/
import Derived.Test.YtnbabpgakdefjaaSh
import Derived.Test.YtnbabpgakdefjaaRows
import Derived.KernelRfl
open Go Go.Av Go.Proofs
namespace Wk
def Tab (_ : World) : Prop := True
theorem bd120 : bdT Try.prog 120 = some ([(0, 1), (1, 1)], [.int .i64 0, .slice none 0 0]) := by kernel_rfl
theorem bd124 : bdT Try.prog 124 = some ([], []) := by kernel_rfl
theorem bd125 : bdT Try.prog 125 = some ([], []) := by kernel_rfl
theorem bd24 : bdT Try.prog 24 = some ([(0, 1)], [.slice none 0 0]) := by kernel_rfl
theorem bd27 : bdT Try.prog 27 = some ([(0, 1), (1, 1), (2, 1)], [.int .i64 0, .int .i64 0, .int .i64 0]) := by kernel_rfl
theorem bd30 : bdT Try.prog 30 = some ([(0, 3), (3, 1), (4, 1), (5, 1), (6, 1)], [.int .i64 0, .int .i64 0, .int .i64 0, .int .i64 0, .int .i64 0, .int .i64 0, .slice none 0 0]) := by kernel_rfl
theorem bd71 : bdT Try.prog 71 = some ([(0, 1), (1, 1), (2, 1)], [.int .i64 0, .slice none 0 0, .slice none 0 0]) := by kernel_rfl
theorem bd73 : bdT Try.prog 73 = some ([(0, 1), (1, 1)], [.int .i64 0, .int .i64 0]) := by kernel_rfl
theorem bd79 : bdT Try.prog 79 = some ([(0, 1), (1, 1)], [.int .i64 0, .nilFunc]) := by kernel_rfl
theorem bd81 : bdT Try.prog 81 = some ([(0, 1), (1, 1), (2, 1), (3, 7)], [.slice none 0 0, .int .i64 0, .slice none 0 0, .int .i64 0, .int .i64 0, .int .i64 0, .int .i64 0, .int .i64 0, .int .i64 0, .slice none 0 0]) := by kernel_rfl
theorem ca82 : Callable Try.prog 82 := callable_of Try.func82 (by kernel_rfl) rfl
theorem el118 : elT Try.prog 118 = some (139, 1, 8) := by kernel_rfl
theorem el126 : elT Try.prog 126 = some (27, 3, 24) := by kernel_rfl
theorem el133 : elT Try.prog 133 = some (136, 1, 16) := by kernel_rfl
theorem el143 : elT Try.prog 143 = some (27, 3, 24) := by kernel_rfl
theorem el22 : elT Try.prog 22 = some (71, 3, 56) := by kernel_rfl
theorem el25 : elT Try.prog 25 = some (30, 7, 72) := by kernel_rfl
theorem el28 : elT Try.prog 28 = some (3, 1, 8) := by kernel_rfl
theorem el43 : elT Try.prog 43 = some (27, 3, 24) := by kernel_rfl
theorem el69 : elT Try.prog 69 = some (73, 2, 16) := by kernel_rfl
theorem el75 : elT Try.prog 75 = some (79, 2, 16) := by kernel_rfl
theorem et118 : ElT Try.prog 118 139 1 8 (.int .u64 0) := ⟨by kernel_rfl, by kernel_rfl, rfl, by simp [Value.cells, Value.oneCell'], by decide, by decide⟩
theorem et28 : ElT Try.prog 28 3 1 8 (.int .i64 0) := ⟨by kernel_rfl, by kernel_rfl, rfl, by simp [Value.cells, Value.oneCell'], by decide, by decide⟩
theorem et43 : ElT Try.prog 43 27 3 24 (.agg #[.int .i64 0, .int .i64 0, .int .i64 0]) := ⟨by kernel_rfl, by kernel_rfl, rfl, by simp [Value.cells, Value.oneCell'], by decide, by decide⟩
theorem fd120_0 : fdT Try.prog 120 0 = some (0, 1, false) := by kernel_rfl
theorem fd120_1 : fdT Try.prog 120 1 = some (1, 1, false) := by kernel_rfl
theorem fd24_0 : fdT Try.prog 24 0 = some (0, 1, false) := by kernel_rfl
theorem fd27_0 : fdT Try.prog 27 0 = some (0, 1, false) := by kernel_rfl
theorem fd27_1 : fdT Try.prog 27 1 = some (1, 1, false) := by kernel_rfl
theorem fd27_2 : fdT Try.prog 27 2 = some (2, 1, false) := by kernel_rfl
theorem fd30_0 : fdT Try.prog 30 0 = some (0, 3, true) := by kernel_rfl
theorem fd30_1 : fdT Try.prog 30 1 = some (3, 1, false) := by kernel_rfl
theorem fd30_2 : fdT Try.prog 30 2 = some (4, 1, false) := by kernel_rfl
theorem fd30_3 : fdT Try.prog 30 3 = some (5, 1, false) := by kernel_rfl
theorem fd30_4 : fdT Try.prog 30 4 = some (6, 1, false) := by kernel_rfl
theorem fd32_0 : fdT Try.prog 32 0 = some (0, 1, true) := by kernel_rfl
theorem fd32_1 : fdT Try.prog 32 1 = some (1, 1, false) := by kernel_rfl
theorem fd32_2 : fdT Try.prog 32 2 = some (2, 1, false) := by kernel_rfl
theorem fd32_3 : fdT Try.prog 32 3 = some (3, 7, true) := by kernel_rfl
theorem fd71_0 : fdT Try.prog 71 0 = some (0, 1, false) := by kernel_rfl
theorem fd71_1 : fdT Try.prog 71 1 = some (1, 1, false) := by kernel_rfl
theorem fd71_2 : fdT Try.prog 71 2 = some (2, 1, false) := by kernel_rfl
theorem fd73_0 : fdT Try.prog 73 0 = some (0, 1, false) := by kernel_rfl
theorem fd73_1 : fdT Try.prog 73 1 = some (1, 1, false) := by kernel_rfl
theorem fd79_0 : fdT Try.prog 79 0 = some (0, 1, false) := by kernel_rfl
theorem fd79_1 : fdT Try.prog 79 1 = some (1, 1, false) := by kernel_rfl
theorem fd81_0 : fdT Try.prog 81 0 = some (0, 1, true) := by kernel_rfl
theorem fd81_1 : fdT Try.prog 81 1 = some (1, 1, false) := by kernel_rfl
theorem fd81_2 : fdT Try.prog 81 2 = some (2, 1, false) := by kernel_rfl
theorem fd81_3 : fdT Try.prog 81 3 = some (3, 7, true) := by kernel_rfl
theorem mt124_123 : ∀ v w, (method (Try.prog.types.size + Made.depth) 124 v "inquest/edge.is").run Try.prog w = .ok (123, v) w := by intro v w; kernel_rfl
theorem mt125_124 : ∀ v w, (method (Try.prog.types.size + Made.depth) 125 v "inquest/edge.is").run Try.prog w = .ok (124, v) w := by intro v w; kernel_rfl
theorem mt126_128 : ∀ v w, (method (Try.prog.types.size + Made.depth) 126 v "inquest/edge.is").run Try.prog w = .ok (128, v) w := by intro v w; kernel_rfl
theorem mt143_133 : ∀ v w, (method (Try.prog.types.size + Made.depth) 143 v "inquest/edge.is").run Try.prog w = .ok (133, v) w := by intro v w; kernel_rfl
theorem sz118 : szT Try.prog 118 = some (1, false) := by kernel_rfl
theorem sz120 : szT Try.prog 120 = some (2, true) := by kernel_rfl
theorem sz136 : szT Try.prog 136 = some (1, false) := by kernel_rfl
theorem sz139 : szT Try.prog 139 = some (1, false) := by kernel_rfl
theorem sz143 : szT Try.prog 143 = some (1, false) := by kernel_rfl
theorem sz22 : szT Try.prog 22 = some (1, false) := by kernel_rfl
theorem sz24 : szT Try.prog 24 = some (1, true) := by kernel_rfl
theorem sz25 : szT Try.prog 25 = some (1, false) := by kernel_rfl
theorem sz27 : szT Try.prog 27 = some (3, true) := by kernel_rfl
theorem sz28 : szT Try.prog 28 = some (1, false) := by kernel_rfl
theorem sz3 : szT Try.prog 3 = some (1, false) := by kernel_rfl
theorem sz30 : szT Try.prog 30 = some (7, true) := by kernel_rfl
theorem sz32 : szT Try.prog 32 = some (10, true) := by kernel_rfl
theorem sz4 : szT Try.prog 4 = some (1, false) := by kernel_rfl
theorem sz69 : szT Try.prog 69 = some (1, false) := by kernel_rfl
theorem sz71 : szT Try.prog 71 = some (3, true) := by kernel_rfl
theorem sz73 : szT Try.prog 73 = some (2, true) := by kernel_rfl
theorem sz77 : szT Try.prog 77 = some (1, false) := by kernel_rfl
theorem sz79 : szT Try.prog 79 = some (2, true) := by kernel_rfl
theorem ze118 : (zrT Try.prog 139).isSome = true := by kernel_rfl
theorem ze133 : (zrT Try.prog 136).isSome = true := by kernel_rfl
theorem ze22 : (zrT Try.prog 71).isSome = true := by kernel_rfl
theorem ze25 : (zrT Try.prog 30).isSome = true := by kernel_rfl
theorem ze28 : (zrT Try.prog 3).isSome = true := by kernel_rfl
theorem ze43 : (zrT Try.prog 27).isSome = true := by kernel_rfl
theorem ze69 : (zrT Try.prog 73).isSome = true := by kernel_rfl
theorem ze75 : (zrT Try.prog 79).isSome = true := by kernel_rfl
theorem zr120 : zrT Try.prog 120 = some (.agg #[.int .i64 0, .slice none 0 0]) := by kernel_rfl
theorem zr24 : zrT Try.prog 24 = some (.agg #[.slice none 0 0]) := by kernel_rfl
theorem zr27 : zrT Try.prog 27 = some (.agg #[.int .i64 0, .int .i64 0, .int .i64 0]) := by kernel_rfl
theorem zr30 : zrT Try.prog 30 = some (.agg #[.int .i64 0, .int .i64 0, .int .i64 0, .int .i64 0, .int .i64 0, .int .i64 0, .slice none 0 0]) := by kernel_rfl
theorem zr4 : zrT Try.prog 4 = some (.bool false) := by kernel_rfl
theorem zr71 : zrT Try.prog 71 = some (.agg #[.int .i64 0, .slice none 0 0, .slice none 0 0]) := by kernel_rfl
theorem zr73 : zrT Try.prog 73 = some (.agg #[.int .i64 0, .int .i64 0]) := by kernel_rfl
theorem zr79 : zrT Try.prog 79 = some (.agg #[.int .i64 0, .nilFunc]) := by kernel_rfl
theorem ints_api_Choice : intsB Try.prog 27 3 = true := by kernel_rfl
theorem dec_api_Choice (x y : G.api_Choice) : decide ([x.Key, x.A, x.B] = [y.Key, y.A, y.B]) = decide (x = y) := by cases x; cases y; simp
theorem t_eq_api_Choice {W0 : Base} {fr : Fr} {H : Heap} {o : Oper} {t' : TypeId} {x y : Operand} {a b : G.api_Choice} (ho : o.op = .binOp .eql 27 x y t') (hx : evalA fr x = some (G.api_Choice.av a)) (hy : evalA fr y = some (G.api_Choice.av b)) : AOp Try.prog W0 o fr H (bl (decide (a = b))) H := (t_eq_ints [a.Key, a.A, a.B] [b.Key, b.A, b.B] ints_api_Choice rfl rfl ho hx hy).conv (by rw [dec_api_Choice])
theorem ints_api_Take : intsB Try.prog 73 2 = true := by kernel_rfl
theorem dec_api_Take (x y : G.api_Take) : decide ([x.Key, x.From] = [y.Key, y.From]) = decide (x = y) := by cases x; cases y; simp
theorem t_eq_api_Take {W0 : Base} {fr : Fr} {H : Heap} {o : Oper} {t' : TypeId} {x y : Operand} {a b : G.api_Take} (ho : o.op = .binOp .eql 73 x y t') (hx : evalA fr x = some (G.api_Take.av a)) (hy : evalA fr y = some (G.api_Take.av b)) : AOp Try.prog W0 o fr H (bl (decide (a = b))) H := (t_eq_ints [a.Key, a.From] [b.Key, b.From] ints_api_Take rfl rfl ho hx hy).conv (by rw [dec_api_Take])
end Wk
