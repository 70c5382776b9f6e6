/- What the types of the loaded program are. -/
import Derived.Test.YtfgndjgcfkfobaaDoorSh
import Derived.Test.YtfgndjgcfkfobaaDoorRows
import Derived.KernelRfl
import Derived.Test.YtfgndjgcfkfobaaDoorWkKLay
open Go Go.Av Go.Proofs
namespace Wk
def Tab (W0 : World) : Prop := TabAt W0 0
theorem ar121 : arT Tryd.prog 121 = some (64, 1) := by kernel_rfl
theorem bd24 : bdT Tryd.prog 24 = some ([(0, 1)], [.slice none 0 0]) := by kernel_rfl
theorem bd31 : bdT Tryd.prog 31 = some ([(0, 1), (1, 1)], [.int .i64 0, .slice none 0 0]) := by kernel_rfl
theorem bd40 : bdT Tryd.prog 40 = some ([(0, 1), (1, 1), (2, 1)], [.int .i64 0, .slice none 0 0, .slice none 0 0]) := by kernel_rfl
theorem bd54 : bdT Tryd.prog 54 = some ([(0, 1), (1, 1), (2, 1)], [.int .i64 0, .int .i64 0, .int .i64 0]) := by kernel_rfl
theorem bd70 : bdT Tryd.prog 70 = some ([(0, 1), (1, 1)], [.int .i64 0, .int .i64 0]) := by kernel_rfl
theorem bd92 : bdT Tryd.prog 92 = some ([(0, 1), (1, 2)], [.int .i64 0, .int .i64 0, .int .i64 0]) := by kernel_rfl
theorem ca84 : Callable Tryd.prog 84 := callable_of Tryd.func84 (by kernel_rfl) rfl
theorem ca89 : Callable Tryd.prog 89 := callable_of Tryd.func89 (by kernel_rfl) rfl
theorem el115 : elT Tryd.prog 115 = some (31, 2, 32) := by kernel_rfl
theorem el22 : elT Tryd.prog 22 = some (40, 3, 56) := by kernel_rfl
theorem el27 : elT Tryd.prog 27 = some (61, 1, 8) := by kernel_rfl
theorem el37 : elT Tryd.prog 37 = some (3, 1, 8) := by kernel_rfl
theorem el38 : elT Tryd.prog 38 = some (70, 2, 16) := by kernel_rfl
theorem el51 : elT Tryd.prog 51 = some (54, 3, 24) := by kernel_rfl
theorem et37 : ElT Tryd.prog 37 3 1 8 (.int .i64 0) := ⟨by kernel_rfl, by kernel_rfl, rfl, by simp [Value.cells, Value.oneCell'], by decide, by decide⟩
theorem et51 : ElT Tryd.prog 51 54 3 24 (.agg #[.int .i64 0, .int .i64 0, .int .i64 0]) := ⟨by kernel_rfl, by kernel_rfl, rfl, by simp [Value.cells, Value.oneCell'], by decide, by decide⟩
theorem fd24_0 : fdT Tryd.prog 24 0 = some (0, 1, false) := by kernel_rfl
theorem fd31_0 : fdT Tryd.prog 31 0 = some (0, 1, false) := by kernel_rfl
theorem fd31_1 : fdT Tryd.prog 31 1 = some (1, 1, false) := by kernel_rfl
theorem fd40_0 : fdT Tryd.prog 40 0 = some (0, 1, false) := by kernel_rfl
theorem fd40_1 : fdT Tryd.prog 40 1 = some (1, 1, false) := by kernel_rfl
theorem fd40_2 : fdT Tryd.prog 40 2 = some (2, 1, false) := by kernel_rfl
theorem fd54_0 : fdT Tryd.prog 54 0 = some (0, 1, false) := by kernel_rfl
theorem fd54_1 : fdT Tryd.prog 54 1 = some (1, 1, false) := by kernel_rfl
theorem fd54_2 : fdT Tryd.prog 54 2 = some (2, 1, false) := by kernel_rfl
theorem fd70_0 : fdT Tryd.prog 70 0 = some (0, 1, false) := by kernel_rfl
theorem fd70_1 : fdT Tryd.prog 70 1 = some (1, 1, false) := by kernel_rfl
theorem fd92_0 : fdT Tryd.prog 92 0 = some (0, 1, false) := by kernel_rfl
theorem fd92_1 : fdT Tryd.prog 92 1 = some (1, 2, true) := by kernel_rfl
theorem sz22 : szT Tryd.prog 22 = some (1, false) := by kernel_rfl
theorem sz24 : szT Tryd.prog 24 = some (1, true) := by kernel_rfl
theorem sz27 : szT Tryd.prog 27 = some (1, false) := by kernel_rfl
theorem sz3 : szT Tryd.prog 3 = some (1, false) := by kernel_rfl
theorem sz31 : szT Tryd.prog 31 = some (2, true) := by kernel_rfl
theorem sz37 : szT Tryd.prog 37 = some (1, false) := by kernel_rfl
theorem sz38 : szT Tryd.prog 38 = some (1, false) := by kernel_rfl
theorem sz4 : szT Tryd.prog 4 = some (1, false) := by kernel_rfl
theorem sz40 : szT Tryd.prog 40 = some (3, true) := by kernel_rfl
theorem sz5 : szT Tryd.prog 5 = some (1, false) := by kernel_rfl
theorem sz54 : szT Tryd.prog 54 = some (3, true) := by kernel_rfl
theorem sz61 : szT Tryd.prog 61 = some (1, false) := by kernel_rfl
theorem sz70 : szT Tryd.prog 70 = some (2, true) := by kernel_rfl
theorem sz92 : szT Tryd.prog 92 = some (3, true) := by kernel_rfl
theorem sz95 : szT Tryd.prog 95 = some (1, false) := by kernel_rfl
theorem ze115 : (zrT Tryd.prog 31).isSome = true := by kernel_rfl
theorem ze22 : (zrT Tryd.prog 40).isSome = true := by kernel_rfl
theorem ze27 : (zrT Tryd.prog 61).isSome = true := by kernel_rfl
theorem ze37 : (zrT Tryd.prog 3).isSome = true := by kernel_rfl
theorem ze38 : (zrT Tryd.prog 70).isSome = true := by kernel_rfl
theorem ze51 : (zrT Tryd.prog 54).isSome = true := by kernel_rfl
theorem zr24 : zrT Tryd.prog 24 = some (.agg #[.slice none 0 0]) := by kernel_rfl
theorem zr31 : zrT Tryd.prog 31 = some (.agg #[.int .i64 0, .slice none 0 0]) := by kernel_rfl
theorem zr37 : zrT Tryd.prog 37 = some (.slice none 0 0) := by kernel_rfl
theorem zr4 : zrT Tryd.prog 4 = some (.bool false) := by kernel_rfl
theorem zr40 : zrT Tryd.prog 40 = some (.agg #[.int .i64 0, .slice none 0 0, .slice none 0 0]) := by kernel_rfl
theorem zr54 : zrT Tryd.prog 54 = some (.agg #[.int .i64 0, .int .i64 0, .int .i64 0]) := by kernel_rfl
theorem zr70 : zrT Tryd.prog 70 = some (.agg #[.int .i64 0, .int .i64 0]) := by kernel_rfl
theorem zr92 : zrT Tryd.prog 92 = some (.agg #[.int .i64 0, .int .i64 0, .int .i64 0]) := by kernel_rfl
theorem zr95 : zrT Tryd.prog 95 = some (.nilFunc) := by kernel_rfl
theorem zv27 : zrT Tryd.prog 61 = some (.int .u64 0) := by kernel_rfl
theorem zv37 : zrT Tryd.prog 3 = some (.int .i64 0) := by kernel_rfl
theorem ints_api_Choice : intsB Tryd.prog 54 3 = true := by kernel_rfl
theorem dec_api_Choice (x y : G.api_Choice) : decide ([x.Key, x.A, x.B] = [y.Key, y.A, y.B]) = decide (x = y) := by cases x; cases y; simp
theorem t_eq_api_Choice {W0 : Base} {fr : Fr} {H : Heap} {o : Oper} {t' : TypeId} {x y : Operand} {a b : G.api_Choice} (ho : o.op = .binOp .eql 54 x y t') (hx : evalA fr x = some (G.api_Choice.av a)) (hy : evalA fr y = some (G.api_Choice.av b)) : AOp Tryd.prog W0 o fr H (bl (decide (a = b))) H := (t_eq_ints [a.Key, a.A, a.B] [b.Key, b.A, b.B] ints_api_Choice rfl rfl ho hx hy).conv (by rw [dec_api_Choice])
theorem t_ne_api_Choice {W0 : Base} {fr : Fr} {H : Heap} {o : Oper} {t' : TypeId} {x y : Operand} {a b : G.api_Choice} (ho : o.op = .binOp .neq 54 x y t') (hx : evalA fr x = some (G.api_Choice.av a)) (hy : evalA fr y = some (G.api_Choice.av b)) : AOp Tryd.prog W0 o fr H (bl (!decide (a = b))) H := (t_ne_ints [a.Key, a.A, a.B] [b.Key, b.A, b.B] ints_api_Choice rfl rfl ho hx hy).conv (by rw [dec_api_Choice])
theorem ints_api_Take : intsB Tryd.prog 70 2 = true := by kernel_rfl
theorem dec_api_Take (x y : G.api_Take) : decide ([x.Key, x.From] = [y.Key, y.From]) = decide (x = y) := by cases x; cases y; simp
theorem t_eq_api_Take {W0 : Base} {fr : Fr} {H : Heap} {o : Oper} {t' : TypeId} {x y : Operand} {a b : G.api_Take} (ho : o.op = .binOp .eql 70 x y t') (hx : evalA fr x = some (G.api_Take.av a)) (hy : evalA fr y = some (G.api_Take.av b)) : AOp Tryd.prog W0 o fr H (bl (decide (a = b))) H := (t_eq_ints [a.Key, a.From] [b.Key, b.From] ints_api_Take rfl rfl ho hx hy).conv (by rw [dec_api_Take])
end Wk
