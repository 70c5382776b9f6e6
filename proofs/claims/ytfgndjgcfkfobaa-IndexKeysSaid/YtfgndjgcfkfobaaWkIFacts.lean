/- What the types of the loaded program are. -/
import Derived.Test.YtfgndjgcfkfobaaSh
import Derived.Test.YtfgndjgcfkfobaaRows
import Derived.KernelRfl
import Derived.Test.YtfgndjgcfkfobaaWkILay
open Go Go.Av Go.Proofs
namespace Wk
def Tab (_ : World) : Prop := True
theorem bd24 : bdT Try.prog 24 = some ([(0, 1)], [.slice none 0 0]) := by kernel_rfl
theorem bd40 : bdT Try.prog 40 = some ([(0, 1), (1, 1), (2, 1)], [.int .i64 0, .int .i64 0, .int .i64 0]) := by kernel_rfl
theorem bd44 : bdT Try.prog 44 = some ([(0, 1), (1, 1), (2, 1)], [.int .i64 0, .slice none 0 0, .slice none 0 0]) := by kernel_rfl
theorem bd46 : bdT Try.prog 46 = some ([(0, 1), (1, 1)], [.int .i64 0, .int .i64 0]) := by kernel_rfl
theorem bd51 : bdT Try.prog 51 = some ([(0, 1), (1, 2)], [.int .i64 0, .int .i64 0, .int .i64 0]) := by kernel_rfl
theorem ca29 : Callable Try.prog 29 := callable_of Try.func29 (by kernel_rfl) rfl
theorem ca34 : Callable Try.prog 34 := callable_of Try.func34 (by kernel_rfl) rfl
theorem el22 : elT Try.prog 22 = some (44, 3, 56) := by kernel_rfl
theorem el30 : elT Try.prog 30 = some (3, 1, 8) := by kernel_rfl
theorem el35 : elT Try.prog 35 = some (40, 3, 24) := by kernel_rfl
theorem el42 : elT Try.prog 42 = some (46, 2, 16) := by kernel_rfl
theorem et30 : ElT Try.prog 30 3 1 8 (.int .i64 0) := ⟨by kernel_rfl, by kernel_rfl, rfl, by simp [Value.cells, Value.oneCell'], by decide, by decide⟩
theorem et35 : ElT Try.prog 35 40 3 24 (.agg #[.int .i64 0, .int .i64 0, .int .i64 0]) := ⟨by kernel_rfl, by kernel_rfl, rfl, by simp [Value.cells, Value.oneCell'], by decide, by decide⟩
theorem fd24_0 : fdT Try.prog 24 0 = some (0, 1, false) := by kernel_rfl
theorem fd44_0 : fdT Try.prog 44 0 = some (0, 1, false) := by kernel_rfl
theorem fd44_1 : fdT Try.prog 44 1 = some (1, 1, false) := by kernel_rfl
theorem fd44_2 : fdT Try.prog 44 2 = some (2, 1, false) := by kernel_rfl
theorem fd46_0 : fdT Try.prog 46 0 = some (0, 1, false) := by kernel_rfl
theorem fd46_1 : fdT Try.prog 46 1 = some (1, 1, false) := by kernel_rfl
theorem fd51_0 : fdT Try.prog 51 0 = some (0, 1, false) := by kernel_rfl
theorem fd51_1 : fdT Try.prog 51 1 = some (1, 2, true) := by kernel_rfl
theorem sz22 : szT Try.prog 22 = some (1, false) := by kernel_rfl
theorem sz24 : szT Try.prog 24 = some (1, true) := by kernel_rfl
theorem sz3 : szT Try.prog 3 = some (1, false) := by kernel_rfl
theorem sz30 : szT Try.prog 30 = some (1, false) := by kernel_rfl
theorem sz4 : szT Try.prog 4 = some (1, false) := by kernel_rfl
theorem sz40 : szT Try.prog 40 = some (3, true) := by kernel_rfl
theorem sz42 : szT Try.prog 42 = some (1, false) := by kernel_rfl
theorem sz44 : szT Try.prog 44 = some (3, true) := by kernel_rfl
theorem sz46 : szT Try.prog 46 = some (2, true) := by kernel_rfl
theorem sz51 : szT Try.prog 51 = some (3, true) := by kernel_rfl
theorem ze22 : (zrT Try.prog 44).isSome = true := by kernel_rfl
theorem ze30 : (zrT Try.prog 3).isSome = true := by kernel_rfl
theorem ze35 : (zrT Try.prog 40).isSome = true := by kernel_rfl
theorem ze42 : (zrT Try.prog 46).isSome = true := by kernel_rfl
theorem zr24 : zrT Try.prog 24 = some (.agg #[.slice none 0 0]) := by kernel_rfl
theorem zr3 : zrT Try.prog 3 = some (.int .i64 0) := by kernel_rfl
theorem zr30 : zrT Try.prog 30 = some (.slice none 0 0) := by kernel_rfl
theorem zr4 : zrT Try.prog 4 = some (.bool false) := by kernel_rfl
theorem zr44 : zrT Try.prog 44 = some (.agg #[.int .i64 0, .slice none 0 0, .slice none 0 0]) := by kernel_rfl
theorem zr46 : zrT Try.prog 46 = some (.agg #[.int .i64 0, .int .i64 0]) := by kernel_rfl
theorem zr51 : zrT Try.prog 51 = some (.agg #[.int .i64 0, .int .i64 0, .int .i64 0]) := by kernel_rfl
theorem ints_api_Choice : intsB Try.prog 40 3 = true := by kernel_rfl
theorem dec_api_Choice (x y : G.api_Choice) : decide ([x.Key, x.A, x.B] = [y.Key, y.A, y.B]) = decide (x = y) := by cases x; cases y; simp
theorem t_ne_api_Choice {W0 : Base} {fr : Fr} {H : Heap} {o : Oper} {t' : TypeId} {x y : Operand} {a b : G.api_Choice} (ho : o.op = .binOp .neq 40 x y t') (hx : evalA fr x = some (G.api_Choice.av a)) (hy : evalA fr y = some (G.api_Choice.av b)) : AOp Try.prog W0 o fr H (bl (!decide (a = b))) H := (t_ne_ints [a.Key, a.A, a.B] [b.Key, b.A, b.B] ints_api_Choice rfl rfl ho hx hy).conv (by rw [dec_api_Choice])
end Wk
