/- What the types of the loaded program are. -/
import Derived.Test.YtcoegkcdabpijaaDoorSh
import Derived.Test.YtcoegkcdabpijaaDoorRows
import Derived.KernelRfl
import Derived.Test.YtcoegkcdabpijaaDoorWkDLay
open Go Go.Av Go.Proofs
namespace Wk
def Tab (W0 : World) : Prop := TabAt W0 0
theorem ar108 : arT Tryd.prog 108 = some (16, 1) := by kernel_rfl
theorem ar109 : arT Tryd.prog 109 = some (32, 1) := by kernel_rfl
theorem ar124 : arT Tryd.prog 124 = some (64, 1) := by kernel_rfl
theorem ar75 : arT Tryd.prog 75 = some (8, 1) := by kernel_rfl
theorem bd123 : bdT Tryd.prog 123 = some ([(0, 1), (1, 2)], [.int .i64 0, .int .i64 0, .int .i64 0]) := by kernel_rfl
theorem bd24 : bdT Tryd.prog 24 = some ([(0, 1)], [.slice none 0 0]) := by kernel_rfl
theorem bd34 : bdT Tryd.prog 34 = some ([(0, 1), (1, 1)], [.int .i64 0, .slice none 0 0]) := by kernel_rfl
theorem bd50 : bdT Tryd.prog 50 = some ([(0, 1), (1, 1)], [.int .i64 0, .int .i64 0]) := by kernel_rfl
theorem bd53 : bdT Tryd.prog 53 = some ([(0, 1), (1, 1), (2, 1)], [.int .i64 0, .slice none 0 0, .slice none 0 0]) := by kernel_rfl
theorem bd55 : bdT Tryd.prog 55 = some ([(0, 1), (1, 1), (2, 1)], [.int .i64 0, .int .i64 0, .int .i64 0]) := by kernel_rfl
theorem ca70 : Callable Tryd.prog 70 := callable_of Tryd.func70 (by kernel_rfl) rfl
theorem ca80 : Callable Tryd.prog 80 := callable_of Tryd.func80 (by kernel_rfl) rfl
theorem el22 : elT Tryd.prog 22 = some (53, 3, 56) := by kernel_rfl
theorem el25 : elT Tryd.prog 25 = some (55, 3, 24) := by kernel_rfl
theorem el26 : elT Tryd.prog 26 = some (3, 1, 8) := by kernel_rfl
theorem el32 : elT Tryd.prog 32 = some (65, 1, 8) := by kernel_rfl
theorem el51 : elT Tryd.prog 51 = some (50, 2, 16) := by kernel_rfl
theorem el70 : elT Tryd.prog 70 = some (51, 1, 24) := by kernel_rfl
theorem el89 : elT Tryd.prog 89 = some (34, 2, 32) := by kernel_rfl
theorem et25 : ElT Tryd.prog 25 55 3 24 (.agg #[.int .i64 0, .int .i64 0, .int .i64 0]) := ⟨by kernel_rfl, by kernel_rfl, rfl, by simp [Value.cells, Value.oneCell'], by decide, by decide⟩
theorem et26 : ElT Tryd.prog 26 3 1 8 (.int .i64 0) := ⟨by kernel_rfl, by kernel_rfl, rfl, by simp [Value.cells, Value.oneCell'], by decide, by decide⟩
theorem et51 : ElT Tryd.prog 51 50 2 16 (.agg #[.int .i64 0, .int .i64 0]) := ⟨by kernel_rfl, by kernel_rfl, rfl, by simp [Value.cells, Value.oneCell'], by decide, by decide⟩
theorem fd123_0 : fdT Tryd.prog 123 0 = some (0, 1, false) := by kernel_rfl
theorem fd123_1 : fdT Tryd.prog 123 1 = some (1, 2, true) := by kernel_rfl
theorem fd24_0 : fdT Tryd.prog 24 0 = some (0, 1, false) := by kernel_rfl
theorem fd34_0 : fdT Tryd.prog 34 0 = some (0, 1, false) := by kernel_rfl
theorem fd34_1 : fdT Tryd.prog 34 1 = some (1, 1, false) := by kernel_rfl
theorem fd50_0 : fdT Tryd.prog 50 0 = some (0, 1, false) := by kernel_rfl
theorem fd50_1 : fdT Tryd.prog 50 1 = some (1, 1, false) := by kernel_rfl
theorem fd53_0 : fdT Tryd.prog 53 0 = some (0, 1, false) := by kernel_rfl
theorem fd53_1 : fdT Tryd.prog 53 1 = some (1, 1, false) := by kernel_rfl
theorem fd53_2 : fdT Tryd.prog 53 2 = some (2, 1, false) := by kernel_rfl
theorem fd55_0 : fdT Tryd.prog 55 0 = some (0, 1, false) := by kernel_rfl
theorem fd55_1 : fdT Tryd.prog 55 1 = some (1, 1, false) := by kernel_rfl
theorem fd55_2 : fdT Tryd.prog 55 2 = some (2, 1, false) := by kernel_rfl
theorem sz123 : szT Tryd.prog 123 = some (3, true) := by kernel_rfl
theorem sz22 : szT Tryd.prog 22 = some (1, false) := by kernel_rfl
theorem sz24 : szT Tryd.prog 24 = some (1, true) := by kernel_rfl
theorem sz26 : szT Tryd.prog 26 = some (1, false) := by kernel_rfl
theorem sz3 : szT Tryd.prog 3 = some (1, false) := by kernel_rfl
theorem sz32 : szT Tryd.prog 32 = some (1, false) := by kernel_rfl
theorem sz34 : szT Tryd.prog 34 = some (2, true) := by kernel_rfl
theorem sz4 : szT Tryd.prog 4 = some (1, false) := by kernel_rfl
theorem sz5 : szT Tryd.prog 5 = some (1, false) := by kernel_rfl
theorem sz50 : szT Tryd.prog 50 = some (2, true) := by kernel_rfl
theorem sz51 : szT Tryd.prog 51 = some (1, false) := by kernel_rfl
theorem sz53 : szT Tryd.prog 53 = some (3, true) := by kernel_rfl
theorem sz55 : szT Tryd.prog 55 = some (3, true) := by kernel_rfl
theorem sz57 : szT Tryd.prog 57 = some (1, false) := by kernel_rfl
theorem sz65 : szT Tryd.prog 65 = some (1, false) := by kernel_rfl
theorem ze22 : (zrT Tryd.prog 53).isSome = true := by kernel_rfl
theorem ze25 : (zrT Tryd.prog 55).isSome = true := by kernel_rfl
theorem ze26 : (zrT Tryd.prog 3).isSome = true := by kernel_rfl
theorem ze32 : (zrT Tryd.prog 65).isSome = true := by kernel_rfl
theorem ze51 : (zrT Tryd.prog 50).isSome = true := by kernel_rfl
theorem ze89 : (zrT Tryd.prog 34).isSome = true := by kernel_rfl
theorem zr108 : zrT Tryd.prog 108 = some (.agg (List.replicate 16 (Value.int .i64 0)).toArray) := by kernel_rfl
theorem zr109 : zrT Tryd.prog 109 = some (.agg (List.replicate 32 (Value.bool false)).toArray) := by kernel_rfl
theorem zr123 : zrT Tryd.prog 123 = some (.agg #[.int .i64 0, .int .i64 0, .int .i64 0]) := by kernel_rfl
theorem zr24 : zrT Tryd.prog 24 = some (.agg #[.slice none 0 0]) := by kernel_rfl
theorem zr26 : zrT Tryd.prog 26 = some (.slice none 0 0) := by kernel_rfl
theorem zr34 : zrT Tryd.prog 34 = some (.agg #[.int .i64 0, .slice none 0 0]) := by kernel_rfl
theorem zr4 : zrT Tryd.prog 4 = some (.bool false) := by kernel_rfl
theorem zr50 : zrT Tryd.prog 50 = some (.agg #[.int .i64 0, .int .i64 0]) := by kernel_rfl
theorem zr53 : zrT Tryd.prog 53 = some (.agg #[.int .i64 0, .slice none 0 0, .slice none 0 0]) := by kernel_rfl
theorem zr55 : zrT Tryd.prog 55 = some (.agg #[.int .i64 0, .int .i64 0, .int .i64 0]) := by kernel_rfl
theorem zr57 : zrT Tryd.prog 57 = some (.nilFunc) := by kernel_rfl
theorem zr75 : zrT Tryd.prog 75 = some (.agg #[.int .i64 0, .int .i64 0, .int .i64 0, .int .i64 0, .int .i64 0, .int .i64 0, .int .i64 0, .int .i64 0]) := by kernel_rfl
theorem zv26 : zrT Tryd.prog 3 = some (.int .i64 0) := by kernel_rfl
theorem zv32 : zrT Tryd.prog 65 = some (.int .u64 0) := by kernel_rfl
theorem zv70 : zrT Tryd.prog 51 = some (.slice none 0 0) := by kernel_rfl
theorem ints_api_Take : intsB Tryd.prog 50 2 = true := by kernel_rfl
theorem dec_api_Take (x y : G.api_Take) : decide ([x.Key, x.From] = [y.Key, y.From]) = decide (x = y) := by cases x; cases y; simp
theorem t_eq_api_Take {W0 : Base} {fr : Fr} {H : Heap} {o : Oper} {t' : TypeId} {x y : Operand} {a b : G.api_Take} (ho : o.op = .binOp .eql 50 x y t') (hx : evalA fr x = some (G.api_Take.av a)) (hy : evalA fr y = some (G.api_Take.av b)) : AOp Tryd.prog W0 o fr H (bl (decide (a = b))) H := (t_eq_ints [a.Key, a.From] [b.Key, b.From] ints_api_Take rfl rfl ho hx hy).conv (by rw [dec_api_Take])
theorem t_ne_api_Take {W0 : Base} {fr : Fr} {H : Heap} {o : Oper} {t' : TypeId} {x y : Operand} {a b : G.api_Take} (ho : o.op = .binOp .neq 50 x y t') (hx : evalA fr x = some (G.api_Take.av a)) (hy : evalA fr y = some (G.api_Take.av b)) : AOp Tryd.prog W0 o fr H (bl (!decide (a = b))) H := (t_ne_ints [a.Key, a.From] [b.Key, b.From] ints_api_Take rfl rfl ho hx hy).conv (by rw [dec_api_Take])
end Wk
