/- What the types of the loaded program are. -/
import Derived.Test.YtfgndjgcfkfobaaGreatDoorSh
import Derived.Test.YtfgndjgcfkfobaaGreatDoorRows
import Derived.KernelRfl
import Derived.Test.YtfgndjgcfkfobaaGreatDoorWkJLay
open Go Go.Av Go.Proofs
namespace Wk
def Tab (W0 : World) : Prop := TabAt W0 0
theorem ar112 : arT Tryz.prog 112 = some (64, 1) := by kernel_rfl
theorem bd105 : bdT Tryz.prog 105 = some ([(0, 1), (1, 2)], [.int .i64 0, .int .i64 0, .int .i64 0]) := by kernel_rfl
theorem bd24 : bdT Tryz.prog 24 = some ([(0, 1)], [.slice none 0 0]) := by kernel_rfl
theorem bd30 : bdT Tryz.prog 30 = some ([(0, 1), (1, 1)], [.int .i64 0, .slice none 0 0]) := by kernel_rfl
theorem bd32 : bdT Tryz.prog 32 = some ([(0, 1), (1, 1)], [.int .i64 0, .slice none 0 0]) := by kernel_rfl
theorem bd38 : bdT Tryz.prog 38 = some ([(0, 1), (1, 1), (2, 1)], [.int .i64 0, .int .i64 0, .int .i64 0]) := by kernel_rfl
theorem bd47 : bdT Tryz.prog 47 = some ([(0, 1), (1, 1)], [.int .i64 0, .int .i64 0]) := by kernel_rfl
theorem bd51 : bdT Tryz.prog 51 = some ([(0, 1), (1, 1), (2, 1)], [.int .i64 0, .slice none 0 0, .slice none 0 0]) := by kernel_rfl
theorem ca84 : Callable Tryz.prog 84 := callable_of Tryz.func84 (by kernel_rfl) rfl
theorem ca87 : Callable Tryz.prog 87 := callable_of Tryz.func87 (by kernel_rfl) rfl
theorem el22 : elT Tryz.prog 22 = some (51, 3, 56) := by kernel_rfl
theorem el25 : elT Tryz.prog 25 = some (38, 3, 24) := by kernel_rfl
theorem el28 : elT Tryz.prog 28 = some (68, 1, 8) := by kernel_rfl
theorem el48 : elT Tryz.prog 48 = some (47, 2, 16) := by kernel_rfl
theorem el49 : elT Tryz.prog 49 = some (3, 1, 8) := by kernel_rfl
theorem el82 : elT Tryz.prog 82 = some (32, 2, 32) := by kernel_rfl
theorem et25 : ElT Tryz.prog 25 38 3 24 (.agg #[.int .i64 0, .int .i64 0, .int .i64 0]) := ⟨by kernel_rfl, by kernel_rfl, rfl, by simp [Value.cells, Value.oneCell'], by decide, by decide⟩
theorem et28 : ElT Tryz.prog 28 68 1 8 (.int .u64 0) := ⟨by kernel_rfl, by kernel_rfl, rfl, by simp [Value.cells, Value.oneCell'], by decide, by decide⟩
theorem et49 : ElT Tryz.prog 49 3 1 8 (.int .i64 0) := ⟨by kernel_rfl, by kernel_rfl, rfl, by simp [Value.cells, Value.oneCell'], by decide, by decide⟩
theorem fd105_0 : fdT Tryz.prog 105 0 = some (0, 1, false) := by kernel_rfl
theorem fd105_1 : fdT Tryz.prog 105 1 = some (1, 2, true) := by kernel_rfl
theorem fd24_0 : fdT Tryz.prog 24 0 = some (0, 1, false) := by kernel_rfl
theorem fd30_0 : fdT Tryz.prog 30 0 = some (0, 1, false) := by kernel_rfl
theorem fd30_1 : fdT Tryz.prog 30 1 = some (1, 1, false) := by kernel_rfl
theorem fd32_0 : fdT Tryz.prog 32 0 = some (0, 1, false) := by kernel_rfl
theorem fd32_1 : fdT Tryz.prog 32 1 = some (1, 1, false) := by kernel_rfl
theorem fd38_0 : fdT Tryz.prog 38 0 = some (0, 1, false) := by kernel_rfl
theorem fd38_1 : fdT Tryz.prog 38 1 = some (1, 1, false) := by kernel_rfl
theorem fd38_2 : fdT Tryz.prog 38 2 = some (2, 1, false) := by kernel_rfl
theorem fd47_0 : fdT Tryz.prog 47 0 = some (0, 1, false) := by kernel_rfl
theorem fd47_1 : fdT Tryz.prog 47 1 = some (1, 1, false) := by kernel_rfl
theorem fd51_0 : fdT Tryz.prog 51 0 = some (0, 1, false) := by kernel_rfl
theorem fd51_1 : fdT Tryz.prog 51 1 = some (1, 1, false) := by kernel_rfl
theorem fd51_2 : fdT Tryz.prog 51 2 = some (2, 1, false) := by kernel_rfl
theorem sz105 : szT Tryz.prog 105 = some (3, true) := by kernel_rfl
theorem sz22 : szT Tryz.prog 22 = some (1, false) := by kernel_rfl
theorem sz24 : szT Tryz.prog 24 = some (1, true) := by kernel_rfl
theorem sz28 : szT Tryz.prog 28 = some (1, false) := by kernel_rfl
theorem sz3 : szT Tryz.prog 3 = some (1, false) := by kernel_rfl
theorem sz30 : szT Tryz.prog 30 = some (2, true) := by kernel_rfl
theorem sz32 : szT Tryz.prog 32 = some (2, true) := by kernel_rfl
theorem sz38 : szT Tryz.prog 38 = some (3, true) := by kernel_rfl
theorem sz4 : szT Tryz.prog 4 = some (1, false) := by kernel_rfl
theorem sz47 : szT Tryz.prog 47 = some (2, true) := by kernel_rfl
theorem sz48 : szT Tryz.prog 48 = some (1, false) := by kernel_rfl
theorem sz49 : szT Tryz.prog 49 = some (1, false) := by kernel_rfl
theorem sz5 : szT Tryz.prog 5 = some (1, false) := by kernel_rfl
theorem sz51 : szT Tryz.prog 51 = some (3, true) := by kernel_rfl
theorem sz64 : szT Tryz.prog 64 = some (1, false) := by kernel_rfl
theorem sz68 : szT Tryz.prog 68 = some (1, false) := by kernel_rfl
theorem ze22 : (zrT Tryz.prog 51).isSome = true := by kernel_rfl
theorem ze25 : (zrT Tryz.prog 38).isSome = true := by kernel_rfl
theorem ze28 : (zrT Tryz.prog 68).isSome = true := by kernel_rfl
theorem ze48 : (zrT Tryz.prog 47).isSome = true := by kernel_rfl
theorem ze49 : (zrT Tryz.prog 3).isSome = true := by kernel_rfl
theorem ze82 : (zrT Tryz.prog 32).isSome = true := by kernel_rfl
theorem zr105 : zrT Tryz.prog 105 = some (.agg #[.int .i64 0, .int .i64 0, .int .i64 0]) := by kernel_rfl
theorem zr24 : zrT Tryz.prog 24 = some (.agg #[.slice none 0 0]) := by kernel_rfl
theorem zr30 : zrT Tryz.prog 30 = some (.agg #[.int .i64 0, .slice none 0 0]) := by kernel_rfl
theorem zr32 : zrT Tryz.prog 32 = some (.agg #[.int .i64 0, .slice none 0 0]) := by kernel_rfl
theorem zr38 : zrT Tryz.prog 38 = some (.agg #[.int .i64 0, .int .i64 0, .int .i64 0]) := by kernel_rfl
theorem zr4 : zrT Tryz.prog 4 = some (.bool false) := by kernel_rfl
theorem zr47 : zrT Tryz.prog 47 = some (.agg #[.int .i64 0, .int .i64 0]) := by kernel_rfl
theorem zr49 : zrT Tryz.prog 49 = some (.slice none 0 0) := by kernel_rfl
theorem zr51 : zrT Tryz.prog 51 = some (.agg #[.int .i64 0, .slice none 0 0, .slice none 0 0]) := by kernel_rfl
theorem zr64 : zrT Tryz.prog 64 = some (.nilFunc) := by kernel_rfl
theorem zv28 : zrT Tryz.prog 68 = some (.int .u64 0) := by kernel_rfl
theorem ints_api_Choice : intsB Tryz.prog 38 3 = true := by kernel_rfl
theorem dec_api_Choice (x y : G.api_Choice) : decide ([x.Key, x.A, x.B] = [y.Key, y.A, y.B]) = decide (x = y) := by cases x; cases y; simp
theorem t_eq_api_Choice {W0 : Base} {fr : Fr} {H : Heap} {o : Oper} {t' : TypeId} {x y : Operand} {a b : G.api_Choice} (ho : o.op = .binOp .eql 38 x y t') (hx : evalA fr x = some (G.api_Choice.av a)) (hy : evalA fr y = some (G.api_Choice.av b)) : AOp Tryz.prog W0 o fr H (bl (decide (a = b))) H := (t_eq_ints [a.Key, a.A, a.B] [b.Key, b.A, b.B] ints_api_Choice rfl rfl ho hx hy).conv (by rw [dec_api_Choice])
theorem t_ne_api_Choice {W0 : Base} {fr : Fr} {H : Heap} {o : Oper} {t' : TypeId} {x y : Operand} {a b : G.api_Choice} (ho : o.op = .binOp .neq 38 x y t') (hx : evalA fr x = some (G.api_Choice.av a)) (hy : evalA fr y = some (G.api_Choice.av b)) : AOp Tryz.prog W0 o fr H (bl (!decide (a = b))) H := (t_ne_ints [a.Key, a.A, a.B] [b.Key, b.A, b.B] ints_api_Choice rfl rfl ho hx hy).conv (by rw [dec_api_Choice])
theorem ints_api_Take : intsB Tryz.prog 47 2 = true := by kernel_rfl
theorem dec_api_Take (x y : G.api_Take) : decide ([x.Key, x.From] = [y.Key, y.From]) = decide (x = y) := by cases x; cases y; simp
theorem t_eq_api_Take {W0 : Base} {fr : Fr} {H : Heap} {o : Oper} {t' : TypeId} {x y : Operand} {a b : G.api_Take} (ho : o.op = .binOp .eql 47 x y t') (hx : evalA fr x = some (G.api_Take.av a)) (hy : evalA fr y = some (G.api_Take.av b)) : AOp Tryz.prog W0 o fr H (bl (decide (a = b))) H := (t_eq_ints [a.Key, a.From] [b.Key, b.From] ints_api_Take rfl rfl ho hx hy).conv (by rw [dec_api_Take])
end Wk
