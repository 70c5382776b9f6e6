/- What the types of the loaded program are. -/
import Derived.Test.YtleihjegenjacaaGreatSh
import Derived.Test.YtleihjegenjacaaGreatRows
import Derived.KernelRfl
import Derived.Test.YtleihjegenjacaaGreatWkYLay
open Go Go.Av Go.Proofs
namespace Wk
def Tab (_ : World) : Prop := True
theorem ar138 : arT Tryz.prog 138 = some (32, 1) := by kernel_rfl
theorem ar139 : arT Tryz.prog 139 = some (16, 1) := by kernel_rfl
theorem ar95 : arT Tryz.prog 95 = some (8, 1) := by kernel_rfl
theorem bd129 : bdT Tryz.prog 129 = some ([(0, 1)], [.slice none 0 0]) := by kernel_rfl
theorem bd181 : bdT Tryz.prog 181 = some ([], []) := by kernel_rfl
theorem bd24 : bdT Tryz.prog 24 = some ([(0, 1)], [.slice none 0 0]) := by kernel_rfl
theorem bd29 : bdT Tryz.prog 29 = some ([(0, 1), (1, 1), (2, 1), (3, 1), (4, 1)], [.int .i64 0, .bool false, .slice none 0 0, .slice none 0 0, .slice none 0 0]) := by kernel_rfl
theorem bd36 : bdT Tryz.prog 36 = some ([(0, 1), (1, 1), (2, 1), (3, 1), (4, 1)], [.int .i64 0, .bool false, .slice none 0 0, .slice none 0 0, .slice none 0 0]) := by kernel_rfl
theorem bd60 : bdT Tryz.prog 60 = some ([(0, 1), (1, 1)], [.int .i64 0, .int .i64 0]) := by kernel_rfl
theorem bd63 : bdT Tryz.prog 63 = some ([(0, 1), (1, 1), (2, 1)], [.int .i64 0, .slice none 0 0, .slice none 0 0]) := by kernel_rfl
theorem bd65 : bdT Tryz.prog 65 = some ([(0, 1), (1, 1)], [.int .i64 0, .slice none 0 0]) := by kernel_rfl
theorem bd69 : bdT Tryz.prog 69 = some ([(0, 3), (3, 1)], [.int .i64 0, .int .i64 0, .int .i64 0, .slice none 0 0]) := by kernel_rfl
theorem bd70 : bdT Tryz.prog 70 = some ([(0, 1), (1, 1)], [.int .i64 0, .slice none 0 0]) := by kernel_rfl
theorem bd71 : bdT Tryz.prog 71 = some ([(0, 3), (3, 1)], [.int .i64 0, .int .i64 0, .int .i64 0, .slice none 0 0]) := by kernel_rfl
theorem ca124 : Callable Tryz.prog 124 := callable_of Tryz.func124 (by kernel_rfl) rfl
theorem ca99 : Callable Tryz.prog 99 := callable_of Tryz.func99 (by kernel_rfl) rfl
theorem el111 : elT Tryz.prog 111 = some (5, 1, 1) := by kernel_rfl
theorem el22 : elT Tryz.prog 22 = some (63, 3, 56) := by kernel_rfl
theorem el25 : elT Tryz.prog 25 = some (3, 1, 8) := by kernel_rfl
theorem el26 : elT Tryz.prog 26 = some (65, 2, 32) := by kernel_rfl
theorem el27 : elT Tryz.prog 27 = some (69, 4, 48) := by kernel_rfl
theorem el33 : elT Tryz.prog 33 = some (70, 2, 32) := by kernel_rfl
theorem el34 : elT Tryz.prog 34 = some (71, 4, 48) := by kernel_rfl
theorem el61 : elT Tryz.prog 61 = some (60, 2, 16) := by kernel_rfl
theorem el92 : elT Tryz.prog 92 = some (61, 1, 24) := by kernel_rfl
theorem et111 : ElT Tryz.prog 111 5 1 1 (.int .u8 0) := ⟨by kernel_rfl, by kernel_rfl, rfl, by simp [Value.cells, Value.oneCell'], by decide, by decide⟩
theorem et25 : ElT Tryz.prog 25 3 1 8 (.int .i64 0) := ⟨by kernel_rfl, by kernel_rfl, rfl, by simp [Value.cells, Value.oneCell'], by decide, by decide⟩
theorem et26 : ElT Tryz.prog 26 65 2 32 (.agg #[.int .i64 0, .slice none 0 0]) := ⟨by kernel_rfl, by kernel_rfl, rfl, by simp [Value.cells, Value.oneCell'], by decide, by decide⟩
theorem et27 : ElT Tryz.prog 27 69 4 48 (.agg #[.int .i64 0, .int .i64 0, .int .i64 0, .slice none 0 0]) := ⟨by kernel_rfl, by kernel_rfl, rfl, by simp [Value.cells, Value.oneCell'], by decide, by decide⟩
theorem et33 : ElT Tryz.prog 33 70 2 32 (.agg #[.int .i64 0, .slice none 0 0]) := ⟨by kernel_rfl, by kernel_rfl, rfl, by simp [Value.cells, Value.oneCell'], by decide, by decide⟩
theorem et34 : ElT Tryz.prog 34 71 4 48 (.agg #[.int .i64 0, .int .i64 0, .int .i64 0, .slice none 0 0]) := ⟨by kernel_rfl, by kernel_rfl, rfl, by simp [Value.cells, Value.oneCell'], by decide, by decide⟩
theorem et61 : ElT Tryz.prog 61 60 2 16 (.agg #[.int .i64 0, .int .i64 0]) := ⟨by kernel_rfl, by kernel_rfl, rfl, by simp [Value.cells, Value.oneCell'], by decide, by decide⟩
theorem fd129_0 : fdT Tryz.prog 129 0 = some (0, 1, false) := by kernel_rfl
theorem fd24_0 : fdT Tryz.prog 24 0 = some (0, 1, false) := by kernel_rfl
theorem fd29_0 : fdT Tryz.prog 29 0 = some (0, 1, false) := by kernel_rfl
theorem fd29_1 : fdT Tryz.prog 29 1 = some (1, 1, false) := by kernel_rfl
theorem fd29_2 : fdT Tryz.prog 29 2 = some (2, 1, false) := by kernel_rfl
theorem fd29_3 : fdT Tryz.prog 29 3 = some (3, 1, false) := by kernel_rfl
theorem fd29_4 : fdT Tryz.prog 29 4 = some (4, 1, false) := by kernel_rfl
theorem fd36_0 : fdT Tryz.prog 36 0 = some (0, 1, false) := by kernel_rfl
theorem fd36_1 : fdT Tryz.prog 36 1 = some (1, 1, false) := by kernel_rfl
theorem fd36_2 : fdT Tryz.prog 36 2 = some (2, 1, false) := by kernel_rfl
theorem fd36_3 : fdT Tryz.prog 36 3 = some (3, 1, false) := by kernel_rfl
theorem fd36_4 : fdT Tryz.prog 36 4 = some (4, 1, false) := by kernel_rfl
theorem fd60_0 : fdT Tryz.prog 60 0 = some (0, 1, false) := by kernel_rfl
theorem fd60_1 : fdT Tryz.prog 60 1 = some (1, 1, false) := by kernel_rfl
theorem fd63_0 : fdT Tryz.prog 63 0 = some (0, 1, false) := by kernel_rfl
theorem fd63_1 : fdT Tryz.prog 63 1 = some (1, 1, false) := by kernel_rfl
theorem fd63_2 : fdT Tryz.prog 63 2 = some (2, 1, false) := by kernel_rfl
theorem fd65_0 : fdT Tryz.prog 65 0 = some (0, 1, false) := by kernel_rfl
theorem fd65_1 : fdT Tryz.prog 65 1 = some (1, 1, false) := by kernel_rfl
theorem fd67_0 : fdT Tryz.prog 67 0 = some (0, 1, false) := by kernel_rfl
theorem fd67_1 : fdT Tryz.prog 67 1 = some (1, 1, false) := by kernel_rfl
theorem fd67_2 : fdT Tryz.prog 67 2 = some (2, 1, false) := by kernel_rfl
theorem fd69_0 : fdT Tryz.prog 69 0 = some (0, 3, true) := by kernel_rfl
theorem fd69_1 : fdT Tryz.prog 69 1 = some (3, 1, false) := by kernel_rfl
theorem fd70_0 : fdT Tryz.prog 70 0 = some (0, 1, false) := by kernel_rfl
theorem fd70_1 : fdT Tryz.prog 70 1 = some (1, 1, false) := by kernel_rfl
theorem fd71_0 : fdT Tryz.prog 71 0 = some (0, 3, true) := by kernel_rfl
theorem fd71_1 : fdT Tryz.prog 71 1 = some (3, 1, false) := by kernel_rfl
theorem sz111 : szT Tryz.prog 111 = some (1, false) := by kernel_rfl
theorem sz22 : szT Tryz.prog 22 = some (1, false) := by kernel_rfl
theorem sz24 : szT Tryz.prog 24 = some (1, true) := by kernel_rfl
theorem sz25 : szT Tryz.prog 25 = some (1, false) := by kernel_rfl
theorem sz26 : szT Tryz.prog 26 = some (1, false) := by kernel_rfl
theorem sz27 : szT Tryz.prog 27 = some (1, false) := by kernel_rfl
theorem sz29 : szT Tryz.prog 29 = some (5, true) := by kernel_rfl
theorem sz3 : szT Tryz.prog 3 = some (1, false) := by kernel_rfl
theorem sz33 : szT Tryz.prog 33 = some (1, false) := by kernel_rfl
theorem sz34 : szT Tryz.prog 34 = some (1, false) := by kernel_rfl
theorem sz36 : szT Tryz.prog 36 = some (5, true) := by kernel_rfl
theorem sz4 : szT Tryz.prog 4 = some (1, false) := by kernel_rfl
theorem sz60 : szT Tryz.prog 60 = some (2, true) := by kernel_rfl
theorem sz61 : szT Tryz.prog 61 = some (1, false) := by kernel_rfl
theorem sz63 : szT Tryz.prog 63 = some (3, true) := by kernel_rfl
theorem sz65 : szT Tryz.prog 65 = some (2, true) := by kernel_rfl
theorem sz67 : szT Tryz.prog 67 = some (3, true) := by kernel_rfl
theorem sz69 : szT Tryz.prog 69 = some (4, true) := by kernel_rfl
theorem sz77 : szT Tryz.prog 77 = some (1, false) := by kernel_rfl
theorem ze111 : (zrT Tryz.prog 5).isSome = true := by kernel_rfl
theorem ze22 : (zrT Tryz.prog 63).isSome = true := by kernel_rfl
theorem ze25 : (zrT Tryz.prog 3).isSome = true := by kernel_rfl
theorem ze26 : (zrT Tryz.prog 65).isSome = true := by kernel_rfl
theorem ze27 : (zrT Tryz.prog 69).isSome = true := by kernel_rfl
theorem ze33 : (zrT Tryz.prog 70).isSome = true := by kernel_rfl
theorem ze34 : (zrT Tryz.prog 71).isSome = true := by kernel_rfl
theorem ze61 : (zrT Tryz.prog 60).isSome = true := by kernel_rfl
theorem zr111 : zrT Tryz.prog 111 = some (.slice none 0 0) := by kernel_rfl
theorem zr138 : zrT Tryz.prog 138 = some (.agg (List.replicate 32 (Value.bool false)).toArray) := by kernel_rfl
theorem zr139 : zrT Tryz.prog 139 = some (.agg (List.replicate 16 (Value.int .i64 0)).toArray) := by kernel_rfl
theorem zr24 : zrT Tryz.prog 24 = some (.agg #[.slice none 0 0]) := by kernel_rfl
theorem zr25 : zrT Tryz.prog 25 = some (.slice none 0 0) := by kernel_rfl
theorem zr29 : zrT Tryz.prog 29 = some (.agg #[.int .i64 0, .bool false, .slice none 0 0, .slice none 0 0, .slice none 0 0]) := by kernel_rfl
theorem zr3 : zrT Tryz.prog 3 = some (.int .i64 0) := by kernel_rfl
theorem zr36 : zrT Tryz.prog 36 = some (.agg #[.int .i64 0, .bool false, .slice none 0 0, .slice none 0 0, .slice none 0 0]) := by kernel_rfl
theorem zr4 : zrT Tryz.prog 4 = some (.bool false) := by kernel_rfl
theorem zr60 : zrT Tryz.prog 60 = some (.agg #[.int .i64 0, .int .i64 0]) := by kernel_rfl
theorem zr63 : zrT Tryz.prog 63 = some (.agg #[.int .i64 0, .slice none 0 0, .slice none 0 0]) := by kernel_rfl
theorem zr65 : zrT Tryz.prog 65 = some (.agg #[.int .i64 0, .slice none 0 0]) := by kernel_rfl
theorem zr69 : zrT Tryz.prog 69 = some (.agg #[.int .i64 0, .int .i64 0, .int .i64 0, .slice none 0 0]) := by kernel_rfl
theorem zr77 : zrT Tryz.prog 77 = some (.nilFunc) := by kernel_rfl
theorem zr95 : zrT Tryz.prog 95 = some (.agg #[.int .i64 0, .int .i64 0, .int .i64 0, .int .i64 0, .int .i64 0, .int .i64 0, .int .i64 0, .int .i64 0]) := by kernel_rfl
theorem zv92 : zrT Tryz.prog 61 = some (.slice none 0 0) := by kernel_rfl
theorem ints_api_Choice : intsB Tryz.prog 67 3 = true := by kernel_rfl
theorem dec_api_Choice (x y : G.api_Choice) : decide ([x.Key, x.A, x.B] = [y.Key, y.A, y.B]) = decide (x = y) := by cases x; cases y; simp
theorem t_ne_api_Choice {W0 : Base} {fr : Fr} {H : Heap} {o : Oper} {t' : TypeId} {x y : Operand} {a b : G.api_Choice} (ho : o.op = .binOp .neq 67 x y t') (hx : evalA fr x = some (G.api_Choice.av a)) (hy : evalA fr y = some (G.api_Choice.av b)) : AOp Tryz.prog W0 o fr H (bl (!decide (a = b))) H := (t_ne_ints [a.Key, a.A, a.B] [b.Key, b.A, b.B] ints_api_Choice rfl rfl ho hx hy).conv (by rw [dec_api_Choice])
theorem ints_api_Take : intsB Tryz.prog 60 2 = true := by kernel_rfl
theorem dec_api_Take (x y : G.api_Take) : decide ([x.Key, x.From] = [y.Key, y.From]) = decide (x = y) := by cases x; cases y; simp
theorem t_ne_api_Take {W0 : Base} {fr : Fr} {H : Heap} {o : Oper} {t' : TypeId} {x y : Operand} {a b : G.api_Take} (ho : o.op = .binOp .neq 60 x y t') (hx : evalA fr x = some (G.api_Take.av a)) (hy : evalA fr y = some (G.api_Take.av b)) : AOp Tryz.prog W0 o fr H (bl (!decide (a = b))) H := (t_ne_ints [a.Key, a.From] [b.Key, b.From] ints_api_Take rfl rfl ho hx hy).conv (by rw [dec_api_Take])
end Wk
