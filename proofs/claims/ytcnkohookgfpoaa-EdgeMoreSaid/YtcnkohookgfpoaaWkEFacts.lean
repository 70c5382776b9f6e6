/- What the types of the loaded program are. -/
import Derived.Test.YtcnkohookgfpoaaSh
import Derived.Test.YtcnkohookgfpoaaRows
import Derived.KernelRfl
open Go Go.Av Go.Proofs
namespace Wk
def Tab (_ : World) : Prop := True
theorem ar64 : arT Try.prog 64 = some (16, 1) := by kernel_rfl
theorem ar77 : arT Try.prog 77 = some (32, 1) := by kernel_rfl
theorem bd24 : bdT Try.prog 24 = some ([(0, 1)], [.slice none 0 0]) := by kernel_rfl
theorem bd35 : bdT Try.prog 35 = some ([(0, 1), (1, 1), (2, 1)], [.int .i64 0, .int .i64 0, .int .i64 0]) := by kernel_rfl
theorem bd47 : bdT Try.prog 47 = some ([(0, 1), (1, 1), (2, 1)], [.int .i64 0, .slice none 0 0, .slice none 0 0]) := by kernel_rfl
theorem bd50 : bdT Try.prog 50 = some ([(0, 1), (1, 1)], [.int .i64 0, .int .i64 0]) := by kernel_rfl
theorem bd54 : bdT Try.prog 54 = some ([], []) := by kernel_rfl
theorem bd55 : bdT Try.prog 55 = some ([], []) := by kernel_rfl
theorem ca49 : Callable Try.prog 49 := callable_of Try.func49 (by kernel_rfl) rfl
theorem el22 : elT Try.prog 22 = some (47, 3, 56) := by kernel_rfl
theorem el25 : elT Try.prog 25 = some (35, 3, 24) := by kernel_rfl
theorem el26 : elT Try.prog 26 = some (3, 1, 8) := by kernel_rfl
theorem el39 : elT Try.prog 39 = some (43, 1, 24) := by kernel_rfl
theorem el43 : elT Try.prog 43 = some (50, 2, 16) := by kernel_rfl
theorem el56 : elT Try.prog 56 = some (35, 3, 24) := by kernel_rfl
theorem el59 : elT Try.prog 59 = some (35, 3, 24) := by kernel_rfl
theorem el71 : elT Try.prog 71 = some (74, 1, 16) := by kernel_rfl
theorem et25 : ElT Try.prog 25 35 3 24 (.agg #[.int .i64 0, .int .i64 0, .int .i64 0]) := ⟨by kernel_rfl, by kernel_rfl, rfl, by simp [Value.cells, Value.oneCell'], by decide, by decide⟩
theorem et39 : ElT Try.prog 39 43 1 24 (.slice none 0 0) := ⟨by kernel_rfl, by kernel_rfl, rfl, by simp [Value.cells, Value.oneCell'], by decide, by decide⟩
theorem et43 : ElT Try.prog 43 50 2 16 (.agg #[.int .i64 0, .int .i64 0]) := ⟨by kernel_rfl, by kernel_rfl, rfl, by simp [Value.cells, Value.oneCell'], by decide, by decide⟩
theorem fd24_0 : fdT Try.prog 24 0 = some (0, 1, false) := by kernel_rfl
theorem fd28_0 : fdT Try.prog 28 0 = some (0, 1, true) := by kernel_rfl
theorem fd28_1 : fdT Try.prog 28 1 = some (1, 1, false) := by kernel_rfl
theorem fd28_2 : fdT Try.prog 28 2 = some (2, 1, false) := by kernel_rfl
theorem fd28_3 : fdT Try.prog 28 3 = some (3, 1, false) := by kernel_rfl
theorem fd28_4 : fdT Try.prog 28 4 = some (4, 1, false) := by kernel_rfl
theorem fd28_5 : fdT Try.prog 28 5 = some (5, 1, false) := by kernel_rfl
theorem fd35_0 : fdT Try.prog 35 0 = some (0, 1, false) := by kernel_rfl
theorem fd35_1 : fdT Try.prog 35 1 = some (1, 1, false) := by kernel_rfl
theorem fd35_2 : fdT Try.prog 35 2 = some (2, 1, false) := by kernel_rfl
theorem fd47_0 : fdT Try.prog 47 0 = some (0, 1, false) := by kernel_rfl
theorem fd47_1 : fdT Try.prog 47 1 = some (1, 1, false) := by kernel_rfl
theorem fd47_2 : fdT Try.prog 47 2 = some (2, 1, false) := by kernel_rfl
theorem fd50_0 : fdT Try.prog 50 0 = some (0, 1, false) := by kernel_rfl
theorem fd50_1 : fdT Try.prog 50 1 = some (1, 1, false) := by kernel_rfl
theorem mt54_66 : ∀ v w, (method (Try.prog.types.size + Made.depth) 54 v "inquest/edge.is").run Try.prog w = .ok (66, v) w := by intro v w; kernel_rfl
theorem mt55_67 : ∀ v w, (method (Try.prog.types.size + Made.depth) 55 v "inquest/edge.is").run Try.prog w = .ok (67, v) w := by intro v w; kernel_rfl
theorem mt56_71 : ∀ v w, (method (Try.prog.types.size + Made.depth) 56 v "inquest/edge.is").run Try.prog w = .ok (71, v) w := by intro v w; kernel_rfl
theorem mt59_76 : ∀ v w, (method (Try.prog.types.size + Made.depth) 59 v "inquest/edge.is").run Try.prog w = .ok (76, v) w := by intro v w; kernel_rfl
theorem sz22 : szT Try.prog 22 = some (1, false) := by kernel_rfl
theorem sz24 : szT Try.prog 24 = some (1, true) := by kernel_rfl
theorem sz25 : szT Try.prog 25 = some (1, false) := by kernel_rfl
theorem sz26 : szT Try.prog 26 = some (1, false) := by kernel_rfl
theorem sz28 : szT Try.prog 28 = some (6, true) := by kernel_rfl
theorem sz3 : szT Try.prog 3 = some (1, false) := by kernel_rfl
theorem sz35 : szT Try.prog 35 = some (3, true) := by kernel_rfl
theorem sz4 : szT Try.prog 4 = some (1, false) := by kernel_rfl
theorem sz43 : szT Try.prog 43 = some (1, false) := by kernel_rfl
theorem sz47 : szT Try.prog 47 = some (3, true) := by kernel_rfl
theorem sz50 : szT Try.prog 50 = some (2, true) := by kernel_rfl
theorem sz59 : szT Try.prog 59 = some (1, false) := by kernel_rfl
theorem sz61 : szT Try.prog 61 = some (1, false) := by kernel_rfl
theorem sz74 : szT Try.prog 74 = some (1, false) := by kernel_rfl
theorem ze22 : (zrT Try.prog 47).isSome = true := by kernel_rfl
theorem ze25 : (zrT Try.prog 35).isSome = true := by kernel_rfl
theorem ze26 : (zrT Try.prog 3).isSome = true := by kernel_rfl
theorem ze39 : (zrT Try.prog 43).isSome = true := by kernel_rfl
theorem ze43 : (zrT Try.prog 50).isSome = true := by kernel_rfl
theorem ze71 : (zrT Try.prog 74).isSome = true := by kernel_rfl
theorem zr24 : zrT Try.prog 24 = some (.agg #[.slice none 0 0]) := by kernel_rfl
theorem zr4 : zrT Try.prog 4 = some (.bool false) := by kernel_rfl
theorem zr47 : zrT Try.prog 47 = some (.agg #[.int .i64 0, .slice none 0 0, .slice none 0 0]) := by kernel_rfl
theorem zr50 : zrT Try.prog 50 = some (.agg #[.int .i64 0, .int .i64 0]) := by kernel_rfl
theorem zr61 : zrT Try.prog 61 = some (.nilFunc) := by kernel_rfl
theorem zr64 : zrT Try.prog 64 = some (.agg (List.replicate 16 (Value.int .i64 0)).toArray) := by kernel_rfl
theorem zr77 : zrT Try.prog 77 = some (.agg (List.replicate 32 (Value.bool false)).toArray) := by kernel_rfl
theorem zv39 : zrT Try.prog 43 = some (.slice none 0 0) := by kernel_rfl
theorem ints_api_Choice : intsB Try.prog 35 3 = true := by kernel_rfl
theorem dec_api_Choice (x y : G.api_Choice) : decide ([x.Key, x.A, x.B] = [y.Key, y.A, y.B]) = decide (x = y) := by cases x; cases y; simp
theorem t_eq_api_Choice {W0 : Base} {fr : Fr} {H : Heap} {o : Oper} {t' : TypeId} {x y : Operand} {a b : G.api_Choice} (ho : o.op = .binOp .eql 35 x y t') (hx : evalA fr x = some (G.api_Choice.av a)) (hy : evalA fr y = some (G.api_Choice.av b)) : AOp Try.prog W0 o fr H (bl (decide (a = b))) H := (t_eq_ints [a.Key, a.A, a.B] [b.Key, b.A, b.B] ints_api_Choice rfl rfl ho hx hy).conv (by rw [dec_api_Choice])
theorem t_ne_api_Choice {W0 : Base} {fr : Fr} {H : Heap} {o : Oper} {t' : TypeId} {x y : Operand} {a b : G.api_Choice} (ho : o.op = .binOp .neq 35 x y t') (hx : evalA fr x = some (G.api_Choice.av a)) (hy : evalA fr y = some (G.api_Choice.av b)) : AOp Try.prog W0 o fr H (bl (!decide (a = b))) H := (t_ne_ints [a.Key, a.A, a.B] [b.Key, b.A, b.B] ints_api_Choice rfl rfl ho hx hy).conv (by rw [dec_api_Choice])
theorem ints_api_Take : intsB Try.prog 50 2 = true := by kernel_rfl
theorem dec_api_Take (x y : G.api_Take) : decide ([x.Key, x.From] = [y.Key, y.From]) = decide (x = y) := by cases x; cases y; simp
theorem t_eq_api_Take {W0 : Base} {fr : Fr} {H : Heap} {o : Oper} {t' : TypeId} {x y : Operand} {a b : G.api_Take} (ho : o.op = .binOp .eql 50 x y t') (hx : evalA fr x = some (G.api_Take.av a)) (hy : evalA fr y = some (G.api_Take.av b)) : AOp Try.prog W0 o fr H (bl (decide (a = b))) H := (t_eq_ints [a.Key, a.From] [b.Key, b.From] ints_api_Take rfl rfl ho hx hy).conv (by rw [dec_api_Take])
theorem t_ne_api_Take {W0 : Base} {fr : Fr} {H : Heap} {o : Oper} {t' : TypeId} {x y : Operand} {a b : G.api_Take} (ho : o.op = .binOp .neq 50 x y t') (hx : evalA fr x = some (G.api_Take.av a)) (hy : evalA fr y = some (G.api_Take.av b)) : AOp Try.prog W0 o fr H (bl (!decide (a = b))) H := (t_ne_ints [a.Key, a.From] [b.Key, b.From] ints_api_Take rfl rfl ho hx hy).conv (by rw [dec_api_Take])
end Wk
