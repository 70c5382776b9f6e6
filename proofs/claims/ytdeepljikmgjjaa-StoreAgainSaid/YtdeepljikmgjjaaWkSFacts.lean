/- What the types of the loaded program are. -/
import Derived.Test.YtdeepljikmgjjaaSh
import Derived.Test.YtdeepljikmgjjaaRows
import Derived.KernelRfl
open Go Go.Av Go.Proofs
namespace Wk
def Tab (_ : World) : Prop := True
theorem bd104 : bdT Try.prog 104 = some ([], []) := by kernel_rfl
theorem bd105 : bdT Try.prog 105 = some ([], []) := by kernel_rfl
theorem bd24 : bdT Try.prog 24 = some ([(0, 1)], [.slice none 0 0]) := by kernel_rfl
theorem bd35 : bdT Try.prog 35 = some ([(0, 1), (1, 1), (2, 1)], [.int .i64 0, .int .i64 0, .int .i64 0]) := by kernel_rfl
theorem bd38 : bdT Try.prog 38 = some ([(0, 3), (3, 1), (4, 1), (5, 1), (6, 1)], [.int .i64 0, .int .i64 0, .int .i64 0, .int .i64 0, .int .i64 0, .int .i64 0, .slice none 0 0]) := by kernel_rfl
theorem bd48 : bdT Try.prog 48 = some ([(0, 3), (3, 1), (4, 1), (5, 1), (6, 1)], [.int .i64 0, .int .i64 0, .int .i64 0, .int .i64 0, .int .i64 0, .int .i64 0, .slice none 0 0]) := by kernel_rfl
theorem bd58 : bdT Try.prog 58 = some ([(0, 1), (1, 1), (2, 1)], [.int .i64 0, .slice none 0 0, .slice none 0 0]) := by kernel_rfl
theorem bd61 : bdT Try.prog 61 = some ([(0, 1), (1, 1)], [.slice none 0 0, .map none]) := by kernel_rfl
theorem bd64 : bdT Try.prog 64 = some ([(0, 2), (2, 1), (3, 1)], [.slice none 0 0, .map none, .slice none 0 0, .int .i64 0]) := by kernel_rfl
theorem bd78 : bdT Try.prog 78 = some ([(0, 1), (1, 1)], [.int .i64 0, .int .i64 0]) := by kernel_rfl
theorem bd84 : bdT Try.prog 84 = some ([(0, 1), (1, 1)], [.int .i64 0, .nilFunc]) := by kernel_rfl
theorem bd86 : bdT Try.prog 86 = some ([(0, 1), (1, 1), (2, 1), (3, 7)], [.slice none 0 0, .int .i64 0, .slice none 0 0, .int .i64 0, .int .i64 0, .int .i64 0, .int .i64 0, .int .i64 0, .int .i64 0, .slice none 0 0]) := by kernel_rfl
theorem ca48 : Callable Try.prog 48 := callable_of Try.func48 (by kernel_rfl) rfl
theorem el106 : elT Try.prog 106 = some (35, 3, 24) := by kernel_rfl
theorem el108 : elT Try.prog 108 = some (111, 1, 16) := by kernel_rfl
theorem el114 : elT Try.prog 114 = some (35, 3, 24) := by kernel_rfl
theorem el22 : elT Try.prog 22 = some (58, 3, 56) := by kernel_rfl
theorem el25 : elT Try.prog 25 = some (38, 7, 72) := by kernel_rfl
theorem el36 : elT Try.prog 36 = some (3, 1, 8) := by kernel_rfl
theorem el40 : elT Try.prog 40 = some (48, 7, 72) := by kernel_rfl
theorem el53 : elT Try.prog 53 = some (35, 3, 24) := by kernel_rfl
theorem el56 : elT Try.prog 56 = some (78, 2, 16) := by kernel_rfl
theorem el80 : elT Try.prog 80 = some (84, 2, 16) := by kernel_rfl
theorem et22 : ElT Try.prog 22 58 3 56 (.agg #[.int .i64 0, .slice none 0 0, .slice none 0 0]) := ⟨by kernel_rfl, by kernel_rfl, rfl, by simp [Value.cells, Value.oneCell'], by decide, by decide⟩
theorem et25 : ElT Try.prog 25 38 7 72 (.agg #[.int .i64 0, .int .i64 0, .int .i64 0, .int .i64 0, .int .i64 0, .int .i64 0, .slice none 0 0]) := ⟨by kernel_rfl, by kernel_rfl, rfl, by simp [Value.cells, Value.oneCell'], by decide, by decide⟩
theorem et36 : ElT Try.prog 36 3 1 8 (.int .i64 0) := ⟨by kernel_rfl, by kernel_rfl, rfl, by simp [Value.cells, Value.oneCell'], by decide, by decide⟩
theorem et40 : ElT Try.prog 40 48 7 72 (.agg #[.int .i64 0, .int .i64 0, .int .i64 0, .int .i64 0, .int .i64 0, .int .i64 0, .slice none 0 0]) := ⟨by kernel_rfl, by kernel_rfl, rfl, by simp [Value.cells, Value.oneCell'], by decide, by decide⟩
theorem et53 : ElT Try.prog 53 35 3 24 (.agg #[.int .i64 0, .int .i64 0, .int .i64 0]) := ⟨by kernel_rfl, by kernel_rfl, rfl, by simp [Value.cells, Value.oneCell'], by decide, by decide⟩
theorem et56 : ElT Try.prog 56 78 2 16 (.agg #[.int .i64 0, .int .i64 0]) := ⟨by kernel_rfl, by kernel_rfl, rfl, by simp [Value.cells, Value.oneCell'], by decide, by decide⟩
theorem fd24_0 : fdT Try.prog 24 0 = some (0, 1, false) := by kernel_rfl
theorem fd35_0 : fdT Try.prog 35 0 = some (0, 1, false) := by kernel_rfl
theorem fd35_1 : fdT Try.prog 35 1 = some (1, 1, false) := by kernel_rfl
theorem fd35_2 : fdT Try.prog 35 2 = some (2, 1, false) := by kernel_rfl
theorem fd38_0 : fdT Try.prog 38 0 = some (0, 3, true) := by kernel_rfl
theorem fd38_1 : fdT Try.prog 38 1 = some (3, 1, false) := by kernel_rfl
theorem fd38_2 : fdT Try.prog 38 2 = some (4, 1, false) := by kernel_rfl
theorem fd38_3 : fdT Try.prog 38 3 = some (5, 1, false) := by kernel_rfl
theorem fd38_4 : fdT Try.prog 38 4 = some (6, 1, false) := by kernel_rfl
theorem fd48_0 : fdT Try.prog 48 0 = some (0, 3, true) := by kernel_rfl
theorem fd48_1 : fdT Try.prog 48 1 = some (3, 1, false) := by kernel_rfl
theorem fd48_2 : fdT Try.prog 48 2 = some (4, 1, false) := by kernel_rfl
theorem fd48_3 : fdT Try.prog 48 3 = some (5, 1, false) := by kernel_rfl
theorem fd48_4 : fdT Try.prog 48 4 = some (6, 1, false) := by kernel_rfl
theorem fd58_0 : fdT Try.prog 58 0 = some (0, 1, false) := by kernel_rfl
theorem fd58_1 : fdT Try.prog 58 1 = some (1, 1, false) := by kernel_rfl
theorem fd58_2 : fdT Try.prog 58 2 = some (2, 1, false) := by kernel_rfl
theorem fd61_0 : fdT Try.prog 61 0 = some (0, 1, false) := by kernel_rfl
theorem fd61_1 : fdT Try.prog 61 1 = some (1, 1, false) := by kernel_rfl
theorem fd64_0 : fdT Try.prog 64 0 = some (0, 2, true) := by kernel_rfl
theorem fd64_1 : fdT Try.prog 64 1 = some (2, 1, true) := by kernel_rfl
theorem fd64_2 : fdT Try.prog 64 2 = some (3, 1, false) := by kernel_rfl
theorem fd78_0 : fdT Try.prog 78 0 = some (0, 1, false) := by kernel_rfl
theorem fd78_1 : fdT Try.prog 78 1 = some (1, 1, false) := by kernel_rfl
theorem fd84_0 : fdT Try.prog 84 0 = some (0, 1, false) := by kernel_rfl
theorem fd84_1 : fdT Try.prog 84 1 = some (1, 1, false) := by kernel_rfl
theorem fd86_0 : fdT Try.prog 86 0 = some (0, 1, true) := by kernel_rfl
theorem fd86_1 : fdT Try.prog 86 1 = some (1, 1, false) := by kernel_rfl
theorem fd86_2 : fdT Try.prog 86 2 = some (2, 1, false) := by kernel_rfl
theorem fd86_3 : fdT Try.prog 86 3 = some (3, 7, true) := by kernel_rfl
theorem mt104_87 : ∀ v w, (method (Try.prog.types.size + Made.depth) 104 v "inquest/edge.is").run Try.prog w = .ok (87, v) w := by intro v w; kernel_rfl
theorem mt105_88 : ∀ v w, (method (Try.prog.types.size + Made.depth) 105 v "inquest/edge.is").run Try.prog w = .ok (88, v) w := by intro v w; kernel_rfl
theorem mt106_92 : ∀ v w, (method (Try.prog.types.size + Made.depth) 106 v "inquest/edge.is").run Try.prog w = .ok (92, v) w := by intro v w; kernel_rfl
theorem mt114_97 : ∀ v w, (method (Try.prog.types.size + Made.depth) 114 v "inquest/edge.is").run Try.prog w = .ok (97, v) w := by intro v w; kernel_rfl
theorem pt29 : Try.prog.underlying 29 = some (.pointer (Try.prog.pointee 29)) := by kernel_rfl
theorem pt87 : Try.prog.underlying 87 = some (.pointer (Try.prog.pointee 87)) := by kernel_rfl
theorem sz111 : szT Try.prog 111 = some (1, false) := by kernel_rfl
theorem sz114 : szT Try.prog 114 = some (1, false) := by kernel_rfl
theorem sz22 : szT Try.prog 22 = some (1, false) := by kernel_rfl
theorem sz24 : szT Try.prog 24 = some (1, true) := by kernel_rfl
theorem sz25 : szT Try.prog 25 = some (1, false) := by kernel_rfl
theorem sz3 : szT Try.prog 3 = some (1, false) := by kernel_rfl
theorem sz35 : szT Try.prog 35 = some (3, true) := by kernel_rfl
theorem sz36 : szT Try.prog 36 = some (1, false) := by kernel_rfl
theorem sz38 : szT Try.prog 38 = some (7, true) := by kernel_rfl
theorem sz4 : szT Try.prog 4 = some (1, false) := by kernel_rfl
theorem sz48 : szT Try.prog 48 = some (7, true) := by kernel_rfl
theorem sz56 : szT Try.prog 56 = some (1, false) := by kernel_rfl
theorem sz58 : szT Try.prog 58 = some (3, true) := by kernel_rfl
theorem sz59 : szT Try.prog 59 = some (1, false) := by kernel_rfl
theorem sz78 : szT Try.prog 78 = some (2, true) := by kernel_rfl
theorem sz82 : szT Try.prog 82 = some (1, false) := by kernel_rfl
theorem sz84 : szT Try.prog 84 = some (2, true) := by kernel_rfl
theorem ze108 : (zrT Try.prog 111).isSome = true := by kernel_rfl
theorem ze22 : (zrT Try.prog 58).isSome = true := by kernel_rfl
theorem ze25 : (zrT Try.prog 38).isSome = true := by kernel_rfl
theorem ze36 : (zrT Try.prog 3).isSome = true := by kernel_rfl
theorem ze40 : (zrT Try.prog 48).isSome = true := by kernel_rfl
theorem ze53 : (zrT Try.prog 35).isSome = true := by kernel_rfl
theorem ze56 : (zrT Try.prog 78).isSome = true := by kernel_rfl
theorem ze80 : (zrT Try.prog 84).isSome = true := by kernel_rfl
theorem zr24 : zrT Try.prog 24 = some (.agg #[.slice none 0 0]) := by kernel_rfl
theorem zr35 : zrT Try.prog 35 = some (.agg #[.int .i64 0, .int .i64 0, .int .i64 0]) := by kernel_rfl
theorem zr38 : zrT Try.prog 38 = some (.agg #[.int .i64 0, .int .i64 0, .int .i64 0, .int .i64 0, .int .i64 0, .int .i64 0, .slice none 0 0]) := by kernel_rfl
theorem zr4 : zrT Try.prog 4 = some (.bool false) := by kernel_rfl
theorem zr48 : zrT Try.prog 48 = some (.agg #[.int .i64 0, .int .i64 0, .int .i64 0, .int .i64 0, .int .i64 0, .int .i64 0, .slice none 0 0]) := by kernel_rfl
theorem zr58 : zrT Try.prog 58 = some (.agg #[.int .i64 0, .slice none 0 0, .slice none 0 0]) := by kernel_rfl
theorem zr78 : zrT Try.prog 78 = some (.agg #[.int .i64 0, .int .i64 0]) := by kernel_rfl
theorem zr84 : zrT Try.prog 84 = some (.agg #[.int .i64 0, .nilFunc]) := by kernel_rfl
theorem ints_api_Choice : intsB Try.prog 35 3 = true := by kernel_rfl
theorem dec_api_Choice (x y : G.api_Choice) : decide ([x.Key, x.A, x.B] = [y.Key, y.A, y.B]) = decide (x = y) := by cases x; cases y; simp
theorem t_eq_api_Choice {W0 : Base} {fr : Fr} {H : Heap} {o : Oper} {t' : TypeId} {x y : Operand} {a b : G.api_Choice} (ho : o.op = .binOp .eql 35 x y t') (hx : evalA fr x = some (G.api_Choice.av a)) (hy : evalA fr y = some (G.api_Choice.av b)) : AOp Try.prog W0 o fr H (bl (decide (a = b))) H := (t_eq_ints [a.Key, a.A, a.B] [b.Key, b.A, b.B] ints_api_Choice rfl rfl ho hx hy).conv (by rw [dec_api_Choice])
theorem t_ne_api_Choice {W0 : Base} {fr : Fr} {H : Heap} {o : Oper} {t' : TypeId} {x y : Operand} {a b : G.api_Choice} (ho : o.op = .binOp .neq 35 x y t') (hx : evalA fr x = some (G.api_Choice.av a)) (hy : evalA fr y = some (G.api_Choice.av b)) : AOp Try.prog W0 o fr H (bl (!decide (a = b))) H := (t_ne_ints [a.Key, a.A, a.B] [b.Key, b.A, b.B] ints_api_Choice rfl rfl ho hx hy).conv (by rw [dec_api_Choice])
theorem ints_api_Take : intsB Try.prog 78 2 = true := by kernel_rfl
theorem dec_api_Take (x y : G.api_Take) : decide ([x.Key, x.From] = [y.Key, y.From]) = decide (x = y) := by cases x; cases y; simp
theorem t_eq_api_Take {W0 : Base} {fr : Fr} {H : Heap} {o : Oper} {t' : TypeId} {x y : Operand} {a b : G.api_Take} (ho : o.op = .binOp .eql 78 x y t') (hx : evalA fr x = some (G.api_Take.av a)) (hy : evalA fr y = some (G.api_Take.av b)) : AOp Try.prog W0 o fr H (bl (decide (a = b))) H := (t_eq_ints [a.Key, a.From] [b.Key, b.From] ints_api_Take rfl rfl ho hx hy).conv (by rw [dec_api_Take])
end Wk
