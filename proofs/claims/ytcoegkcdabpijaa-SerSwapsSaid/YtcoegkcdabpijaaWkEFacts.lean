/- What the types of the loaded program are. -/
import Derived.Test.YtcoegkcdabpijaaSh
import Derived.Test.YtcoegkcdabpijaaRows
import Derived.KernelRfl
open Go Go.Av Go.Proofs
namespace Wk
def Tab (_ : World) : Prop := True
theorem ar52 : arT Try.prog 52 = some (16, 1) := by kernel_rfl
theorem ar54 : arT Try.prog 54 = some (8, 1) := by kernel_rfl
theorem ar71 : arT Try.prog 71 = some (32, 1) := by kernel_rfl
theorem bd24 : bdT Try.prog 24 = some ([(0, 1)], [.slice none 0 0]) := by kernel_rfl
theorem bd36 : bdT Try.prog 36 = some ([(0, 1), (1, 1), (2, 1)], [.int .i64 0, .slice none 0 0, .slice none 0 0]) := by kernel_rfl
theorem bd39 : bdT Try.prog 39 = some ([(0, 1), (1, 1)], [.int .i64 0, .int .i64 0]) := by kernel_rfl
theorem ca45 : Callable Try.prog 45 := callable_of Try.func45 (by kernel_rfl) rfl
theorem el22 : elT Try.prog 22 = some (36, 3, 56) := by kernel_rfl
theorem el25 : elT Try.prog 25 = some (3, 1, 8) := by kernel_rfl
theorem el28 : elT Try.prog 28 = some (32, 1, 24) := by kernel_rfl
theorem el32 : elT Try.prog 32 = some (39, 2, 16) := by kernel_rfl
theorem et25 : ElT Try.prog 25 3 1 8 (.int .i64 0) := ⟨by kernel_rfl, by kernel_rfl, rfl, by simp [Value.cells, Value.oneCell'], by decide, by decide⟩
theorem et32 : ElT Try.prog 32 39 2 16 (.agg #[.int .i64 0, .int .i64 0]) := ⟨by kernel_rfl, by kernel_rfl, rfl, by simp [Value.cells, Value.oneCell'], by decide, by decide⟩
theorem fd24_0 : fdT Try.prog 24 0 = some (0, 1, false) := by kernel_rfl
theorem fd36_0 : fdT Try.prog 36 0 = some (0, 1, false) := by kernel_rfl
theorem fd36_1 : fdT Try.prog 36 1 = some (1, 1, false) := by kernel_rfl
theorem fd36_2 : fdT Try.prog 36 2 = some (2, 1, false) := by kernel_rfl
theorem fd39_0 : fdT Try.prog 39 0 = some (0, 1, false) := by kernel_rfl
theorem fd39_1 : fdT Try.prog 39 1 = some (1, 1, false) := by kernel_rfl
theorem sz22 : szT Try.prog 22 = some (1, false) := by kernel_rfl
theorem sz24 : szT Try.prog 24 = some (1, true) := by kernel_rfl
theorem sz25 : szT Try.prog 25 = some (1, false) := by kernel_rfl
theorem sz3 : szT Try.prog 3 = some (1, false) := by kernel_rfl
theorem sz32 : szT Try.prog 32 = some (1, false) := by kernel_rfl
theorem sz36 : szT Try.prog 36 = some (3, true) := by kernel_rfl
theorem sz39 : szT Try.prog 39 = some (2, true) := by kernel_rfl
theorem sz4 : szT Try.prog 4 = some (1, false) := by kernel_rfl
theorem ze22 : (zrT Try.prog 36).isSome = true := by kernel_rfl
theorem ze25 : (zrT Try.prog 3).isSome = true := by kernel_rfl
theorem ze32 : (zrT Try.prog 39).isSome = true := by kernel_rfl
theorem zr24 : zrT Try.prog 24 = some (.agg #[.slice none 0 0]) := by kernel_rfl
theorem zr36 : zrT Try.prog 36 = some (.agg #[.int .i64 0, .slice none 0 0, .slice none 0 0]) := by kernel_rfl
theorem zr39 : zrT Try.prog 39 = some (.agg #[.int .i64 0, .int .i64 0]) := by kernel_rfl
theorem zr4 : zrT Try.prog 4 = some (.bool false) := by kernel_rfl
theorem zr52 : zrT Try.prog 52 = some (.agg (List.replicate 16 (Value.int .i64 0)).toArray) := by kernel_rfl
theorem zr54 : zrT Try.prog 54 = some (.agg #[.int .i64 0, .int .i64 0, .int .i64 0, .int .i64 0, .int .i64 0, .int .i64 0, .int .i64 0, .int .i64 0]) := by kernel_rfl
theorem zr71 : zrT Try.prog 71 = some (.agg (List.replicate 32 (Value.bool false)).toArray) := by kernel_rfl
theorem zv28 : zrT Try.prog 32 = some (.slice none 0 0) := by kernel_rfl
theorem ints_api_Take : intsB Try.prog 39 2 = true := by kernel_rfl
theorem dec_api_Take (x y : G.api_Take) : decide ([x.Key, x.From] = [y.Key, y.From]) = decide (x = y) := by cases x; cases y; simp
theorem t_ne_api_Take {W0 : Base} {fr : Fr} {H : Heap} {o : Oper} {t' : TypeId} {x y : Operand} {a b : G.api_Take} (ho : o.op = .binOp .neq 39 x y t') (hx : evalA fr x = some (G.api_Take.av a)) (hy : evalA fr y = some (G.api_Take.av b)) : AOp Try.prog W0 o fr H (bl (!decide (a = b))) H := (t_ne_ints [a.Key, a.From] [b.Key, b.From] ints_api_Take rfl rfl ho hx hy).conv (by rw [dec_api_Take])
end Wk
