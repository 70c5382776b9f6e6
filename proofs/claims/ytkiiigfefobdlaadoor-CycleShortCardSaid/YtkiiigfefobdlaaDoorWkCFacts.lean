/- What the types of the loaded program are. -/
import Derived.Test.YtkiiigfefobdlaaDoorSh
import Derived.Test.YtkiiigfefobdlaaDoorRows
import Derived.KernelRfl
open Go Go.Av Go.Proofs
namespace Wk
def Tab (W0 : World) : Prop := TabAt W0 0
theorem ar51 : arT Tryd.prog 51 = some (64, 1) := by kernel_rfl
theorem ar95 : arT Tryd.prog 95 = some (64, 1) := by kernel_rfl
theorem bd24 : bdT Tryd.prog 24 = some ([(0, 1), (1, 1)], [.int .i64 0, .slice none 0 0]) := by kernel_rfl
theorem bd27 : bdT Tryd.prog 27 = some ([(0, 1), (1, 1)], [.int .i64 0, .slice none 0 0]) := by kernel_rfl
theorem bd80 : bdT Tryd.prog 80 = some ([(0, 1), (1, 1)], [.int .i64 0, .int .i64 0]) := by kernel_rfl
theorem el22 : elT Tryd.prog 22 = some (35, 1, 8) := by kernel_rfl
theorem el25 : elT Tryd.prog 25 = some (3, 1, 8) := by kernel_rfl
theorem el42 : elT Tryd.prog 42 = some (25, 1, 24) := by kernel_rfl
theorem el59 : elT Tryd.prog 59 = some (4, 1, 1) := by kernel_rfl
theorem el77 : elT Tryd.prog 77 = some (80, 2, 16) := by kernel_rfl
theorem et22 : ElT Tryd.prog 22 35 1 8 (.int .u64 0) := ⟨by kernel_rfl, by kernel_rfl, rfl, by simp [Value.cells, Value.oneCell'], by decide, by decide⟩
theorem et25 : ElT Tryd.prog 25 3 1 8 (.int .i64 0) := ⟨by kernel_rfl, by kernel_rfl, rfl, by simp [Value.cells, Value.oneCell'], by decide, by decide⟩
theorem et77 : ElT Tryd.prog 77 80 2 16 (.agg #[.int .i64 0, .int .i64 0]) := ⟨by kernel_rfl, by kernel_rfl, rfl, by simp [Value.cells, Value.oneCell'], by decide, by decide⟩
theorem fd24_0 : fdT Tryd.prog 24 0 = some (0, 1, false) := by kernel_rfl
theorem fd24_1 : fdT Tryd.prog 24 1 = some (1, 1, false) := by kernel_rfl
theorem fd27_0 : fdT Tryd.prog 27 0 = some (0, 1, false) := by kernel_rfl
theorem fd27_1 : fdT Tryd.prog 27 1 = some (1, 1, false) := by kernel_rfl
theorem fd80_0 : fdT Tryd.prog 80 0 = some (0, 1, false) := by kernel_rfl
theorem fd80_1 : fdT Tryd.prog 80 1 = some (1, 1, false) := by kernel_rfl
theorem sz115 : szT Tryd.prog 115 = some (1, false) := by kernel_rfl
theorem sz22 : szT Tryd.prog 22 = some (1, false) := by kernel_rfl
theorem sz24 : szT Tryd.prog 24 = some (2, true) := by kernel_rfl
theorem sz25 : szT Tryd.prog 25 = some (1, false) := by kernel_rfl
theorem sz27 : szT Tryd.prog 27 = some (2, true) := by kernel_rfl
theorem sz3 : szT Tryd.prog 3 = some (1, false) := by kernel_rfl
theorem sz35 : szT Tryd.prog 35 = some (1, false) := by kernel_rfl
theorem sz5 : szT Tryd.prog 5 = some (1, false) := by kernel_rfl
theorem sz51 : szT Tryd.prog 51 = some (64, true) := by kernel_rfl
theorem sz80 : szT Tryd.prog 80 = some (2, true) := by kernel_rfl
theorem ze22 : (zrT Tryd.prog 35).isSome = true := by kernel_rfl
theorem ze25 : (zrT Tryd.prog 3).isSome = true := by kernel_rfl
theorem ze77 : (zrT Tryd.prog 80).isSome = true := by kernel_rfl
theorem zr115 : zrT Tryd.prog 115 = some (.int .u64 0) := by kernel_rfl
theorem zr24 : zrT Tryd.prog 24 = some (.agg #[.int .i64 0, .slice none 0 0]) := by kernel_rfl
theorem zr27 : zrT Tryd.prog 27 = some (.agg #[.int .i64 0, .slice none 0 0]) := by kernel_rfl
theorem zr3 : zrT Tryd.prog 3 = some (.int .i64 0) := by kernel_rfl
theorem zr51 : zrT Tryd.prog 51 = some (.agg (List.replicate 64 (Value.int .i64 0)).toArray) := by kernel_rfl
theorem zr80 : zrT Tryd.prog 80 = some (.agg #[.int .i64 0, .int .i64 0]) := by kernel_rfl
theorem zv22 : zrT Tryd.prog 35 = some (.int .u64 0) := by kernel_rfl
theorem zv25 : zrT Tryd.prog 3 = some (.int .i64 0) := by kernel_rfl
theorem zv59 : zrT Tryd.prog 4 = some (.bool false) := by kernel_rfl

end Wk
