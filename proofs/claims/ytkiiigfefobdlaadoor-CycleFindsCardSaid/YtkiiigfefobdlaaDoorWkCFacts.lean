/- What the types of the loaded program are. -/
import Derived.Test.YtkiiigfefobdlaaDoorSh
import Derived.Test.YtkiiigfefobdlaaDoorRows
import Derived.KernelRfl
import Derived.Test.YtkiiigfefobdlaaDoorWkCLay
open Go Go.Av Go.Proofs
namespace Wk
def Tab (W0 : World) : Prop := TabAt W0 0
theorem ar51 : arT Tryd.prog 51 = some (64, 1) := by kernel_rfl
theorem ar95 : arT Tryd.prog 95 = some (64, 1) := by kernel_rfl
theorem bd24 : bdT Tryd.prog 24 = some ([(0, 1), (1, 1)], [.int .i64 0, .slice none 0 0]) := by kernel_rfl
theorem bd63 : bdT Tryd.prog 63 = some ([(0, 1), (1, 1)], [.int .i64 0, .int .u64 0]) := by kernel_rfl
theorem bd67 : bdT Tryd.prog 67 = some ([(0, 2), (2, 1), (3, 1), (4, 1), (5, 1), (6, 1), (7, 1), (8, 1)], [.int .i64 0, .slice none 0 0, .slice none 0 0, .slice none 0 0, .slice none 0 0, .int .i64 0, .pointer none, .pointer none, .slice none 0 0]) := by kernel_rfl
theorem bd80 : bdT Tryd.prog 80 = some ([(0, 1), (1, 1)], [.int .i64 0, .int .i64 0]) := by kernel_rfl
theorem bd85 : bdT Tryd.prog 85 = some ([(0, 1), (1, 1)], [.int .i64 0, .slice none 0 0]) := by kernel_rfl
theorem bd97 : bdT Tryd.prog 97 = some ([(0, 1), (1, 1)], [.int .i64 0, .slice none 0 0]) := by kernel_rfl
theorem el22 : elT Tryd.prog 22 = some (35, 1, 8) := by kernel_rfl
theorem el25 : elT Tryd.prog 25 = some (3, 1, 8) := by kernel_rfl
theorem el42 : elT Tryd.prog 42 = some (25, 1, 24) := by kernel_rfl
theorem el59 : elT Tryd.prog 59 = some (4, 1, 1) := by kernel_rfl
theorem el77 : elT Tryd.prog 77 = some (80, 2, 16) := by kernel_rfl
theorem el83 : elT Tryd.prog 83 = some (63, 2, 16) := by kernel_rfl
theorem et25 : ElT Tryd.prog 25 3 1 8 (.int .i64 0) := ⟨by kernel_rfl, by kernel_rfl, rfl, by simp [Value.cells, Value.oneCell'], by decide, by decide⟩
theorem et42 : ElT Tryd.prog 42 25 1 24 (.slice none 0 0) := ⟨by kernel_rfl, by kernel_rfl, rfl, by simp [Value.cells, Value.oneCell'], by decide, by decide⟩
theorem et77 : ElT Tryd.prog 77 80 2 16 (.agg #[.int .i64 0, .int .i64 0]) := ⟨by kernel_rfl, by kernel_rfl, rfl, by simp [Value.cells, Value.oneCell'], by decide, by decide⟩
theorem et83 : ElT Tryd.prog 83 63 2 16 (.agg #[.int .i64 0, .int .u64 0]) := ⟨by kernel_rfl, by kernel_rfl, rfl, by simp [Value.cells, Value.oneCell'], by decide, by decide⟩
theorem fd24_0 : fdT Tryd.prog 24 0 = some (0, 1, false) := by kernel_rfl
theorem fd24_1 : fdT Tryd.prog 24 1 = some (1, 1, false) := by kernel_rfl
theorem fd63_0 : fdT Tryd.prog 63 0 = some (0, 1, false) := by kernel_rfl
theorem fd63_1 : fdT Tryd.prog 63 1 = some (1, 1, false) := by kernel_rfl
theorem fd67_0 : fdT Tryd.prog 67 0 = some (0, 2, true) := by kernel_rfl
theorem fd67_1 : fdT Tryd.prog 67 1 = some (2, 1, false) := by kernel_rfl
theorem fd67_2 : fdT Tryd.prog 67 2 = some (3, 1, false) := by kernel_rfl
theorem fd67_3 : fdT Tryd.prog 67 3 = some (4, 1, false) := by kernel_rfl
theorem fd67_4 : fdT Tryd.prog 67 4 = some (5, 1, false) := by kernel_rfl
theorem fd67_5 : fdT Tryd.prog 67 5 = some (6, 1, false) := by kernel_rfl
theorem fd67_6 : fdT Tryd.prog 67 6 = some (7, 1, false) := by kernel_rfl
theorem fd67_7 : fdT Tryd.prog 67 7 = some (8, 1, false) := by kernel_rfl
theorem fd80_0 : fdT Tryd.prog 80 0 = some (0, 1, false) := by kernel_rfl
theorem fd80_1 : fdT Tryd.prog 80 1 = some (1, 1, false) := by kernel_rfl
theorem fd85_0 : fdT Tryd.prog 85 0 = some (0, 1, false) := by kernel_rfl
theorem fd85_1 : fdT Tryd.prog 85 1 = some (1, 1, false) := by kernel_rfl
theorem fd97_0 : fdT Tryd.prog 97 0 = some (0, 1, false) := by kernel_rfl
theorem fd97_1 : fdT Tryd.prog 97 1 = some (1, 1, false) := by kernel_rfl
theorem sz22 : szT Tryd.prog 22 = some (1, false) := by kernel_rfl
theorem sz24 : szT Tryd.prog 24 = some (2, true) := by kernel_rfl
theorem sz25 : szT Tryd.prog 25 = some (1, false) := by kernel_rfl
theorem sz3 : szT Tryd.prog 3 = some (1, false) := by kernel_rfl
theorem sz35 : szT Tryd.prog 35 = some (1, false) := by kernel_rfl
theorem sz4 : szT Tryd.prog 4 = some (1, false) := by kernel_rfl
theorem sz42 : szT Tryd.prog 42 = some (1, false) := by kernel_rfl
theorem sz5 : szT Tryd.prog 5 = some (1, false) := by kernel_rfl
theorem sz51 : szT Tryd.prog 51 = some (64, true) := by kernel_rfl
theorem sz59 : szT Tryd.prog 59 = some (1, false) := by kernel_rfl
theorem sz60 : szT Tryd.prog 60 = some (1, false) := by kernel_rfl
theorem sz63 : szT Tryd.prog 63 = some (2, true) := by kernel_rfl
theorem sz64 : szT Tryd.prog 64 = some (1, false) := by kernel_rfl
theorem sz80 : szT Tryd.prog 80 = some (2, true) := by kernel_rfl
theorem sz83 : szT Tryd.prog 83 = some (1, false) := by kernel_rfl
theorem ze22 : (zrT Tryd.prog 35).isSome = true := by kernel_rfl
theorem ze25 : (zrT Tryd.prog 3).isSome = true := by kernel_rfl
theorem ze42 : (zrT Tryd.prog 25).isSome = true := by kernel_rfl
theorem ze77 : (zrT Tryd.prog 80).isSome = true := by kernel_rfl
theorem ze83 : (zrT Tryd.prog 63).isSome = true := by kernel_rfl
theorem zr24 : zrT Tryd.prog 24 = some (.agg #[.int .i64 0, .slice none 0 0]) := by kernel_rfl
theorem zr51 : zrT Tryd.prog 51 = some (.agg (List.replicate 64 (Value.int .i64 0)).toArray) := by kernel_rfl
theorem zr63 : zrT Tryd.prog 63 = some (.agg #[.int .i64 0, .int .u64 0]) := by kernel_rfl
theorem zr80 : zrT Tryd.prog 80 = some (.agg #[.int .i64 0, .int .i64 0]) := by kernel_rfl
theorem zv22 : zrT Tryd.prog 35 = some (.int .u64 0) := by kernel_rfl
theorem zv25 : zrT Tryd.prog 3 = some (.int .i64 0) := by kernel_rfl
theorem zv59 : zrT Tryd.prog 4 = some (.bool false) := by kernel_rfl

end Wk
