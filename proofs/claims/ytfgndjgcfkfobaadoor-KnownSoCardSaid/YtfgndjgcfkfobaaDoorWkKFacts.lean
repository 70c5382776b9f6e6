/- What the types of the loaded program are. -/
import Derived.Test.YtfgndjgcfkfobaaDoorSh
import Derived.Test.YtfgndjgcfkfobaaDoorRows
import Derived.KernelRfl
import Derived.Test.YtfgndjgcfkfobaaDoorWkKLay
open Go Go.Av Go.Proofs
namespace Wk
def Tab (W0 : World) : Prop := TabAt W0 0
theorem ar121 : arT Tryd.prog 121 = some (64, 1) := by kernel_rfl
theorem bd24 : bdT Tryd.prog 24 = some ([(0, 1)], [.slice none 0 0]) := by kernel_rfl
theorem bd29 : bdT Tryd.prog 29 = some ([(0, 1), (1, 1)], [.int .i64 0, .slice none 0 0]) := by kernel_rfl
theorem bd31 : bdT Tryd.prog 31 = some ([(0, 1), (1, 1)], [.int .i64 0, .slice none 0 0]) := by kernel_rfl
theorem bd40 : bdT Tryd.prog 40 = some ([(0, 1), (1, 1), (2, 1)], [.int .i64 0, .slice none 0 0, .slice none 0 0]) := by kernel_rfl
theorem bd70 : bdT Tryd.prog 70 = some ([(0, 1), (1, 1)], [.int .i64 0, .int .i64 0]) := by kernel_rfl
theorem bd87 : bdT Tryd.prog 87 = some ([(0, 1), (1, 1)], [.int .i64 0, .int .i64 0]) := by kernel_rfl
theorem bd92 : bdT Tryd.prog 92 = some ([(0, 1), (1, 2)], [.int .i64 0, .int .i64 0, .int .i64 0]) := by kernel_rfl
theorem ca84 : Callable Tryd.prog 84 := callable_of Tryd.func84 (by kernel_rfl) rfl
theorem ca89 : Callable Tryd.prog 89 := callable_of Tryd.func89 (by kernel_rfl) rfl
theorem el22 : elT Tryd.prog 22 = some (40, 3, 56) := by kernel_rfl
theorem el27 : elT Tryd.prog 27 = some (61, 1, 8) := by kernel_rfl
theorem el37 : elT Tryd.prog 37 = some (3, 1, 8) := by kernel_rfl
theorem el38 : elT Tryd.prog 38 = some (70, 2, 16) := by kernel_rfl
theorem el41 : elT Tryd.prog 41 = some (87, 2, 16) := by kernel_rfl
theorem et37 : ElT Tryd.prog 37 3 1 8 (.int .i64 0) := ⟨by kernel_rfl, by kernel_rfl, rfl, by simp [Value.cells, Value.oneCell'], by decide, by decide⟩
theorem et41 : ElT Tryd.prog 41 87 2 16 (.agg #[.int .i64 0, .int .i64 0]) := ⟨by kernel_rfl, by kernel_rfl, rfl, by simp [Value.cells, Value.oneCell'], by decide, by decide⟩
theorem fd24_0 : fdT Tryd.prog 24 0 = some (0, 1, false) := by kernel_rfl
theorem fd29_0 : fdT Tryd.prog 29 0 = some (0, 1, false) := by kernel_rfl
theorem fd29_1 : fdT Tryd.prog 29 1 = some (1, 1, false) := by kernel_rfl
theorem fd31_0 : fdT Tryd.prog 31 0 = some (0, 1, false) := by kernel_rfl
theorem fd31_1 : fdT Tryd.prog 31 1 = some (1, 1, false) := by kernel_rfl
theorem fd40_0 : fdT Tryd.prog 40 0 = some (0, 1, false) := by kernel_rfl
theorem fd40_1 : fdT Tryd.prog 40 1 = some (1, 1, false) := by kernel_rfl
theorem fd40_2 : fdT Tryd.prog 40 2 = some (2, 1, false) := by kernel_rfl
theorem fd70_0 : fdT Tryd.prog 70 0 = some (0, 1, false) := by kernel_rfl
theorem fd70_1 : fdT Tryd.prog 70 1 = some (1, 1, false) := by kernel_rfl
theorem fd92_0 : fdT Tryd.prog 92 0 = some (0, 1, false) := by kernel_rfl
theorem fd92_1 : fdT Tryd.prog 92 1 = some (1, 2, true) := by kernel_rfl
theorem sz22 : szT Tryd.prog 22 = some (1, false) := by kernel_rfl
theorem sz24 : szT Tryd.prog 24 = some (1, true) := by kernel_rfl
theorem sz27 : szT Tryd.prog 27 = some (1, false) := by kernel_rfl
theorem sz29 : szT Tryd.prog 29 = some (2, true) := by kernel_rfl
theorem sz3 : szT Tryd.prog 3 = some (1, false) := by kernel_rfl
theorem sz31 : szT Tryd.prog 31 = some (2, true) := by kernel_rfl
theorem sz37 : szT Tryd.prog 37 = some (1, false) := by kernel_rfl
theorem sz38 : szT Tryd.prog 38 = some (1, false) := by kernel_rfl
theorem sz4 : szT Tryd.prog 4 = some (1, false) := by kernel_rfl
theorem sz40 : szT Tryd.prog 40 = some (3, true) := by kernel_rfl
theorem sz5 : szT Tryd.prog 5 = some (1, false) := by kernel_rfl
theorem sz61 : szT Tryd.prog 61 = some (1, false) := by kernel_rfl
theorem sz70 : szT Tryd.prog 70 = some (2, true) := by kernel_rfl
theorem sz92 : szT Tryd.prog 92 = some (3, true) := by kernel_rfl
theorem ze22 : (zrT Tryd.prog 40).isSome = true := by kernel_rfl
theorem ze27 : (zrT Tryd.prog 61).isSome = true := by kernel_rfl
theorem ze37 : (zrT Tryd.prog 3).isSome = true := by kernel_rfl
theorem ze38 : (zrT Tryd.prog 70).isSome = true := by kernel_rfl
theorem ze41 : (zrT Tryd.prog 87).isSome = true := by kernel_rfl
theorem zr24 : zrT Tryd.prog 24 = some (.agg #[.slice none 0 0]) := by kernel_rfl
theorem zr29 : zrT Tryd.prog 29 = some (.agg #[.int .i64 0, .slice none 0 0]) := by kernel_rfl
theorem zr31 : zrT Tryd.prog 31 = some (.agg #[.int .i64 0, .slice none 0 0]) := by kernel_rfl
theorem zr37 : zrT Tryd.prog 37 = some (.slice none 0 0) := by kernel_rfl
theorem zr4 : zrT Tryd.prog 4 = some (.bool false) := by kernel_rfl
theorem zr40 : zrT Tryd.prog 40 = some (.agg #[.int .i64 0, .slice none 0 0, .slice none 0 0]) := by kernel_rfl
theorem zr70 : zrT Tryd.prog 70 = some (.agg #[.int .i64 0, .int .i64 0]) := by kernel_rfl
theorem zr92 : zrT Tryd.prog 92 = some (.agg #[.int .i64 0, .int .i64 0, .int .i64 0]) := by kernel_rfl
theorem zv27 : zrT Tryd.prog 61 = some (.int .u64 0) := by kernel_rfl
theorem dec_api_Take (x y : G.api_Take) : decide ([x.Key, x.From] = [y.Key, y.From]) = decide (x = y) := by cases x; cases y; simp
end Wk
