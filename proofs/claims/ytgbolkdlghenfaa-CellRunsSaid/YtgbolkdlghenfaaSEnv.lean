/- Helper lemmas for the claim's theorem: an abstract machine over the model, proved sound; no condition beyond each lemma's own. -/
import Derived.Test.YtgbolkdlghenfaaAmF
import Derived.Test.YtgbolkdlghenfaaAmA
import Derived.Test.YtgbolkdlghenfaaProg
import Derived.KernelRfl
set_option linter.unusedVariables false
set_option linter.unusedSimpArgs false
set_option linter.unnecessarySimpa false
set_option linter.unusedSectionVars false
namespace Go.Proofs.Ytgbolkdlghenfaa
open Go Go.AM
set_option maxRecDepth 100000
def E : Env := [
  (1, ⟨.fn, 1, 8, [.nilf]⟩),
  (2, ⟨.int .i64, 1, 8, [.int .i64 (0)]⟩),
  (3, ⟨.int .i64, 1, 8, [.int .i64 (0)]⟩),
  (4, ⟨.bool, 1, 1, [.bool false]⟩),
  (5, ⟨.int .u8, 1, 1, [.int .u8 (0)]⟩),
  (6, ⟨.int .u8, 1, 1, [.int .u8 (0)]⟩),
  (7, ⟨.st [(2, 0), (3, 1), (4, 2), (6, 3)], 4, 24, [.int .i64 (0), .int .i64 (0), .bool false, .int .u8 (0)]⟩),
  (8, ⟨.st [(2, 0), (3, 1), (4, 2), (6, 3)], 4, 24, [.int .i64 (0), .int .i64 (0), .bool false, .int .u8 (0)]⟩),
  (9, ⟨.str, 1, 16, [.str ByteArray.empty]⟩),
  (10, ⟨.str, 1, 16, [.str ByteArray.empty]⟩),
  (11, ⟨.str, 1, 16, [.str ByteArray.empty]⟩),
  (12, ⟨.int .u64, 1, 8, [.int .u64 (0)]⟩),
  (13, ⟨.st [(9, 0), (12, 1)], 2, 24, [.str ByteArray.empty, .int .u64 (0)]⟩),
  (14, ⟨.st [(9, 0), (12, 1)], 2, 24, [.str ByteArray.empty, .int .u64 (0)]⟩),
  (15, ⟨.ptr 61, 1, 8, [.nilp]⟩),
  (16, ⟨.ptr 64, 1, 8, [.nilp]⟩),
  (17, ⟨.ptr 74, 1, 8, [.nilp]⟩),
  (18, ⟨.st [(17, 0)], 1, 8, [.nilp]⟩),
  (19, ⟨.st [(17, 0)], 1, 8, [.nilp]⟩),
  (21, ⟨.int .i32, 1, 4, [.int .i32 (0)]⟩),
  (22, ⟨.sli 2, 1, 24, [.nils]⟩),
  (23, ⟨.sli 2, 1, 24, [.nils]⟩),
  (24, ⟨.fn, 1, 8, [.nilf]⟩),
  (25, ⟨.int .i64, 1, 8, [.int .i64 (0)]⟩),
  (27, ⟨.fn, 1, 8, [.nilf]⟩),
  (29, ⟨.fn, 1, 8, [.nilf]⟩),
  (30, ⟨.st [(3, 0), (3, 1), (2, 2), (2, 3)], 4, 32, [.int .i64 (0), .int .i64 (0), .int .i64 (0), .int .i64 (0)]⟩),
  (31, ⟨.st [(3, 0), (3, 1), (2, 2), (2, 3)], 4, 32, [.int .i64 (0), .int .i64 (0), .int .i64 (0), .int .i64 (0)]⟩),
  (33, ⟨.fn, 1, 8, [.nilf]⟩),
  (34, ⟨.fn, 1, 8, [.nilf]⟩),
  (36, ⟨.fn, 1, 8, [.nilf]⟩),
  (37, ⟨.fn, 1, 8, [.nilf]⟩),
  (38, ⟨.fn, 1, 8, [.nilf]⟩),
  (39, ⟨.fn, 1, 8, [.nilf]⟩),
  (40, ⟨.fn, 1, 8, [.nilf]⟩),
  (41, ⟨.map 4 2, 1, 8, [.nilm]⟩),
  (42, ⟨.fn, 1, 8, [.nilf]⟩),
  (43, ⟨.fn, 1, 8, [.nilf]⟩),
  (44, ⟨.fn, 1, 8, [.nilf]⟩),
  (45, ⟨.sli 31, 1, 24, [.nils]⟩),
  (47, ⟨.fn, 1, 8, [.nilf]⟩),
  (48, ⟨.fn, 1, 8, [.nilf]⟩),
  (49, ⟨.ptr 2, 1, 8, [.nilp]⟩),
  (51, ⟨.fn, 1, 8, [.nilf]⟩),
  (52, ⟨.fn, 1, 8, [.nilf]⟩),
  (53, ⟨.fn, 1, 8, [.nilf]⟩),
  (55, ⟨.fn, 1, 8, [.nilf]⟩),
  (57, ⟨.fn, 1, 8, [.nilf]⟩),
  (58, ⟨.fn, 1, 8, [.nilf]⟩),
  (59, ⟨.fn, 1, 8, [.nilf]⟩),
  (60, ⟨.st [(17, 0), (17, 1), (17, 2), (9, 3)], 4, 40, [.nilp, .nilp, .nilp, .str ByteArray.empty]⟩),
  (61, ⟨.st [(17, 0), (17, 1), (17, 2), (9, 3)], 4, 40, [.nilp, .nilp, .nilp, .str ByteArray.empty]⟩),
  (62, ⟨.arr 0 16, 0, 0, []⟩),
  (63, ⟨.st [(62, 0)], 0, 0, []⟩),
  (64, ⟨.st [(62, 0)], 0, 0, []⟩),
  (65, ⟨.fn, 1, 8, [.nilf]⟩),
  (66, ⟨.int .u32, 1, 4, [.int .u32 (0)]⟩),
  (67, ⟨.int .u8, 1, 1, [.int .u8 (0)]⟩),
  (68, ⟨.int .u8, 1, 1, [.int .u8 (0)]⟩),
  (69, ⟨.fn, 1, 8, [.nilf]⟩),
  (70, ⟨.ptr 5, 1, 8, [.nilp]⟩),
  (71, ⟨.int .i32, 1, 4, [.int .i32 (0)]⟩),
  (72, ⟨.int .i32, 1, 4, [.int .i32 (0)]⟩),
  (73, ⟨.st [(12, 0), (12, 1), (66, 2), (67, 3), (5, 4), (5, 5), (68, 6), (69, 7), (70, 8), (71, 9), (72, 10)], 11, 48, [.int .u64 (0), .int .u64 (0), .int .u32 (0), .int .u8 (0), .int .u8 (0), .int .u8 (0), .int .u8 (0), .nilf, .nilp, .int .i32 (0), .int .i32 (0)]⟩),
  (74, ⟨.st [(12, 0), (12, 1), (66, 2), (67, 3), (5, 4), (5, 5), (68, 6), (69, 7), (70, 8), (71, 9), (72, 10)], 11, 48, [.int .u64 (0), .int .u64 (0), .int .u32 (0), .int .u8 (0), .int .u8 (0), .int .u8 (0), .int .u8 (0), .nilf, .nilp, .int .i32 (0), .int .i32 (0)]⟩)]
theorem E_good : E.good Try.prog = true := by kernel_rfl
theorem mixed : Try.prog.follows .mixedOrders = true := by kernel_rfl
end Go.Proofs.Ytgbolkdlghenfaa
