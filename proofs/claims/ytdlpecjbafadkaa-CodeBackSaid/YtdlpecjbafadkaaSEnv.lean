/- Helper lemmas for the claim's theorem: an abstract machine over the model, proved sound; no condition beyond each lemma's own. -/
import Derived.Test.YtdlpecjbafadkaaAmG
import Derived.Test.YtdlpecjbafadkaaAmA
import Derived.Test.YtdlpecjbafadkaaProg
import Derived.KernelRfl
set_option linter.unusedVariables false
set_option linter.unusedSimpArgs false
set_option linter.unnecessarySimpa false
set_option linter.unusedSectionVars false
namespace Go.Proofs.Ytdlpecjbafadkaa
open Go Go.AM
set_option maxRecDepth 100000
def E : Env := [
  (1, ⟨.fn, 1, 8, [.nilf]⟩),
  (2, ⟨.int .i64, 1, 8, [.int .i64 (0)]⟩),
  (3, ⟨.int .i64, 1, 8, [.int .i64 (0)]⟩),
  (4, ⟨.bool, 1, 1, [.bool false]⟩),
  (5, ⟨.int .u8, 1, 1, [.int .u8 (0)]⟩),
  (6, ⟨.int .u8, 1, 1, [.int .u8 (0)]⟩),
  (7, ⟨.st [(2, 0), (3, 1), (4, 2), (6, 3)], 4, 24, [.int .i64 (0), .int .i64 (0), .bool false, .int .u8 (0)]⟩),
  (8, ⟨.st [(2, 0), (3, 1), (4, 2), (6, 3)], 4, 24, [.int .i64 (0), .int .i64 (0), .bool false, .int .u8 (0)]⟩),
  (9, ⟨.str, 1, 16, [.str ByteArray.empty]⟩),
  (10, ⟨.str, 1, 16, [.str ByteArray.empty]⟩),
  (11, ⟨.str, 1, 16, [.str ByteArray.empty]⟩),
  (12, ⟨.int .u64, 1, 8, [.int .u64 (0)]⟩),
  (13, ⟨.st [(9, 0), (12, 1)], 2, 24, [.str ByteArray.empty, .int .u64 (0)]⟩),
  (14, ⟨.st [(9, 0), (12, 1)], 2, 24, [.str ByteArray.empty, .int .u64 (0)]⟩),
  (15, ⟨.ptr 66, 1, 8, [.nilp]⟩),
  (16, ⟨.ptr 69, 1, 8, [.nilp]⟩),
  (17, ⟨.ptr 79, 1, 8, [.nilp]⟩),
  (18, ⟨.st [(17, 0)], 1, 8, [.nilp]⟩),
  (19, ⟨.st [(17, 0)], 1, 8, [.nilp]⟩),
  (21, ⟨.int .i32, 1, 4, [.int .i32 (0)]⟩),
  (22, ⟨.sli 29, 1, 24, [.nils]⟩),
  (23, ⟨.fn, 1, 8, [.nilf]⟩),
  (24, ⟨.fn, 1, 8, [.nilf]⟩),
  (25, ⟨.int .i64, 1, 8, [.int .i64 (0)]⟩),
  (27, ⟨.fn, 1, 8, [.nilf]⟩),
  (28, ⟨.fn, 1, 8, [.nilf]⟩),
  (29, ⟨.sli 31, 1, 24, [.nils]⟩),
  (30, ⟨.st [(3, 0), (3, 1), (3, 2)], 3, 24, [.int .i64 (0), .int .i64 (0), .int .i64 (0)]⟩),
  (31, ⟨.st [(3, 0), (3, 1), (3, 2)], 3, 24, [.int .i64 (0), .int .i64 (0), .int .i64 (0)]⟩),
  (32, ⟨.fn, 1, 8, [.nilf]⟩),
  (34, ⟨.fn, 1, 8, [.nilf]⟩),
  (35, ⟨.fn, 1, 8, [.nilf]⟩),
  (36, ⟨.fn, 1, 8, [.nilf]⟩),
  (37, ⟨.fn, 1, 8, [.nilf]⟩),
  (38, ⟨.fn, 1, 8, [.nilf]⟩),
  (39, ⟨.fn, 1, 8, [.nilf]⟩),
  (40, ⟨.sli 5, 1, 24, [.nils]⟩),
  (42, ⟨.fn, 1, 8, [.nilf]⟩),
  (44, ⟨.fn, 1, 8, [.nilf]⟩),
  (45, ⟨.fn, 1, 8, [.nilf]⟩),
  (46, ⟨.fn, 1, 8, [.nilf]⟩),
  (47, ⟨.map 3 2, 1, 8, [.nilm]⟩),
  (48, ⟨.map 3 4, 1, 8, [.nilm]⟩),
  (49, ⟨.fn, 1, 8, [.nilf]⟩),
  (51, ⟨.fn, 1, 8, [.nilf]⟩),
  (52, ⟨.fn, 1, 8, [.nilf]⟩),
  (53, ⟨.fn, 1, 8, [.nilf]⟩),
  (54, ⟨.sli 2, 1, 24, [.nils]⟩),
  (55, ⟨.fn, 1, 8, [.nilf]⟩),
  (56, ⟨.fn, 1, 8, [.nilf]⟩),
  (57, ⟨.int .u64, 1, 8, [.int .u64 (0)]⟩),
  (58, ⟨.fn, 1, 8, [.nilf]⟩),
  (59, ⟨.fn, 1, 8, [.nilf]⟩),
  (60, ⟨.fn, 1, 8, [.nilf]⟩),
  (61, ⟨.fn, 1, 8, [.nilf]⟩),
  (62, ⟨.fn, 1, 8, [.nilf]⟩),
  (63, ⟨.fn, 1, 8, [.nilf]⟩),
  (64, ⟨.fn, 1, 8, [.nilf]⟩),
  (65, ⟨.st [(17, 0), (17, 1), (17, 2), (9, 3)], 4, 40, [.nilp, .nilp, .nilp, .str ByteArray.empty]⟩),
  (66, ⟨.st [(17, 0), (17, 1), (17, 2), (9, 3)], 4, 40, [.nilp, .nilp, .nilp, .str ByteArray.empty]⟩),
  (67, ⟨.arr 0 16, 0, 0, []⟩),
  (68, ⟨.st [(67, 0)], 0, 0, []⟩),
  (69, ⟨.st [(67, 0)], 0, 0, []⟩),
  (70, ⟨.fn, 1, 8, [.nilf]⟩),
  (71, ⟨.int .u32, 1, 4, [.int .u32 (0)]⟩),
  (72, ⟨.int .u8, 1, 1, [.int .u8 (0)]⟩),
  (73, ⟨.int .u8, 1, 1, [.int .u8 (0)]⟩),
  (74, ⟨.fn, 1, 8, [.nilf]⟩),
  (75, ⟨.ptr 5, 1, 8, [.nilp]⟩),
  (76, ⟨.int .i32, 1, 4, [.int .i32 (0)]⟩),
  (77, ⟨.int .i32, 1, 4, [.int .i32 (0)]⟩),
  (78, ⟨.st [(12, 0), (12, 1), (71, 2), (72, 3), (5, 4), (5, 5), (73, 6), (74, 7), (75, 8), (76, 9), (77, 10)], 11, 48, [.int .u64 (0), .int .u64 (0), .int .u32 (0), .int .u8 (0), .int .u8 (0), .int .u8 (0), .int .u8 (0), .nilf, .nilp, .int .i32 (0), .int .i32 (0)]⟩),
  (79, ⟨.st [(12, 0), (12, 1), (71, 2), (72, 3), (5, 4), (5, 5), (73, 6), (74, 7), (75, 8), (76, 9), (77, 10)], 11, 48, [.int .u64 (0), .int .u64 (0), .int .u32 (0), .int .u8 (0), .int .u8 (0), .int .u8 (0), .int .u8 (0), .nilf, .nilp, .int .i32 (0), .int .i32 (0)]⟩)]
theorem E_good : E.good Try.prog = true := by kernel_rfl
theorem mixed : Try.prog.follows .mixedOrders = true := by kernel_rfl
end Go.Proofs.Ytdlpecjbafadkaa
