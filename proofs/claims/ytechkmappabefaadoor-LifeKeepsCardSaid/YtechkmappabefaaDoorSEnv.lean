/- Helper lemmas for the claim's theorem: an abstract machine over the model, proved sound; no condition beyond each lemma's own. -/
import Derived.Test.YtechkmappabefaaDoorAmF
import Derived.Test.YtechkmappabefaaDoorAmA
import Derived.Test.YtechkmappabefaaDoorProg
import Derived.KernelRfl
set_option linter.unusedVariables false
set_option linter.unusedSimpArgs false
set_option linter.unnecessarySimpa false
set_option linter.unusedSectionVars false
namespace Go.Proofs.YtechkmappabefaaDoor
open Go Go.AM
set_option maxRecDepth 100000
def E : Env := [
  (1, ⟨.fn, 1, 8, [.nilf]⟩),
  (2, ⟨.int .i64, 1, 8, [.int .i64 (0)]⟩),
  (3, ⟨.int .i64, 1, 8, [.int .i64 (0)]⟩),
  (4, ⟨.bool, 1, 1, [.bool false]⟩),
  (5, ⟨.int .u8, 1, 1, [.int .u8 (0)]⟩),
  (6, ⟨.int .u8, 1, 1, [.int .u8 (0)]⟩),
  (7, ⟨.st [(2, 0), (3, 1), (4, 2), (6, 3)], 4, 24, [.int .i64 (0), .int .i64 (0), .bool false, .int .u8 (0)]⟩),
  (8, ⟨.st [(2, 0), (3, 1), (4, 2), (6, 3)], 4, 24, [.int .i64 (0), .int .i64 (0), .bool false, .int .u8 (0)]⟩),
  (9, ⟨.str, 1, 16, [.str ByteArray.empty]⟩),
  (10, ⟨.str, 1, 16, [.str ByteArray.empty]⟩),
  (11, ⟨.str, 1, 16, [.str ByteArray.empty]⟩),
  (12, ⟨.int .u64, 1, 8, [.int .u64 (0)]⟩),
  (13, ⟨.st [(9, 0), (12, 1)], 2, 24, [.str ByteArray.empty, .int .u64 (0)]⟩),
  (14, ⟨.st [(9, 0), (12, 1)], 2, 24, [.str ByteArray.empty, .int .u64 (0)]⟩),
  (15, ⟨.ptr 49, 1, 8, [.nilp]⟩),
  (16, ⟨.ptr 52, 1, 8, [.nilp]⟩),
  (17, ⟨.ptr 62, 1, 8, [.nilp]⟩),
  (18, ⟨.st [(17, 0)], 1, 8, [.nilp]⟩),
  (19, ⟨.st [(17, 0)], 1, 8, [.nilp]⟩),
  (21, ⟨.int .i32, 1, 4, [.int .i32 (0)]⟩),
  (22, ⟨.sli 3, 1, 24, [.nils]⟩),
  (23, ⟨.fn, 1, 8, [.nilf]⟩),
  (24, ⟨.int .i64, 1, 8, [.int .i64 (0)]⟩),
  (26, ⟨.fn, 1, 8, [.nilf]⟩),
  (27, ⟨.fn, 1, 8, [.nilf]⟩),
  (28, ⟨.fn, 1, 8, [.nilf]⟩),
  (29, ⟨.fn, 1, 8, [.nilf]⟩),
  (30, ⟨.fn, 1, 8, [.nilf]⟩),
  (31, ⟨.arr 4 2, 4, 32, [.int .i64 (0), .int .i64 (0), .int .i64 (0), .int .i64 (0)]⟩),
  (32, ⟨.st [(2, 0), (3, 1), (3, 2), (3, 3), (3, 4), (31, 5), (3, 9), (2, 10)], 11, 88, [.int .i64 (0), .int .i64 (0), .int .i64 (0), .int .i64 (0), .int .i64 (0), .int .i64 (0), .int .i64 (0), .int .i64 (0), .int .i64 (0), .int .i64 (0), .int .i64 (0)]⟩),
  (33, ⟨.st [(2, 0), (3, 1), (3, 2), (3, 3), (3, 4), (31, 5), (3, 9), (2, 10)], 11, 88, [.int .i64 (0), .int .i64 (0), .int .i64 (0), .int .i64 (0), .int .i64 (0), .int .i64 (0), .int .i64 (0), .int .i64 (0), .int .i64 (0), .int .i64 (0), .int .i64 (0)]⟩),
  (35, ⟨.fn, 1, 8, [.nilf]⟩),
  (36, ⟨.fn, 1, 8, [.nilf]⟩),
  (37, ⟨.fn, 1, 8, [.nilf]⟩),
  (38, ⟨.fn, 1, 8, [.nilf]⟩),
  (39, ⟨.fn, 1, 8, [.nilf]⟩),
  (40, ⟨.fn, 1, 8, [.nilf]⟩),
  (41, ⟨.fn, 1, 8, [.nilf]⟩),
  (42, ⟨.fn, 1, 8, [.nilf]⟩),
  (43, ⟨.arr 8 5, 8, 8, [.int .u8 (0), .int .u8 (0), .int .u8 (0), .int .u8 (0), .int .u8 (0), .int .u8 (0), .int .u8 (0), .int .u8 (0)]⟩),
  (44, ⟨.fn, 1, 8, [.nilf]⟩),
  (45, ⟨.sli 2, 1, 24, [.nils]⟩),
  (46, ⟨.fn, 1, 8, [.nilf]⟩),
  (47, ⟨.fn, 1, 8, [.nilf]⟩),
  (48, ⟨.st [(17, 0), (17, 1), (17, 2), (9, 3)], 4, 40, [.nilp, .nilp, .nilp, .str ByteArray.empty]⟩),
  (49, ⟨.st [(17, 0), (17, 1), (17, 2), (9, 3)], 4, 40, [.nilp, .nilp, .nilp, .str ByteArray.empty]⟩),
  (50, ⟨.arr 0 16, 0, 0, []⟩),
  (51, ⟨.st [(50, 0)], 0, 0, []⟩),
  (52, ⟨.st [(50, 0)], 0, 0, []⟩),
  (53, ⟨.fn, 1, 8, [.nilf]⟩),
  (54, ⟨.int .u32, 1, 4, [.int .u32 (0)]⟩),
  (55, ⟨.int .u8, 1, 1, [.int .u8 (0)]⟩),
  (56, ⟨.int .u8, 1, 1, [.int .u8 (0)]⟩),
  (57, ⟨.fn, 1, 8, [.nilf]⟩),
  (58, ⟨.ptr 5, 1, 8, [.nilp]⟩),
  (59, ⟨.int .i32, 1, 4, [.int .i32 (0)]⟩),
  (60, ⟨.int .i32, 1, 4, [.int .i32 (0)]⟩),
  (61, ⟨.st [(12, 0), (12, 1), (54, 2), (55, 3), (5, 4), (5, 5), (56, 6), (57, 7), (58, 8), (59, 9), (60, 10)], 11, 48, [.int .u64 (0), .int .u64 (0), .int .u32 (0), .int .u8 (0), .int .u8 (0), .int .u8 (0), .int .u8 (0), .nilf, .nilp, .int .i32 (0), .int .i32 (0)]⟩),
  (62, ⟨.st [(12, 0), (12, 1), (54, 2), (55, 3), (5, 4), (5, 5), (56, 6), (57, 7), (58, 8), (59, 9), (60, 10)], 11, 48, [.int .u64 (0), .int .u64 (0), .int .u32 (0), .int .u8 (0), .int .u8 (0), .int .u8 (0), .int .u8 (0), .nilf, .nilp, .int .i32 (0), .int .i32 (0)]⟩)]
theorem E_good : E.good Tryd.prog = true := by kernel_rfl
theorem mixed : Tryd.prog.follows .mixedOrders = true := by kernel_rfl
def follows : List Int := [0, 132, 250, 130, 130, 130, 130, 0]
def gl : List (Nat × List V) := [(0, ints .u8 follows)]
theorem globlt {i : Int} (h : 0 ≤ i ∧ i < 8) : 0 + i.toNat * 1 < follows.length := by show 0 + i.toNat * 1 < 8; omega
end Go.Proofs.YtechkmappabefaaDoor
