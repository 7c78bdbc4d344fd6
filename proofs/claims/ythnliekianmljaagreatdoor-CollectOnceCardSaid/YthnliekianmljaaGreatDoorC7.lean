/- What functions of the abstract machine answer. No conditions but those that each theorem names. -/
import Derived.Test.YthnliekianmljaaGreatDoorMaw
set_option maxRecDepth 100000
namespace Go.Cb.CodeA.Once
open Go Go.Cb Go.Cb.F
def txA : List AV := [(.str [123, 32, 46, 46, 46, 70]), (.str [123, 32, 46, 46, 46, 70, 32, 46, 46, 46, 70]), (.str [123, 32, 46, 46, 46, 70, 32, 46, 46, 46, 70, 32, 46, 46, 46, 70]), (.str [123, 32, 46, 46, 46, 70, 32, 46, 46, 46, 70, 32, 46, 46, 46, 70, 32, 46, 46, 46, 70]), (.str [123, 32, 46, 46, 46, 70, 32, 46, 46, 46, 70, 32, 46, 46, 46, 70, 32, 46, 46, 46, 70, 32, 46, 46, 46, 70]), (.str [123, 32, 46, 46, 46, 70, 32, 46, 46, 46, 70, 32, 46, 46, 46, 70, 32, 46, 46, 46, 70, 32, 46, 46, 46, 70, 32, 46, 46, 46, 70]), (.str [123, 32, 46, 46, 46, 70, 32, 46, 46, 46, 70, 32, 46, 46, 46, 70, 32, 46, 46, 46, 70, 32, 46, 46, 46, 70, 32, 46, 46, 46, 70, 32, 46, 46, 46, 70]), (.str [123, 32, 46, 46, 46, 70, 32, 46, 46, 46, 70, 32, 46, 46, 46, 70, 32, 46, 46, 46, 70, 32, 46, 46, 46, 70, 32, 46, 46, 46, 70, 32, 46, 46, 46, 70, 32, 46, 46, 46, 70]), (.str [123, 32, 46, 46, 46, 70, 32, 46, 46, 46, 70, 32, 46, 46, 46, 70, 32, 46, 46, 46, 70, 32, 46, 46, 46, 70, 32, 46, 46, 46, 70, 32, 46, 46, 46, 70, 32, 46, 46, 46, 70, 32, 46, 46, 46, 70]), (.str [123, 32, 46, 46, 46, 70, 32, 46, 46, 46, 70, 32, 46, 46, 46, 70, 32, 46, 46, 46, 70, 32, 46, 46, 46, 70, 32, 46, 46, 46, 70, 32, 46, 46, 46, 70, 32, 46, 46, 46, 70, 32, 46, 46, 46, 70, 32, 46, 46, 46, 70]), (.str [123, 32, 46, 46, 46, 70, 32, 46, 46, 46, 70, 32, 46, 46, 46, 70, 32, 46, 46, 46, 70, 32, 46, 46, 46, 70, 32, 46, 46, 46, 70, 32, 46, 46, 46, 70, 32, 46, 46, 46, 70, 32, 46, 46, 46, 70, 32, 46, 46, 46, 70, 32, 46, 46, 46, 70]), (.str [123, 32, 46, 46, 46, 70, 32, 46, 46, 46, 70, 32, 46, 46, 46, 70, 32, 46, 46, 46, 70, 32, 46, 46, 46, 70, 32, 46, 46, 46, 70, 32, 46, 46, 46, 70, 32, 46, 46, 46, 70, 32, 46, 46, 46, 70, 32, 46, 46, 46, 70, 32, 46, 46, 46, 70, 32, 46, 46, 46, 70]), (.str [123, 32, 46, 46, 46, 70, 32, 46, 46, 46, 70, 32, 46, 46, 46, 70, 32, 46, 46, 46, 70, 32, 46, 46, 46, 70, 32, 46, 46, 46, 70, 32, 46, 46, 46, 70, 32, 46, 46, 46, 70, 32, 46, 46, 46, 70, 32, 46, 46, 46, 70, 32, 46, 46, 46, 70, 32, 46, 46, 46, 70, 32, 46, 46, 46, 70]), (.str [123, 32, 46, 46, 46, 70, 32, 46, 46, 46, 70, 32, 46, 46, 46, 70, 32, 46, 46, 46, 70, 32, 46, 46, 46, 70, 32, 46, 46, 46, 70, 32, 46, 46, 46, 70, 32, 46, 46, 46, 70, 32, 46, 46, 46, 70, 32, 46, 46, 46, 70, 32, 46, 46, 46, 70, 32, 46, 46, 46, 70, 32, 46, 46, 46, 70, 32, 46, 46, 46, 70]), (.str [123, 32, 46, 46, 46, 70, 32, 46, 46, 46, 70, 32, 46, 46, 46, 70, 32, 46, 46, 46, 70, 32, 46, 46, 46, 70, 32, 46, 46, 46, 70, 32, 46, 46, 46, 70, 32, 46, 46, 46, 70, 32, 46, 46, 46, 70, 32, 46, 46, 46, 70, 32, 46, 46, 46, 70, 32, 46, 46, 46, 70, 32, 46, 46, 46, 70, 32, 46, 46, 46, 70, 32, 46, 46, 46, 70]), (.str [123, 32, 46, 46, 46, 70, 32, 46, 46, 46, 70, 32, 46, 46, 46, 70, 32, 46, 46, 46, 70, 32, 46, 46, 46, 70, 32, 46, 46, 46, 70, 32, 46, 46, 46, 70, 32, 46, 46, 46, 70, 32, 46, 46, 46, 70, 32, 46, 46, 46, 70, 32, 46, 46, 46, 70, 32, 46, 46, 46, 70, 32, 46, 46, 46, 70, 32, 46, 46, 46, 70, 32, 46, 46, 46, 70, 32, 46, 46, 46, 70]), (.str [123, 32, 46, 46, 46, 70, 32, 46, 46, 46, 70, 32, 46, 46, 46, 70, 32, 46, 46, 46, 70, 32, 46, 46, 46, 70, 32, 46, 46, 46, 70, 32, 46, 46, 46, 70, 32, 46, 46, 46, 70, 32, 46, 46, 46, 70, 32, 46, 46, 46, 70, 32, 46, 46, 46, 70, 32, 46, 46, 46, 70, 32, 46, 46, 46, 70, 32, 46, 46, 46, 70, 32, 46, 46, 46, 70, 32, 46, 46, 46, 70, 32, 46, 46, 46, 70]), (.str [123, 32, 46, 46, 46, 70, 32, 46, 46, 46, 70, 32, 46, 46, 46, 70, 32, 46, 46, 46, 70, 32, 46, 46, 46, 70, 32, 46, 46, 46, 70, 32, 46, 46, 46, 70, 32, 46, 46, 46, 70, 32, 46, 46, 46, 70, 32, 46, 46, 46, 70, 32, 46, 46, 46, 70, 32, 46, 46, 46, 70, 32, 46, 46, 46, 70, 32, 46, 46, 46, 70, 32, 46, 46, 46, 70, 32, 46, 46, 46, 70, 32, 46, 46, 46, 70, 32, 46, 46, 46, 70]), (.str [123, 32, 46, 46, 46, 70, 32, 46, 46, 46, 70, 32, 46, 46, 46, 70, 32, 46, 46, 46, 70, 32, 46, 46, 46, 70, 32, 46, 46, 46, 70, 32, 46, 46, 46, 70, 32, 46, 46, 46, 70, 32, 46, 46, 46, 70, 32, 46, 46, 46, 70, 32, 46, 46, 46, 70, 32, 46, 46, 46, 70, 32, 46, 46, 46, 70, 32, 46, 46, 46, 70, 32, 46, 46, 46, 70, 32, 46, 46, 46, 70, 32, 46, 46, 46, 70, 32, 46, 46, 46, 70, 32, 46, 46, 46, 70]), (.str [123, 32, 46, 46, 46, 70, 32, 46, 46, 46, 70, 32, 46, 46, 46, 70, 32, 46, 46, 46, 70, 32, 46, 46, 46, 70, 32, 46, 46, 46, 70, 32, 46, 46, 46, 70, 32, 46, 46, 46, 70, 32, 46, 46, 46, 70, 32, 46, 46, 46, 70, 32, 46, 46, 46, 70, 32, 46, 46, 46, 70, 32, 46, 46, 46, 70, 32, 46, 46, 46, 70, 32, 46, 46, 46, 70, 32, 46, 46, 46, 70, 32, 46, 46, 46, 70, 32, 46, 46, 46, 70, 32, 46, 46, 46, 70, 32, 46, 46, 46, 70])]
def okFst : Option (AV × St) → Option AV
  | some (v, _) => some v
  | none => none
def tx (m : Nat) : AV := txA.getD (m % 20) .undef
def nx (j : Nat) : AV := .int .i64 (.ofNat (j + 1))
theorem loop_all : ∀ m, m < 256 → z7s24 (callQ tbl zs 3000) 3000 [.int .u8 (.ofNat m), .bool false, .ptr 51 0, .str [123], .undef, .undef, .undef, .undef] T_br = some (.normal, [.int .u8 (.ofNat m), .bool false, .ptr 51 0, tx m, nx (m % 20), .undef, .undef, .undef], T_br)
  | 0, _ => by kernel_rfl
  | 1, _ => by kernel_rfl
  | 2, _ => by kernel_rfl
  | 3, _ => by kernel_rfl
  | 4, _ => by kernel_rfl
  | 5, _ => by kernel_rfl
  | 6, _ => by kernel_rfl
  | 7, _ => by kernel_rfl
  | 8, _ => by kernel_rfl
  | 9, _ => by kernel_rfl
  | 10, _ => by kernel_rfl
  | 11, _ => by kernel_rfl
  | 12, _ => by kernel_rfl
  | 13, _ => by kernel_rfl
  | 14, _ => by kernel_rfl
  | 15, _ => by kernel_rfl
  | 16, _ => by kernel_rfl
  | 17, _ => by kernel_rfl
  | 18, _ => by kernel_rfl
  | 19, _ => by kernel_rfl
  | 20, _ => by kernel_rfl
  | 21, _ => by kernel_rfl
  | 22, _ => by kernel_rfl
  | 23, _ => by kernel_rfl
  | 24, _ => by kernel_rfl
  | 25, _ => by kernel_rfl
  | 26, _ => by kernel_rfl
  | 27, _ => by kernel_rfl
  | 28, _ => by kernel_rfl
  | 29, _ => by kernel_rfl
  | 30, _ => by kernel_rfl
  | 31, _ => by kernel_rfl
  | 32, _ => by kernel_rfl
  | 33, _ => by kernel_rfl
  | 34, _ => by kernel_rfl
  | 35, _ => by kernel_rfl
  | 36, _ => by kernel_rfl
  | 37, _ => by kernel_rfl
  | 38, _ => by kernel_rfl
  | 39, _ => by kernel_rfl
  | 40, _ => by kernel_rfl
  | 41, _ => by kernel_rfl
  | 42, _ => by kernel_rfl
  | 43, _ => by kernel_rfl
  | 44, _ => by kernel_rfl
  | 45, _ => by kernel_rfl
  | 46, _ => by kernel_rfl
  | 47, _ => by kernel_rfl
  | 48, _ => by kernel_rfl
  | 49, _ => by kernel_rfl
  | 50, _ => by kernel_rfl
  | 51, _ => by kernel_rfl
  | 52, _ => by kernel_rfl
  | 53, _ => by kernel_rfl
  | 54, _ => by kernel_rfl
  | 55, _ => by kernel_rfl
  | 56, _ => by kernel_rfl
  | 57, _ => by kernel_rfl
  | 58, _ => by kernel_rfl
  | 59, _ => by kernel_rfl
  | 60, _ => by kernel_rfl
  | 61, _ => by kernel_rfl
  | 62, _ => by kernel_rfl
  | 63, _ => by kernel_rfl
  | 64, _ => by kernel_rfl
  | 65, _ => by kernel_rfl
  | 66, _ => by kernel_rfl
  | 67, _ => by kernel_rfl
  | 68, _ => by kernel_rfl
  | 69, _ => by kernel_rfl
  | 70, _ => by kernel_rfl
  | 71, _ => by kernel_rfl
  | 72, _ => by kernel_rfl
  | 73, _ => by kernel_rfl
  | 74, _ => by kernel_rfl
  | 75, _ => by kernel_rfl
  | 76, _ => by kernel_rfl
  | 77, _ => by kernel_rfl
  | 78, _ => by kernel_rfl
  | 79, _ => by kernel_rfl
  | 80, _ => by kernel_rfl
  | 81, _ => by kernel_rfl
  | 82, _ => by kernel_rfl
  | 83, _ => by kernel_rfl
  | 84, _ => by kernel_rfl
  | 85, _ => by kernel_rfl
  | 86, _ => by kernel_rfl
  | 87, _ => by kernel_rfl
  | 88, _ => by kernel_rfl
  | 89, _ => by kernel_rfl
  | 90, _ => by kernel_rfl
  | 91, _ => by kernel_rfl
  | 92, _ => by kernel_rfl
  | 93, _ => by kernel_rfl
  | 94, _ => by kernel_rfl
  | 95, _ => by kernel_rfl
  | 96, _ => by kernel_rfl
  | 97, _ => by kernel_rfl
  | 98, _ => by kernel_rfl
  | 99, _ => by kernel_rfl
  | 100, _ => by kernel_rfl
  | 101, _ => by kernel_rfl
  | 102, _ => by kernel_rfl
  | 103, _ => by kernel_rfl
  | 104, _ => by kernel_rfl
  | 105, _ => by kernel_rfl
  | 106, _ => by kernel_rfl
  | 107, _ => by kernel_rfl
  | 108, _ => by kernel_rfl
  | 109, _ => by kernel_rfl
  | 110, _ => by kernel_rfl
  | 111, _ => by kernel_rfl
  | 112, _ => by kernel_rfl
  | 113, _ => by kernel_rfl
  | 114, _ => by kernel_rfl
  | 115, _ => by kernel_rfl
  | 116, _ => by kernel_rfl
  | 117, _ => by kernel_rfl
  | 118, _ => by kernel_rfl
  | 119, _ => by kernel_rfl
  | 120, _ => by kernel_rfl
  | 121, _ => by kernel_rfl
  | 122, _ => by kernel_rfl
  | 123, _ => by kernel_rfl
  | 124, _ => by kernel_rfl
  | 125, _ => by kernel_rfl
  | 126, _ => by kernel_rfl
  | 127, _ => by kernel_rfl
  | 128, _ => by kernel_rfl
  | 129, _ => by kernel_rfl
  | 130, _ => by kernel_rfl
  | 131, _ => by kernel_rfl
  | 132, _ => by kernel_rfl
  | 133, _ => by kernel_rfl
  | 134, _ => by kernel_rfl
  | 135, _ => by kernel_rfl
  | 136, _ => by kernel_rfl
  | 137, _ => by kernel_rfl
  | 138, _ => by kernel_rfl
  | 139, _ => by kernel_rfl
  | 140, _ => by kernel_rfl
  | 141, _ => by kernel_rfl
  | 142, _ => by kernel_rfl
  | 143, _ => by kernel_rfl
  | 144, _ => by kernel_rfl
  | 145, _ => by kernel_rfl
  | 146, _ => by kernel_rfl
  | 147, _ => by kernel_rfl
  | 148, _ => by kernel_rfl
  | 149, _ => by kernel_rfl
  | 150, _ => by kernel_rfl
  | 151, _ => by kernel_rfl
  | 152, _ => by kernel_rfl
  | 153, _ => by kernel_rfl
  | 154, _ => by kernel_rfl
  | 155, _ => by kernel_rfl
  | 156, _ => by kernel_rfl
  | 157, _ => by kernel_rfl
  | 158, _ => by kernel_rfl
  | 159, _ => by kernel_rfl
  | 160, _ => by kernel_rfl
  | 161, _ => by kernel_rfl
  | 162, _ => by kernel_rfl
  | 163, _ => by kernel_rfl
  | 164, _ => by kernel_rfl
  | 165, _ => by kernel_rfl
  | 166, _ => by kernel_rfl
  | 167, _ => by kernel_rfl
  | 168, _ => by kernel_rfl
  | 169, _ => by kernel_rfl
  | 170, _ => by kernel_rfl
  | 171, _ => by kernel_rfl
  | 172, _ => by kernel_rfl
  | 173, _ => by kernel_rfl
  | 174, _ => by kernel_rfl
  | 175, _ => by kernel_rfl
  | 176, _ => by kernel_rfl
  | 177, _ => by kernel_rfl
  | 178, _ => by kernel_rfl
  | 179, _ => by kernel_rfl
  | 180, _ => by kernel_rfl
  | 181, _ => by kernel_rfl
  | 182, _ => by kernel_rfl
  | 183, _ => by kernel_rfl
  | 184, _ => by kernel_rfl
  | 185, _ => by kernel_rfl
  | 186, _ => by kernel_rfl
  | 187, _ => by kernel_rfl
  | 188, _ => by kernel_rfl
  | 189, _ => by kernel_rfl
  | 190, _ => by kernel_rfl
  | 191, _ => by kernel_rfl
  | 192, _ => by kernel_rfl
  | 193, _ => by kernel_rfl
  | 194, _ => by kernel_rfl
  | 195, _ => by kernel_rfl
  | 196, _ => by kernel_rfl
  | 197, _ => by kernel_rfl
  | 198, _ => by kernel_rfl
  | 199, _ => by kernel_rfl
  | 200, _ => by kernel_rfl
  | 201, _ => by kernel_rfl
  | 202, _ => by kernel_rfl
  | 203, _ => by kernel_rfl
  | 204, _ => by kernel_rfl
  | 205, _ => by kernel_rfl
  | 206, _ => by kernel_rfl
  | 207, _ => by kernel_rfl
  | 208, _ => by kernel_rfl
  | 209, _ => by kernel_rfl
  | 210, _ => by kernel_rfl
  | 211, _ => by kernel_rfl
  | 212, _ => by kernel_rfl
  | 213, _ => by kernel_rfl
  | 214, _ => by kernel_rfl
  | 215, _ => by kernel_rfl
  | 216, _ => by kernel_rfl
  | 217, _ => by kernel_rfl
  | 218, _ => by kernel_rfl
  | 219, _ => by kernel_rfl
  | 220, _ => by kernel_rfl
  | 221, _ => by kernel_rfl
  | 222, _ => by kernel_rfl
  | 223, _ => by kernel_rfl
  | 224, _ => by kernel_rfl
  | 225, _ => by kernel_rfl
  | 226, _ => by kernel_rfl
  | 227, _ => by kernel_rfl
  | 228, _ => by kernel_rfl
  | 229, _ => by kernel_rfl
  | 230, _ => by kernel_rfl
  | 231, _ => by kernel_rfl
  | 232, _ => by kernel_rfl
  | 233, _ => by kernel_rfl
  | 234, _ => by kernel_rfl
  | 235, _ => by kernel_rfl
  | 236, _ => by kernel_rfl
  | 237, _ => by kernel_rfl
  | 238, _ => by kernel_rfl
  | 239, _ => by kernel_rfl
  | 240, _ => by kernel_rfl
  | 241, _ => by kernel_rfl
  | 242, _ => by kernel_rfl
  | 243, _ => by kernel_rfl
  | 244, _ => by kernel_rfl
  | 245, _ => by kernel_rfl
  | 246, _ => by kernel_rfl
  | 247, _ => by kernel_rfl
  | 248, _ => by kernel_rfl
  | 249, _ => by kernel_rfl
  | 250, _ => by kernel_rfl
  | 251, _ => by kernel_rfl
  | 252, _ => by kernel_rfl
  | 253, _ => by kernel_rfl
  | 254, _ => by kernel_rfl
  | 255, _ => by kernel_rfl
  | n + 256, h => absurd h (by omega)
theorem tail_0 (x : AV) : okFst (finK [.v 1] (z7s39 (callQ tbl zs 3000) 3000 [x, .bool false, .ptr 51 0, txA.getD 0 .undef, nx 0, .undef, .undef, .undef] T_br)) = some (.bool true) := by kernel_rfl
theorem tail_1 (x : AV) : okFst (finK [.v 1] (z7s39 (callQ tbl zs 3000) 3000 [x, .bool false, .ptr 51 0, txA.getD 1 .undef, nx 1, .undef, .undef, .undef] T_br)) = some (.bool true) := by kernel_rfl
theorem tail_2 (x : AV) : okFst (finK [.v 1] (z7s39 (callQ tbl zs 3000) 3000 [x, .bool false, .ptr 51 0, txA.getD 2 .undef, nx 2, .undef, .undef, .undef] T_br)) = some (.bool true) := by kernel_rfl
theorem tail_3 (x : AV) : okFst (finK [.v 1] (z7s39 (callQ tbl zs 3000) 3000 [x, .bool false, .ptr 51 0, txA.getD 3 .undef, nx 3, .undef, .undef, .undef] T_br)) = some (.bool true) := by kernel_rfl
theorem tail_4 (x : AV) : okFst (finK [.v 1] (z7s39 (callQ tbl zs 3000) 3000 [x, .bool false, .ptr 51 0, txA.getD 4 .undef, nx 4, .undef, .undef, .undef] T_br)) = some (.bool true) := by kernel_rfl
theorem tail_5 (x : AV) : okFst (finK [.v 1] (z7s39 (callQ tbl zs 3000) 3000 [x, .bool false, .ptr 51 0, txA.getD 5 .undef, nx 5, .undef, .undef, .undef] T_br)) = some (.bool true) := by kernel_rfl
theorem tail_6 (x : AV) : okFst (finK [.v 1] (z7s39 (callQ tbl zs 3000) 3000 [x, .bool false, .ptr 51 0, txA.getD 6 .undef, nx 6, .undef, .undef, .undef] T_br)) = some (.bool true) := by kernel_rfl
theorem tail_7 (x : AV) : okFst (finK [.v 1] (z7s39 (callQ tbl zs 3000) 3000 [x, .bool false, .ptr 51 0, txA.getD 7 .undef, nx 7, .undef, .undef, .undef] T_br)) = some (.bool true) := by kernel_rfl
theorem tail_8 (x : AV) : okFst (finK [.v 1] (z7s39 (callQ tbl zs 3000) 3000 [x, .bool false, .ptr 51 0, txA.getD 8 .undef, nx 8, .undef, .undef, .undef] T_br)) = some (.bool true) := by kernel_rfl
theorem tail_9 (x : AV) : okFst (finK [.v 1] (z7s39 (callQ tbl zs 3000) 3000 [x, .bool false, .ptr 51 0, txA.getD 9 .undef, nx 9, .undef, .undef, .undef] T_br)) = some (.bool true) := by kernel_rfl
theorem tail_10 (x : AV) : okFst (finK [.v 1] (z7s39 (callQ tbl zs 3000) 3000 [x, .bool false, .ptr 51 0, txA.getD 10 .undef, nx 10, .undef, .undef, .undef] T_br)) = some (.bool true) := by kernel_rfl
theorem tail_11 (x : AV) : okFst (finK [.v 1] (z7s39 (callQ tbl zs 3000) 3000 [x, .bool false, .ptr 51 0, txA.getD 11 .undef, nx 11, .undef, .undef, .undef] T_br)) = some (.bool true) := by kernel_rfl
theorem tail_12 (x : AV) : okFst (finK [.v 1] (z7s39 (callQ tbl zs 3000) 3000 [x, .bool false, .ptr 51 0, txA.getD 12 .undef, nx 12, .undef, .undef, .undef] T_br)) = some (.bool true) := by kernel_rfl
theorem tail_13 (x : AV) : okFst (finK [.v 1] (z7s39 (callQ tbl zs 3000) 3000 [x, .bool false, .ptr 51 0, txA.getD 13 .undef, nx 13, .undef, .undef, .undef] T_br)) = some (.bool true) := by kernel_rfl
theorem tail_14 (x : AV) : okFst (finK [.v 1] (z7s39 (callQ tbl zs 3000) 3000 [x, .bool false, .ptr 51 0, txA.getD 14 .undef, nx 14, .undef, .undef, .undef] T_br)) = some (.bool true) := by kernel_rfl
theorem tail_15 (x : AV) : okFst (finK [.v 1] (z7s39 (callQ tbl zs 3000) 3000 [x, .bool false, .ptr 51 0, txA.getD 15 .undef, nx 15, .undef, .undef, .undef] T_br)) = some (.bool true) := by kernel_rfl
theorem tail_16 (x : AV) : okFst (finK [.v 1] (z7s39 (callQ tbl zs 3000) 3000 [x, .bool false, .ptr 51 0, txA.getD 16 .undef, nx 16, .undef, .undef, .undef] T_br)) = some (.bool true) := by kernel_rfl
theorem tail_17 (x : AV) : okFst (finK [.v 1] (z7s39 (callQ tbl zs 3000) 3000 [x, .bool false, .ptr 51 0, txA.getD 17 .undef, nx 17, .undef, .undef, .undef] T_br)) = some (.bool true) := by kernel_rfl
theorem tail_18 (x : AV) : okFst (finK [.v 1] (z7s39 (callQ tbl zs 3000) 3000 [x, .bool false, .ptr 51 0, txA.getD 18 .undef, nx 18, .undef, .undef, .undef] T_br)) = some (.bool true) := by kernel_rfl
theorem tail_19 (x : AV) : okFst (finK [.v 1] (z7s39 (callQ tbl zs 3000) 3000 [x, .bool false, .ptr 51 0, txA.getD 19 .undef, nx 19, .undef, .undef, .undef] T_br)) = some (.bool true) := by kernel_rfl
theorem tail_all (x : AV) : ∀ j, j < 20 → okFst (finK [.v 1] (z7s39 (callQ tbl zs 3000) 3000 [x, .bool false, .ptr 51 0, txA.getD j .undef, nx j, .undef, .undef, .undef] T_br)) = some (.bool true)
  | 0, _ => tail_0 x
  | 1, _ => tail_1 x
  | 2, _ => tail_2 x
  | 3, _ => tail_3 x
  | 4, _ => tail_4 x
  | 5, _ => tail_5 x
  | 6, _ => tail_6 x
  | 7, _ => tail_7 x
  | 8, _ => tail_8 x
  | 9, _ => tail_9 x
  | 10, _ => tail_10 x
  | 11, _ => tail_11 x
  | 12, _ => tail_12 x
  | 13, _ => tail_13 x
  | 14, _ => tail_14 x
  | 15, _ => tail_15 x
  | 16, _ => tail_16 x
  | 17, _ => tail_17 x
  | 18, _ => tail_18 x
  | 19, _ => tail_19 x
  | j + 20, h => absurd h (by omega)
theorem once_law (m : Nat) (hm : m < 256) : ∃ n st', callF tbl n 7 [.int .u8 m] [] = some (.bool true, st') := by
  have hj : m % 20 < 20 := Nat.mod_lt _ (by omega)
  have ht := tail_all (.int .u8 (.ofNat m)) _ hj
  cases hf : finK [.v 1] (z7s39 (callQ tbl zs 3000) 3000 [.int .u8 (.ofNat m), .bool false, .ptr 51 0, txA.getD (m % 20) .undef, nx (m % 20), .undef, .undef, .undef] T_br) with
  | none => rw [hf] at ht; cases ht
  | some r =>
    obtain ⟨v, st'⟩ := r
    rw [hf] at ht
    have hv : v = .bool true := Option.some.inj ht
    subst hv
    have : Ev tbl 7 [.int .u8 (.ofNat m)] [] (.bool true) st' := by
      refine ev_fin (fn := a7) (r := (.bool true, st')) (by kernel_rfl) (by kernel_rfl) (by kernel_rfl) ?_
      refine seq_fin (a := a7s1) (b := a7s43) (xc_of0 (out := (.normal, [.int .u8 (.ofNat m), .bool false, .undef, .undef, .undef, .undef, .undef, .undef], [])) z7s1_r (fun c n => by kernel_rfl)) ?_
      refine seq_fin (a := a7s6) (b := a7s42) (xc_ofC z7s6_r awake_ev (out := (.normal, [.int .u8 (.ofNat m), .bool false, .undef, .undef, .undef, .undef, .undef, .undef], T_aw)) (fun c n => by kernel_rfl) (fun n => by kernel_rfl)) ?_
      refine seq_fin (a := a7s8) (b := a7s41) (xc_ofC z7s8_r both_b (out := (.normal, [.int .u8 (.ofNat m), .bool false, .ptr 51 0, .undef, .undef, .undef, .undef, .undef], T_br)) (fun c n => by kernel_rfl) (fun n => by kernel_rfl)) ?_
      refine seq_fin (a := a7s10) (b := a7s40) (xc_of0 (out := (.normal, [.int .u8 (.ofNat m), .bool false, .ptr 51 0, .str [123], .undef, .undef, .undef, .undef], T_br)) z7s10_r (fun c n => by kernel_rfl)) ?_
      refine seq_fin (a := a7s24) (b := a7s39) (xc_ofQ zs_ok z7s24_r (loop_all m hm)) ?_
      exact xc_fin zs_ok z7s39_r (k := 3000) hf
    obtain ⟨n, hn⟩ := this
    exact ⟨n, st', hn⟩
end Go.Cb.CodeA.Once
