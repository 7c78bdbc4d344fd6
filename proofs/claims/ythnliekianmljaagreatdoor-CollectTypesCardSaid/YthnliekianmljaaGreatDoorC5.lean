/- What functions of the abstract machine answer. No conditions but those that each theorem names. -/
import Derived.Test.YthnliekianmljaaGreatDoorMaw
set_option maxRecDepth 100000
namespace Go.Cb.CodeA
open Go Go.Cb Go.Cb.F
def onA : List AV := [(.str [80, 101, 114, 115, 111, 110]), (.str [67, 97, 116]), (.str [68, 111, 103]), (.str [78, 97, 109, 101, 100]), (.str [80, 101, 116]), (.str [81, 117, 101, 114, 121]), (.str [77, 111, 111, 100])]
def ofA : List AV := [(.str [80, 101, 114, 115, 111, 110]), (.str [67, 97, 116]), (.str [68, 111, 103])]
def onL : AV := (.list true [[(.str [80, 101, 114, 115, 111, 110])], [(.str [67, 97, 116])], [(.str [68, 111, 103])], [(.str [78, 97, 109, 101, 100])], [(.str [80, 101, 116])], [(.str [81, 117, 101, 114, 121])], [(.str [77, 111, 111, 100])]])
def ofL : AV := (.list true [[(.str [80, 101, 114, 115, 111, 110])], [(.str [67, 97, 116])], [(.str [68, 111, 103])]])
def yesA : List (List Bool) := [[true, false, false], [false, true, false], [false, false, true], [true, true, false], [false, true, true], [false, false, false], [false, false, false]]
def on7 (m : Nat) : AV := onA.getD (m % 7) .undef
def of3 (m : Nat) : AV := ofA.getD (m % 3) .undef
def ys (j l : Nat) : AV := .bool ((yesA.getD j []).getD l false)
def okFst : Option (AV × St) → Option AV
  | some (v, _) => some v
  | none => none
theorem on_all (x : AV) (c : CallT) (n : Nat) (st : St) : ∀ m, m < 256 → z5s12 c n [.int .u8 (.ofNat m), x, .bool false, onL, ofL, .undef, .undef, .undef, .undef, .undef, .undef] st = some (.normal, [.int .u8 (.ofNat m), x, .bool false, onL, ofL, on7 m, .undef, .undef, .undef, .undef, .undef], st)
  | 0, _ => by kernel_rfl
  | 1, _ => by kernel_rfl
  | 2, _ => by kernel_rfl
  | 3, _ => by kernel_rfl
  | 4, _ => by kernel_rfl
  | 5, _ => by kernel_rfl
  | 6, _ => by kernel_rfl
  | 7, _ => by kernel_rfl
  | 8, _ => by kernel_rfl
  | 9, _ => by kernel_rfl
  | 10, _ => by kernel_rfl
  | 11, _ => by kernel_rfl
  | 12, _ => by kernel_rfl
  | 13, _ => by kernel_rfl
  | 14, _ => by kernel_rfl
  | 15, _ => by kernel_rfl
  | 16, _ => by kernel_rfl
  | 17, _ => by kernel_rfl
  | 18, _ => by kernel_rfl
  | 19, _ => by kernel_rfl
  | 20, _ => by kernel_rfl
  | 21, _ => by kernel_rfl
  | 22, _ => by kernel_rfl
  | 23, _ => by kernel_rfl
  | 24, _ => by kernel_rfl
  | 25, _ => by kernel_rfl
  | 26, _ => by kernel_rfl
  | 27, _ => by kernel_rfl
  | 28, _ => by kernel_rfl
  | 29, _ => by kernel_rfl
  | 30, _ => by kernel_rfl
  | 31, _ => by kernel_rfl
  | 32, _ => by kernel_rfl
  | 33, _ => by kernel_rfl
  | 34, _ => by kernel_rfl
  | 35, _ => by kernel_rfl
  | 36, _ => by kernel_rfl
  | 37, _ => by kernel_rfl
  | 38, _ => by kernel_rfl
  | 39, _ => by kernel_rfl
  | 40, _ => by kernel_rfl
  | 41, _ => by kernel_rfl
  | 42, _ => by kernel_rfl
  | 43, _ => by kernel_rfl
  | 44, _ => by kernel_rfl
  | 45, _ => by kernel_rfl
  | 46, _ => by kernel_rfl
  | 47, _ => by kernel_rfl
  | 48, _ => by kernel_rfl
  | 49, _ => by kernel_rfl
  | 50, _ => by kernel_rfl
  | 51, _ => by kernel_rfl
  | 52, _ => by kernel_rfl
  | 53, _ => by kernel_rfl
  | 54, _ => by kernel_rfl
  | 55, _ => by kernel_rfl
  | 56, _ => by kernel_rfl
  | 57, _ => by kernel_rfl
  | 58, _ => by kernel_rfl
  | 59, _ => by kernel_rfl
  | 60, _ => by kernel_rfl
  | 61, _ => by kernel_rfl
  | 62, _ => by kernel_rfl
  | 63, _ => by kernel_rfl
  | 64, _ => by kernel_rfl
  | 65, _ => by kernel_rfl
  | 66, _ => by kernel_rfl
  | 67, _ => by kernel_rfl
  | 68, _ => by kernel_rfl
  | 69, _ => by kernel_rfl
  | 70, _ => by kernel_rfl
  | 71, _ => by kernel_rfl
  | 72, _ => by kernel_rfl
  | 73, _ => by kernel_rfl
  | 74, _ => by kernel_rfl
  | 75, _ => by kernel_rfl
  | 76, _ => by kernel_rfl
  | 77, _ => by kernel_rfl
  | 78, _ => by kernel_rfl
  | 79, _ => by kernel_rfl
  | 80, _ => by kernel_rfl
  | 81, _ => by kernel_rfl
  | 82, _ => by kernel_rfl
  | 83, _ => by kernel_rfl
  | 84, _ => by kernel_rfl
  | 85, _ => by kernel_rfl
  | 86, _ => by kernel_rfl
  | 87, _ => by kernel_rfl
  | 88, _ => by kernel_rfl
  | 89, _ => by kernel_rfl
  | 90, _ => by kernel_rfl
  | 91, _ => by kernel_rfl
  | 92, _ => by kernel_rfl
  | 93, _ => by kernel_rfl
  | 94, _ => by kernel_rfl
  | 95, _ => by kernel_rfl
  | 96, _ => by kernel_rfl
  | 97, _ => by kernel_rfl
  | 98, _ => by kernel_rfl
  | 99, _ => by kernel_rfl
  | 100, _ => by kernel_rfl
  | 101, _ => by kernel_rfl
  | 102, _ => by kernel_rfl
  | 103, _ => by kernel_rfl
  | 104, _ => by kernel_rfl
  | 105, _ => by kernel_rfl
  | 106, _ => by kernel_rfl
  | 107, _ => by kernel_rfl
  | 108, _ => by kernel_rfl
  | 109, _ => by kernel_rfl
  | 110, _ => by kernel_rfl
  | 111, _ => by kernel_rfl
  | 112, _ => by kernel_rfl
  | 113, _ => by kernel_rfl
  | 114, _ => by kernel_rfl
  | 115, _ => by kernel_rfl
  | 116, _ => by kernel_rfl
  | 117, _ => by kernel_rfl
  | 118, _ => by kernel_rfl
  | 119, _ => by kernel_rfl
  | 120, _ => by kernel_rfl
  | 121, _ => by kernel_rfl
  | 122, _ => by kernel_rfl
  | 123, _ => by kernel_rfl
  | 124, _ => by kernel_rfl
  | 125, _ => by kernel_rfl
  | 126, _ => by kernel_rfl
  | 127, _ => by kernel_rfl
  | 128, _ => by kernel_rfl
  | 129, _ => by kernel_rfl
  | 130, _ => by kernel_rfl
  | 131, _ => by kernel_rfl
  | 132, _ => by kernel_rfl
  | 133, _ => by kernel_rfl
  | 134, _ => by kernel_rfl
  | 135, _ => by kernel_rfl
  | 136, _ => by kernel_rfl
  | 137, _ => by kernel_rfl
  | 138, _ => by kernel_rfl
  | 139, _ => by kernel_rfl
  | 140, _ => by kernel_rfl
  | 141, _ => by kernel_rfl
  | 142, _ => by kernel_rfl
  | 143, _ => by kernel_rfl
  | 144, _ => by kernel_rfl
  | 145, _ => by kernel_rfl
  | 146, _ => by kernel_rfl
  | 147, _ => by kernel_rfl
  | 148, _ => by kernel_rfl
  | 149, _ => by kernel_rfl
  | 150, _ => by kernel_rfl
  | 151, _ => by kernel_rfl
  | 152, _ => by kernel_rfl
  | 153, _ => by kernel_rfl
  | 154, _ => by kernel_rfl
  | 155, _ => by kernel_rfl
  | 156, _ => by kernel_rfl
  | 157, _ => by kernel_rfl
  | 158, _ => by kernel_rfl
  | 159, _ => by kernel_rfl
  | 160, _ => by kernel_rfl
  | 161, _ => by kernel_rfl
  | 162, _ => by kernel_rfl
  | 163, _ => by kernel_rfl
  | 164, _ => by kernel_rfl
  | 165, _ => by kernel_rfl
  | 166, _ => by kernel_rfl
  | 167, _ => by kernel_rfl
  | 168, _ => by kernel_rfl
  | 169, _ => by kernel_rfl
  | 170, _ => by kernel_rfl
  | 171, _ => by kernel_rfl
  | 172, _ => by kernel_rfl
  | 173, _ => by kernel_rfl
  | 174, _ => by kernel_rfl
  | 175, _ => by kernel_rfl
  | 176, _ => by kernel_rfl
  | 177, _ => by kernel_rfl
  | 178, _ => by kernel_rfl
  | 179, _ => by kernel_rfl
  | 180, _ => by kernel_rfl
  | 181, _ => by kernel_rfl
  | 182, _ => by kernel_rfl
  | 183, _ => by kernel_rfl
  | 184, _ => by kernel_rfl
  | 185, _ => by kernel_rfl
  | 186, _ => by kernel_rfl
  | 187, _ => by kernel_rfl
  | 188, _ => by kernel_rfl
  | 189, _ => by kernel_rfl
  | 190, _ => by kernel_rfl
  | 191, _ => by kernel_rfl
  | 192, _ => by kernel_rfl
  | 193, _ => by kernel_rfl
  | 194, _ => by kernel_rfl
  | 195, _ => by kernel_rfl
  | 196, _ => by kernel_rfl
  | 197, _ => by kernel_rfl
  | 198, _ => by kernel_rfl
  | 199, _ => by kernel_rfl
  | 200, _ => by kernel_rfl
  | 201, _ => by kernel_rfl
  | 202, _ => by kernel_rfl
  | 203, _ => by kernel_rfl
  | 204, _ => by kernel_rfl
  | 205, _ => by kernel_rfl
  | 206, _ => by kernel_rfl
  | 207, _ => by kernel_rfl
  | 208, _ => by kernel_rfl
  | 209, _ => by kernel_rfl
  | 210, _ => by kernel_rfl
  | 211, _ => by kernel_rfl
  | 212, _ => by kernel_rfl
  | 213, _ => by kernel_rfl
  | 214, _ => by kernel_rfl
  | 215, _ => by kernel_rfl
  | 216, _ => by kernel_rfl
  | 217, _ => by kernel_rfl
  | 218, _ => by kernel_rfl
  | 219, _ => by kernel_rfl
  | 220, _ => by kernel_rfl
  | 221, _ => by kernel_rfl
  | 222, _ => by kernel_rfl
  | 223, _ => by kernel_rfl
  | 224, _ => by kernel_rfl
  | 225, _ => by kernel_rfl
  | 226, _ => by kernel_rfl
  | 227, _ => by kernel_rfl
  | 228, _ => by kernel_rfl
  | 229, _ => by kernel_rfl
  | 230, _ => by kernel_rfl
  | 231, _ => by kernel_rfl
  | 232, _ => by kernel_rfl
  | 233, _ => by kernel_rfl
  | 234, _ => by kernel_rfl
  | 235, _ => by kernel_rfl
  | 236, _ => by kernel_rfl
  | 237, _ => by kernel_rfl
  | 238, _ => by kernel_rfl
  | 239, _ => by kernel_rfl
  | 240, _ => by kernel_rfl
  | 241, _ => by kernel_rfl
  | 242, _ => by kernel_rfl
  | 243, _ => by kernel_rfl
  | 244, _ => by kernel_rfl
  | 245, _ => by kernel_rfl
  | 246, _ => by kernel_rfl
  | 247, _ => by kernel_rfl
  | 248, _ => by kernel_rfl
  | 249, _ => by kernel_rfl
  | 250, _ => by kernel_rfl
  | 251, _ => by kernel_rfl
  | 252, _ => by kernel_rfl
  | 253, _ => by kernel_rfl
  | 254, _ => by kernel_rfl
  | 255, _ => by kernel_rfl
  | n + 256, h => absurd h (by omega)
theorem of_all (x y : AV) (c : CallT) (n : Nat) (st : St) : ∀ m, m < 256 → z5s14 c n [x, .int .u8 (.ofNat m), .bool false, onL, ofL, y, .undef, .undef, .undef, .undef, .undef] st = some (.normal, [x, .int .u8 (.ofNat m), .bool false, onL, ofL, y, of3 m, .undef, .undef, .undef, .undef], st)
  | 0, _ => by kernel_rfl
  | 1, _ => by kernel_rfl
  | 2, _ => by kernel_rfl
  | 3, _ => by kernel_rfl
  | 4, _ => by kernel_rfl
  | 5, _ => by kernel_rfl
  | 6, _ => by kernel_rfl
  | 7, _ => by kernel_rfl
  | 8, _ => by kernel_rfl
  | 9, _ => by kernel_rfl
  | 10, _ => by kernel_rfl
  | 11, _ => by kernel_rfl
  | 12, _ => by kernel_rfl
  | 13, _ => by kernel_rfl
  | 14, _ => by kernel_rfl
  | 15, _ => by kernel_rfl
  | 16, _ => by kernel_rfl
  | 17, _ => by kernel_rfl
  | 18, _ => by kernel_rfl
  | 19, _ => by kernel_rfl
  | 20, _ => by kernel_rfl
  | 21, _ => by kernel_rfl
  | 22, _ => by kernel_rfl
  | 23, _ => by kernel_rfl
  | 24, _ => by kernel_rfl
  | 25, _ => by kernel_rfl
  | 26, _ => by kernel_rfl
  | 27, _ => by kernel_rfl
  | 28, _ => by kernel_rfl
  | 29, _ => by kernel_rfl
  | 30, _ => by kernel_rfl
  | 31, _ => by kernel_rfl
  | 32, _ => by kernel_rfl
  | 33, _ => by kernel_rfl
  | 34, _ => by kernel_rfl
  | 35, _ => by kernel_rfl
  | 36, _ => by kernel_rfl
  | 37, _ => by kernel_rfl
  | 38, _ => by kernel_rfl
  | 39, _ => by kernel_rfl
  | 40, _ => by kernel_rfl
  | 41, _ => by kernel_rfl
  | 42, _ => by kernel_rfl
  | 43, _ => by kernel_rfl
  | 44, _ => by kernel_rfl
  | 45, _ => by kernel_rfl
  | 46, _ => by kernel_rfl
  | 47, _ => by kernel_rfl
  | 48, _ => by kernel_rfl
  | 49, _ => by kernel_rfl
  | 50, _ => by kernel_rfl
  | 51, _ => by kernel_rfl
  | 52, _ => by kernel_rfl
  | 53, _ => by kernel_rfl
  | 54, _ => by kernel_rfl
  | 55, _ => by kernel_rfl
  | 56, _ => by kernel_rfl
  | 57, _ => by kernel_rfl
  | 58, _ => by kernel_rfl
  | 59, _ => by kernel_rfl
  | 60, _ => by kernel_rfl
  | 61, _ => by kernel_rfl
  | 62, _ => by kernel_rfl
  | 63, _ => by kernel_rfl
  | 64, _ => by kernel_rfl
  | 65, _ => by kernel_rfl
  | 66, _ => by kernel_rfl
  | 67, _ => by kernel_rfl
  | 68, _ => by kernel_rfl
  | 69, _ => by kernel_rfl
  | 70, _ => by kernel_rfl
  | 71, _ => by kernel_rfl
  | 72, _ => by kernel_rfl
  | 73, _ => by kernel_rfl
  | 74, _ => by kernel_rfl
  | 75, _ => by kernel_rfl
  | 76, _ => by kernel_rfl
  | 77, _ => by kernel_rfl
  | 78, _ => by kernel_rfl
  | 79, _ => by kernel_rfl
  | 80, _ => by kernel_rfl
  | 81, _ => by kernel_rfl
  | 82, _ => by kernel_rfl
  | 83, _ => by kernel_rfl
  | 84, _ => by kernel_rfl
  | 85, _ => by kernel_rfl
  | 86, _ => by kernel_rfl
  | 87, _ => by kernel_rfl
  | 88, _ => by kernel_rfl
  | 89, _ => by kernel_rfl
  | 90, _ => by kernel_rfl
  | 91, _ => by kernel_rfl
  | 92, _ => by kernel_rfl
  | 93, _ => by kernel_rfl
  | 94, _ => by kernel_rfl
  | 95, _ => by kernel_rfl
  | 96, _ => by kernel_rfl
  | 97, _ => by kernel_rfl
  | 98, _ => by kernel_rfl
  | 99, _ => by kernel_rfl
  | 100, _ => by kernel_rfl
  | 101, _ => by kernel_rfl
  | 102, _ => by kernel_rfl
  | 103, _ => by kernel_rfl
  | 104, _ => by kernel_rfl
  | 105, _ => by kernel_rfl
  | 106, _ => by kernel_rfl
  | 107, _ => by kernel_rfl
  | 108, _ => by kernel_rfl
  | 109, _ => by kernel_rfl
  | 110, _ => by kernel_rfl
  | 111, _ => by kernel_rfl
  | 112, _ => by kernel_rfl
  | 113, _ => by kernel_rfl
  | 114, _ => by kernel_rfl
  | 115, _ => by kernel_rfl
  | 116, _ => by kernel_rfl
  | 117, _ => by kernel_rfl
  | 118, _ => by kernel_rfl
  | 119, _ => by kernel_rfl
  | 120, _ => by kernel_rfl
  | 121, _ => by kernel_rfl
  | 122, _ => by kernel_rfl
  | 123, _ => by kernel_rfl
  | 124, _ => by kernel_rfl
  | 125, _ => by kernel_rfl
  | 126, _ => by kernel_rfl
  | 127, _ => by kernel_rfl
  | 128, _ => by kernel_rfl
  | 129, _ => by kernel_rfl
  | 130, _ => by kernel_rfl
  | 131, _ => by kernel_rfl
  | 132, _ => by kernel_rfl
  | 133, _ => by kernel_rfl
  | 134, _ => by kernel_rfl
  | 135, _ => by kernel_rfl
  | 136, _ => by kernel_rfl
  | 137, _ => by kernel_rfl
  | 138, _ => by kernel_rfl
  | 139, _ => by kernel_rfl
  | 140, _ => by kernel_rfl
  | 141, _ => by kernel_rfl
  | 142, _ => by kernel_rfl
  | 143, _ => by kernel_rfl
  | 144, _ => by kernel_rfl
  | 145, _ => by kernel_rfl
  | 146, _ => by kernel_rfl
  | 147, _ => by kernel_rfl
  | 148, _ => by kernel_rfl
  | 149, _ => by kernel_rfl
  | 150, _ => by kernel_rfl
  | 151, _ => by kernel_rfl
  | 152, _ => by kernel_rfl
  | 153, _ => by kernel_rfl
  | 154, _ => by kernel_rfl
  | 155, _ => by kernel_rfl
  | 156, _ => by kernel_rfl
  | 157, _ => by kernel_rfl
  | 158, _ => by kernel_rfl
  | 159, _ => by kernel_rfl
  | 160, _ => by kernel_rfl
  | 161, _ => by kernel_rfl
  | 162, _ => by kernel_rfl
  | 163, _ => by kernel_rfl
  | 164, _ => by kernel_rfl
  | 165, _ => by kernel_rfl
  | 166, _ => by kernel_rfl
  | 167, _ => by kernel_rfl
  | 168, _ => by kernel_rfl
  | 169, _ => by kernel_rfl
  | 170, _ => by kernel_rfl
  | 171, _ => by kernel_rfl
  | 172, _ => by kernel_rfl
  | 173, _ => by kernel_rfl
  | 174, _ => by kernel_rfl
  | 175, _ => by kernel_rfl
  | 176, _ => by kernel_rfl
  | 177, _ => by kernel_rfl
  | 178, _ => by kernel_rfl
  | 179, _ => by kernel_rfl
  | 180, _ => by kernel_rfl
  | 181, _ => by kernel_rfl
  | 182, _ => by kernel_rfl
  | 183, _ => by kernel_rfl
  | 184, _ => by kernel_rfl
  | 185, _ => by kernel_rfl
  | 186, _ => by kernel_rfl
  | 187, _ => by kernel_rfl
  | 188, _ => by kernel_rfl
  | 189, _ => by kernel_rfl
  | 190, _ => by kernel_rfl
  | 191, _ => by kernel_rfl
  | 192, _ => by kernel_rfl
  | 193, _ => by kernel_rfl
  | 194, _ => by kernel_rfl
  | 195, _ => by kernel_rfl
  | 196, _ => by kernel_rfl
  | 197, _ => by kernel_rfl
  | 198, _ => by kernel_rfl
  | 199, _ => by kernel_rfl
  | 200, _ => by kernel_rfl
  | 201, _ => by kernel_rfl
  | 202, _ => by kernel_rfl
  | 203, _ => by kernel_rfl
  | 204, _ => by kernel_rfl
  | 205, _ => by kernel_rfl
  | 206, _ => by kernel_rfl
  | 207, _ => by kernel_rfl
  | 208, _ => by kernel_rfl
  | 209, _ => by kernel_rfl
  | 210, _ => by kernel_rfl
  | 211, _ => by kernel_rfl
  | 212, _ => by kernel_rfl
  | 213, _ => by kernel_rfl
  | 214, _ => by kernel_rfl
  | 215, _ => by kernel_rfl
  | 216, _ => by kernel_rfl
  | 217, _ => by kernel_rfl
  | 218, _ => by kernel_rfl
  | 219, _ => by kernel_rfl
  | 220, _ => by kernel_rfl
  | 221, _ => by kernel_rfl
  | 222, _ => by kernel_rfl
  | 223, _ => by kernel_rfl
  | 224, _ => by kernel_rfl
  | 225, _ => by kernel_rfl
  | 226, _ => by kernel_rfl
  | 227, _ => by kernel_rfl
  | 228, _ => by kernel_rfl
  | 229, _ => by kernel_rfl
  | 230, _ => by kernel_rfl
  | 231, _ => by kernel_rfl
  | 232, _ => by kernel_rfl
  | 233, _ => by kernel_rfl
  | 234, _ => by kernel_rfl
  | 235, _ => by kernel_rfl
  | 236, _ => by kernel_rfl
  | 237, _ => by kernel_rfl
  | 238, _ => by kernel_rfl
  | 239, _ => by kernel_rfl
  | 240, _ => by kernel_rfl
  | 241, _ => by kernel_rfl
  | 242, _ => by kernel_rfl
  | 243, _ => by kernel_rfl
  | 244, _ => by kernel_rfl
  | 245, _ => by kernel_rfl
  | 246, _ => by kernel_rfl
  | 247, _ => by kernel_rfl
  | 248, _ => by kernel_rfl
  | 249, _ => by kernel_rfl
  | 250, _ => by kernel_rfl
  | 251, _ => by kernel_rfl
  | 252, _ => by kernel_rfl
  | 253, _ => by kernel_rfl
  | 254, _ => by kernel_rfl
  | 255, _ => by kernel_rfl
  | n + 256, h => absurd h (by omega)
theorem yes_0_0 (x y : AV) (c : CallT) (n : Nat) (st : St) : z5s16 c n [x, y, .bool false, onL, ofL, onA.getD 0 .undef, ofA.getD 0 .undef, .undef, .undef, .undef, .undef] st = some (.normal, [x, y, .bool false, onL, ofL, onA.getD 0 .undef, ofA.getD 0 .undef, ys 0 0, .undef, .undef, .undef], st) := by kernel_rfl
theorem tail_0_0 (x y : AV) : okFst (finK [.v 2] (z5s30 (callQ tbl zs 3000) 3000 [x, y, .bool false, onL, ofL, onA.getD 0 .undef, ofA.getD 0 .undef, ys 0 0, .ptr 51 0, .undef, .undef] T_br)) = some (.bool true) := by kernel_rfl
theorem yes_0_1 (x y : AV) (c : CallT) (n : Nat) (st : St) : z5s16 c n [x, y, .bool false, onL, ofL, onA.getD 0 .undef, ofA.getD 1 .undef, .undef, .undef, .undef, .undef] st = some (.normal, [x, y, .bool false, onL, ofL, onA.getD 0 .undef, ofA.getD 1 .undef, ys 0 1, .undef, .undef, .undef], st) := by kernel_rfl
theorem tail_0_1 (x y : AV) : okFst (finK [.v 2] (z5s30 (callQ tbl zs 3000) 3000 [x, y, .bool false, onL, ofL, onA.getD 0 .undef, ofA.getD 1 .undef, ys 0 1, .ptr 51 0, .undef, .undef] T_br)) = some (.bool true) := by kernel_rfl
theorem yes_0_2 (x y : AV) (c : CallT) (n : Nat) (st : St) : z5s16 c n [x, y, .bool false, onL, ofL, onA.getD 0 .undef, ofA.getD 2 .undef, .undef, .undef, .undef, .undef] st = some (.normal, [x, y, .bool false, onL, ofL, onA.getD 0 .undef, ofA.getD 2 .undef, ys 0 2, .undef, .undef, .undef], st) := by kernel_rfl
theorem tail_0_2 (x y : AV) : okFst (finK [.v 2] (z5s30 (callQ tbl zs 3000) 3000 [x, y, .bool false, onL, ofL, onA.getD 0 .undef, ofA.getD 2 .undef, ys 0 2, .ptr 51 0, .undef, .undef] T_br)) = some (.bool true) := by kernel_rfl
theorem yes_1_0 (x y : AV) (c : CallT) (n : Nat) (st : St) : z5s16 c n [x, y, .bool false, onL, ofL, onA.getD 1 .undef, ofA.getD 0 .undef, .undef, .undef, .undef, .undef] st = some (.normal, [x, y, .bool false, onL, ofL, onA.getD 1 .undef, ofA.getD 0 .undef, ys 1 0, .undef, .undef, .undef], st) := by kernel_rfl
theorem tail_1_0 (x y : AV) : okFst (finK [.v 2] (z5s30 (callQ tbl zs 3000) 3000 [x, y, .bool false, onL, ofL, onA.getD 1 .undef, ofA.getD 0 .undef, ys 1 0, .ptr 51 0, .undef, .undef] T_br)) = some (.bool true) := by kernel_rfl
theorem yes_1_1 (x y : AV) (c : CallT) (n : Nat) (st : St) : z5s16 c n [x, y, .bool false, onL, ofL, onA.getD 1 .undef, ofA.getD 1 .undef, .undef, .undef, .undef, .undef] st = some (.normal, [x, y, .bool false, onL, ofL, onA.getD 1 .undef, ofA.getD 1 .undef, ys 1 1, .undef, .undef, .undef], st) := by kernel_rfl
theorem tail_1_1 (x y : AV) : okFst (finK [.v 2] (z5s30 (callQ tbl zs 3000) 3000 [x, y, .bool false, onL, ofL, onA.getD 1 .undef, ofA.getD 1 .undef, ys 1 1, .ptr 51 0, .undef, .undef] T_br)) = some (.bool true) := by kernel_rfl
theorem yes_1_2 (x y : AV) (c : CallT) (n : Nat) (st : St) : z5s16 c n [x, y, .bool false, onL, ofL, onA.getD 1 .undef, ofA.getD 2 .undef, .undef, .undef, .undef, .undef] st = some (.normal, [x, y, .bool false, onL, ofL, onA.getD 1 .undef, ofA.getD 2 .undef, ys 1 2, .undef, .undef, .undef], st) := by kernel_rfl
theorem tail_1_2 (x y : AV) : okFst (finK [.v 2] (z5s30 (callQ tbl zs 3000) 3000 [x, y, .bool false, onL, ofL, onA.getD 1 .undef, ofA.getD 2 .undef, ys 1 2, .ptr 51 0, .undef, .undef] T_br)) = some (.bool true) := by kernel_rfl
theorem yes_2_0 (x y : AV) (c : CallT) (n : Nat) (st : St) : z5s16 c n [x, y, .bool false, onL, ofL, onA.getD 2 .undef, ofA.getD 0 .undef, .undef, .undef, .undef, .undef] st = some (.normal, [x, y, .bool false, onL, ofL, onA.getD 2 .undef, ofA.getD 0 .undef, ys 2 0, .undef, .undef, .undef], st) := by kernel_rfl
theorem tail_2_0 (x y : AV) : okFst (finK [.v 2] (z5s30 (callQ tbl zs 3000) 3000 [x, y, .bool false, onL, ofL, onA.getD 2 .undef, ofA.getD 0 .undef, ys 2 0, .ptr 51 0, .undef, .undef] T_br)) = some (.bool true) := by kernel_rfl
theorem yes_2_1 (x y : AV) (c : CallT) (n : Nat) (st : St) : z5s16 c n [x, y, .bool false, onL, ofL, onA.getD 2 .undef, ofA.getD 1 .undef, .undef, .undef, .undef, .undef] st = some (.normal, [x, y, .bool false, onL, ofL, onA.getD 2 .undef, ofA.getD 1 .undef, ys 2 1, .undef, .undef, .undef], st) := by kernel_rfl
theorem tail_2_1 (x y : AV) : okFst (finK [.v 2] (z5s30 (callQ tbl zs 3000) 3000 [x, y, .bool false, onL, ofL, onA.getD 2 .undef, ofA.getD 1 .undef, ys 2 1, .ptr 51 0, .undef, .undef] T_br)) = some (.bool true) := by kernel_rfl
theorem yes_2_2 (x y : AV) (c : CallT) (n : Nat) (st : St) : z5s16 c n [x, y, .bool false, onL, ofL, onA.getD 2 .undef, ofA.getD 2 .undef, .undef, .undef, .undef, .undef] st = some (.normal, [x, y, .bool false, onL, ofL, onA.getD 2 .undef, ofA.getD 2 .undef, ys 2 2, .undef, .undef, .undef], st) := by kernel_rfl
theorem tail_2_2 (x y : AV) : okFst (finK [.v 2] (z5s30 (callQ tbl zs 3000) 3000 [x, y, .bool false, onL, ofL, onA.getD 2 .undef, ofA.getD 2 .undef, ys 2 2, .ptr 51 0, .undef, .undef] T_br)) = some (.bool true) := by kernel_rfl
theorem yes_3_0 (x y : AV) (c : CallT) (n : Nat) (st : St) : z5s16 c n [x, y, .bool false, onL, ofL, onA.getD 3 .undef, ofA.getD 0 .undef, .undef, .undef, .undef, .undef] st = some (.normal, [x, y, .bool false, onL, ofL, onA.getD 3 .undef, ofA.getD 0 .undef, ys 3 0, .undef, .undef, .undef], st) := by kernel_rfl
theorem tail_3_0 (x y : AV) : okFst (finK [.v 2] (z5s30 (callQ tbl zs 3000) 3000 [x, y, .bool false, onL, ofL, onA.getD 3 .undef, ofA.getD 0 .undef, ys 3 0, .ptr 51 0, .undef, .undef] T_br)) = some (.bool true) := by kernel_rfl
theorem yes_3_1 (x y : AV) (c : CallT) (n : Nat) (st : St) : z5s16 c n [x, y, .bool false, onL, ofL, onA.getD 3 .undef, ofA.getD 1 .undef, .undef, .undef, .undef, .undef] st = some (.normal, [x, y, .bool false, onL, ofL, onA.getD 3 .undef, ofA.getD 1 .undef, ys 3 1, .undef, .undef, .undef], st) := by kernel_rfl
theorem tail_3_1 (x y : AV) : okFst (finK [.v 2] (z5s30 (callQ tbl zs 3000) 3000 [x, y, .bool false, onL, ofL, onA.getD 3 .undef, ofA.getD 1 .undef, ys 3 1, .ptr 51 0, .undef, .undef] T_br)) = some (.bool true) := by kernel_rfl
theorem yes_3_2 (x y : AV) (c : CallT) (n : Nat) (st : St) : z5s16 c n [x, y, .bool false, onL, ofL, onA.getD 3 .undef, ofA.getD 2 .undef, .undef, .undef, .undef, .undef] st = some (.normal, [x, y, .bool false, onL, ofL, onA.getD 3 .undef, ofA.getD 2 .undef, ys 3 2, .undef, .undef, .undef], st) := by kernel_rfl
theorem tail_3_2 (x y : AV) : okFst (finK [.v 2] (z5s30 (callQ tbl zs 3000) 3000 [x, y, .bool false, onL, ofL, onA.getD 3 .undef, ofA.getD 2 .undef, ys 3 2, .ptr 51 0, .undef, .undef] T_br)) = some (.bool true) := by kernel_rfl
theorem yes_4_0 (x y : AV) (c : CallT) (n : Nat) (st : St) : z5s16 c n [x, y, .bool false, onL, ofL, onA.getD 4 .undef, ofA.getD 0 .undef, .undef, .undef, .undef, .undef] st = some (.normal, [x, y, .bool false, onL, ofL, onA.getD 4 .undef, ofA.getD 0 .undef, ys 4 0, .undef, .undef, .undef], st) := by kernel_rfl
theorem tail_4_0 (x y : AV) : okFst (finK [.v 2] (z5s30 (callQ tbl zs 3000) 3000 [x, y, .bool false, onL, ofL, onA.getD 4 .undef, ofA.getD 0 .undef, ys 4 0, .ptr 51 0, .undef, .undef] T_br)) = some (.bool true) := by kernel_rfl
theorem yes_4_1 (x y : AV) (c : CallT) (n : Nat) (st : St) : z5s16 c n [x, y, .bool false, onL, ofL, onA.getD 4 .undef, ofA.getD 1 .undef, .undef, .undef, .undef, .undef] st = some (.normal, [x, y, .bool false, onL, ofL, onA.getD 4 .undef, ofA.getD 1 .undef, ys 4 1, .undef, .undef, .undef], st) := by kernel_rfl
theorem tail_4_1 (x y : AV) : okFst (finK [.v 2] (z5s30 (callQ tbl zs 3000) 3000 [x, y, .bool false, onL, ofL, onA.getD 4 .undef, ofA.getD 1 .undef, ys 4 1, .ptr 51 0, .undef, .undef] T_br)) = some (.bool true) := by kernel_rfl
theorem yes_4_2 (x y : AV) (c : CallT) (n : Nat) (st : St) : z5s16 c n [x, y, .bool false, onL, ofL, onA.getD 4 .undef, ofA.getD 2 .undef, .undef, .undef, .undef, .undef] st = some (.normal, [x, y, .bool false, onL, ofL, onA.getD 4 .undef, ofA.getD 2 .undef, ys 4 2, .undef, .undef, .undef], st) := by kernel_rfl
theorem tail_4_2 (x y : AV) : okFst (finK [.v 2] (z5s30 (callQ tbl zs 3000) 3000 [x, y, .bool false, onL, ofL, onA.getD 4 .undef, ofA.getD 2 .undef, ys 4 2, .ptr 51 0, .undef, .undef] T_br)) = some (.bool true) := by kernel_rfl
theorem yes_5_0 (x y : AV) (c : CallT) (n : Nat) (st : St) : z5s16 c n [x, y, .bool false, onL, ofL, onA.getD 5 .undef, ofA.getD 0 .undef, .undef, .undef, .undef, .undef] st = some (.normal, [x, y, .bool false, onL, ofL, onA.getD 5 .undef, ofA.getD 0 .undef, ys 5 0, .undef, .undef, .undef], st) := by kernel_rfl
theorem tail_5_0 (x y : AV) : okFst (finK [.v 2] (z5s30 (callQ tbl zs 3000) 3000 [x, y, .bool false, onL, ofL, onA.getD 5 .undef, ofA.getD 0 .undef, ys 5 0, .ptr 51 0, .undef, .undef] T_br)) = some (.bool true) := by kernel_rfl
theorem yes_5_1 (x y : AV) (c : CallT) (n : Nat) (st : St) : z5s16 c n [x, y, .bool false, onL, ofL, onA.getD 5 .undef, ofA.getD 1 .undef, .undef, .undef, .undef, .undef] st = some (.normal, [x, y, .bool false, onL, ofL, onA.getD 5 .undef, ofA.getD 1 .undef, ys 5 1, .undef, .undef, .undef], st) := by kernel_rfl
theorem tail_5_1 (x y : AV) : okFst (finK [.v 2] (z5s30 (callQ tbl zs 3000) 3000 [x, y, .bool false, onL, ofL, onA.getD 5 .undef, ofA.getD 1 .undef, ys 5 1, .ptr 51 0, .undef, .undef] T_br)) = some (.bool true) := by kernel_rfl
theorem yes_5_2 (x y : AV) (c : CallT) (n : Nat) (st : St) : z5s16 c n [x, y, .bool false, onL, ofL, onA.getD 5 .undef, ofA.getD 2 .undef, .undef, .undef, .undef, .undef] st = some (.normal, [x, y, .bool false, onL, ofL, onA.getD 5 .undef, ofA.getD 2 .undef, ys 5 2, .undef, .undef, .undef], st) := by kernel_rfl
theorem tail_5_2 (x y : AV) : okFst (finK [.v 2] (z5s30 (callQ tbl zs 3000) 3000 [x, y, .bool false, onL, ofL, onA.getD 5 .undef, ofA.getD 2 .undef, ys 5 2, .ptr 51 0, .undef, .undef] T_br)) = some (.bool true) := by kernel_rfl
theorem yes_6_0 (x y : AV) (c : CallT) (n : Nat) (st : St) : z5s16 c n [x, y, .bool false, onL, ofL, onA.getD 6 .undef, ofA.getD 0 .undef, .undef, .undef, .undef, .undef] st = some (.normal, [x, y, .bool false, onL, ofL, onA.getD 6 .undef, ofA.getD 0 .undef, ys 6 0, .undef, .undef, .undef], st) := by kernel_rfl
theorem tail_6_0 (x y : AV) : okFst (finK [.v 2] (z5s30 (callQ tbl zs 3000) 3000 [x, y, .bool false, onL, ofL, onA.getD 6 .undef, ofA.getD 0 .undef, ys 6 0, .ptr 51 0, .undef, .undef] T_br)) = some (.bool true) := by kernel_rfl
theorem yes_6_1 (x y : AV) (c : CallT) (n : Nat) (st : St) : z5s16 c n [x, y, .bool false, onL, ofL, onA.getD 6 .undef, ofA.getD 1 .undef, .undef, .undef, .undef, .undef] st = some (.normal, [x, y, .bool false, onL, ofL, onA.getD 6 .undef, ofA.getD 1 .undef, ys 6 1, .undef, .undef, .undef], st) := by kernel_rfl
theorem tail_6_1 (x y : AV) : okFst (finK [.v 2] (z5s30 (callQ tbl zs 3000) 3000 [x, y, .bool false, onL, ofL, onA.getD 6 .undef, ofA.getD 1 .undef, ys 6 1, .ptr 51 0, .undef, .undef] T_br)) = some (.bool true) := by kernel_rfl
theorem yes_6_2 (x y : AV) (c : CallT) (n : Nat) (st : St) : z5s16 c n [x, y, .bool false, onL, ofL, onA.getD 6 .undef, ofA.getD 2 .undef, .undef, .undef, .undef, .undef] st = some (.normal, [x, y, .bool false, onL, ofL, onA.getD 6 .undef, ofA.getD 2 .undef, ys 6 2, .undef, .undef, .undef], st) := by kernel_rfl
theorem tail_6_2 (x y : AV) : okFst (finK [.v 2] (z5s30 (callQ tbl zs 3000) 3000 [x, y, .bool false, onL, ofL, onA.getD 6 .undef, ofA.getD 2 .undef, ys 6 2, .ptr 51 0, .undef, .undef] T_br)) = some (.bool true) := by kernel_rfl
theorem yes_all (x y : AV) (c : CallT) (n : Nat) (st : St) : ∀ j l, j < 7 → l < 3 → z5s16 c n [x, y, .bool false, onL, ofL, onA.getD j .undef, ofA.getD l .undef, .undef, .undef, .undef, .undef] st = some (.normal, [x, y, .bool false, onL, ofL, onA.getD j .undef, ofA.getD l .undef, ys j l, .undef, .undef, .undef], st)
  | 0, 0, _, _ => yes_0_0 x y c n st
  | 0, 1, _, _ => yes_0_1 x y c n st
  | 0, 2, _, _ => yes_0_2 x y c n st
  | 1, 0, _, _ => yes_1_0 x y c n st
  | 1, 1, _, _ => yes_1_1 x y c n st
  | 1, 2, _, _ => yes_1_2 x y c n st
  | 2, 0, _, _ => yes_2_0 x y c n st
  | 2, 1, _, _ => yes_2_1 x y c n st
  | 2, 2, _, _ => yes_2_2 x y c n st
  | 3, 0, _, _ => yes_3_0 x y c n st
  | 3, 1, _, _ => yes_3_1 x y c n st
  | 3, 2, _, _ => yes_3_2 x y c n st
  | 4, 0, _, _ => yes_4_0 x y c n st
  | 4, 1, _, _ => yes_4_1 x y c n st
  | 4, 2, _, _ => yes_4_2 x y c n st
  | 5, 0, _, _ => yes_5_0 x y c n st
  | 5, 1, _, _ => yes_5_1 x y c n st
  | 5, 2, _, _ => yes_5_2 x y c n st
  | 6, 0, _, _ => yes_6_0 x y c n st
  | 6, 1, _, _ => yes_6_1 x y c n st
  | 6, 2, _, _ => yes_6_2 x y c n st
  | j + 7, _, h, _ => absurd h (by omega)
  | _, l + 3, _, h => absurd h (by omega)
theorem tail_all (x y : AV) : ∀ j l, j < 7 → l < 3 → okFst (finK [.v 2] (z5s30 (callQ tbl zs 3000) 3000 [x, y, .bool false, onL, ofL, onA.getD j .undef, ofA.getD l .undef, ys j l, .ptr 51 0, .undef, .undef] T_br)) = some (.bool true)
  | 0, 0, _, _ => tail_0_0 x y
  | 0, 1, _, _ => tail_0_1 x y
  | 0, 2, _, _ => tail_0_2 x y
  | 1, 0, _, _ => tail_1_0 x y
  | 1, 1, _, _ => tail_1_1 x y
  | 1, 2, _, _ => tail_1_2 x y
  | 2, 0, _, _ => tail_2_0 x y
  | 2, 1, _, _ => tail_2_1 x y
  | 2, 2, _, _ => tail_2_2 x y
  | 3, 0, _, _ => tail_3_0 x y
  | 3, 1, _, _ => tail_3_1 x y
  | 3, 2, _, _ => tail_3_2 x y
  | 4, 0, _, _ => tail_4_0 x y
  | 4, 1, _, _ => tail_4_1 x y
  | 4, 2, _, _ => tail_4_2 x y
  | 5, 0, _, _ => tail_5_0 x y
  | 5, 1, _, _ => tail_5_1 x y
  | 5, 2, _, _ => tail_5_2 x y
  | 6, 0, _, _ => tail_6_0 x y
  | 6, 1, _, _ => tail_6_1 x y
  | 6, 2, _, _ => tail_6_2 x y
  | j + 7, _, h, _ => absurd h (by omega)
  | _, l + 3, _, h => absurd h (by omega)
theorem types_law (m k : Nat) (hm : m < 256) (hk : k < 256) : ∃ n st', callF tbl n 5 [.int .u8 m, .int .u8 k] [] = some (.bool true, st') := by
  have hj : m % 7 < 7 := Nat.mod_lt _ (by omega)
  have hl : k % 3 < 3 := Nat.mod_lt _ (by omega)
  have ht := tail_all (.int .u8 (.ofNat m)) (.int .u8 (.ofNat k)) _ _ hj hl
  cases hf : finK [.v 2] (z5s30 (callQ tbl zs 3000) 3000 [.int .u8 (.ofNat m), .int .u8 (.ofNat k), .bool false, onL, ofL, onA.getD (m % 7) .undef, ofA.getD (k % 3) .undef, ys (m % 7) (k % 3), .ptr 51 0, .undef, .undef] T_br) with
  | none => rw [hf] at ht; cases ht
  | some r =>
    obtain ⟨v, st'⟩ := r
    rw [hf] at ht
    have hv : v = .bool true := Option.some.inj ht
    subst hv
    have : Ev tbl 5 [.int .u8 (.ofNat m), .int .u8 (.ofNat k)] [] (.bool true) st' := by
      refine ev_fin (fn := a5) (r := (.bool true, st')) (by kernel_rfl) (by kernel_rfl) (by kernel_rfl) ?_
      refine seq_fin (a := a5s1) (b := a5s37) (xc_of0 (out := (.normal, [.int .u8 (.ofNat m), .int .u8 (.ofNat k), .bool false, .undef, .undef, .undef, .undef, .undef, .undef, .undef, .undef], [])) z5s1_r (fun c n => by kernel_rfl)) ?_
      refine seq_fin (a := a5s6) (b := a5s36) (xc_ofC z5s6_r awake_ev (out := (.normal, [.int .u8 (.ofNat m), .int .u8 (.ofNat k), .bool false, .undef, .undef, .undef, .undef, .undef, .undef, .undef, .undef], T_aw)) (fun c n => by kernel_rfl) (fun n => by kernel_rfl)) ?_
      refine seq_fin (a := a5s8) (b := a5s35) (xc_of0 (out := (.normal, [.int .u8 (.ofNat m), .int .u8 (.ofNat k), .bool false, onL, .undef, .undef, .undef, .undef, .undef, .undef, .undef], T_aw)) z5s8_r (fun c n => by kernel_rfl)) ?_
      refine seq_fin (a := a5s10) (b := a5s34) (xc_of0 (out := (.normal, [.int .u8 (.ofNat m), .int .u8 (.ofNat k), .bool false, onL, ofL, .undef, .undef, .undef, .undef, .undef, .undef], T_aw)) z5s10_r (fun c n => by kernel_rfl)) ?_
      refine seq_fin (a := a5s12) (b := a5s33) (xc_of0 z5s12_r (fun c n => on_all (.int .u8 (.ofNat k)) c n T_aw m hm)) ?_
      refine seq_fin (a := a5s14) (b := a5s32) (xc_of0 z5s14_r (fun c n => of_all (.int .u8 (.ofNat m)) (on7 m) c n T_aw k hk)) ?_
      refine seq_fin (a := a5s16) (b := a5s31) (xc_of0 z5s16_r (fun c n => yes_all (.int .u8 (.ofNat m)) (.int .u8 (.ofNat k)) c n T_aw _ _ hj hl)) ?_
      refine seq_fin (a := a5s18) (b := a5s30) (xc_ofC z5s18_r both_b (out := (.normal, [.int .u8 (.ofNat m), .int .u8 (.ofNat k), .bool false, onL, ofL, onA.getD (m % 7) .undef, ofA.getD (k % 3) .undef, ys (m % 7) (k % 3), .ptr 51 0, .undef, .undef], T_br)) (fun c n => by kernel_rfl) (fun n => by kernel_rfl)) ?_
      exact xc_fin zs_ok z5s30_r (k := 3000) hf
    obtain ⟨n, hn⟩ := this
    exact ⟨n, st', hn⟩
end Go.Cb.CodeA
