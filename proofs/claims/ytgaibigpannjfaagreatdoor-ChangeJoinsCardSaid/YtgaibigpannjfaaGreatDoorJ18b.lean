import Derived.Test.YtgaibigpannjfaaGreatDoorJs1
set_option maxRecDepth 100000
set_option linter.all false
namespace Go.Cb.CodeA
open Go Go.Cb Go.Cb.G
theorem n00:m3 (two 0 0):=by unfold m3; and_intros<;>kernel_rfl
theorem n01:m3 (two 0 1):=by unfold m3; and_intros<;>kernel_rfl
theorem n02:m3 (two 0 2):=by unfold m3; and_intros<;>kernel_rfl
theorem n03:m3 (two 0 3):=by unfold m3; and_intros<;>kernel_rfl
theorem n04:m3 (two 0 4):=by unfold m3; and_intros<;>kernel_rfl
theorem b5Q:∀ {j:Nat},j < 5→m3 (two 0 j):=by
 intro j i;match j,i with
 | 0,_=>exact n00
 | 1,_=>exact n01
 | 2,_=>exact n02
 | 3,_=>exact n03
 | 4,_=>exact n04
theorem n10:m3 (two 1 0):=by unfold m3; and_intros<;>kernel_rfl
theorem n11:m3 (two 1 1):=by unfold m3; and_intros<;>kernel_rfl
theorem n12:m3 (two 1 2):=by unfold m3; and_intros<;>kernel_rfl
theorem n13:m3 (two 1 3):=by unfold m3; and_intros<;>kernel_rfl
theorem n14:m3 (two 1 4):=by unfold m3; and_intros<;>kernel_rfl
theorem b4L:∀ {j:Nat},j < 5→m3 (two 1 j):=by
 intro j i;match j,i with
 | 0,_=>exact n10
 | 1,_=>exact n11
 | 2,_=>exact n12
 | 3,_=>exact n13
 | 4,_=>exact n14
theorem n20:m3 (two 2 0):=by unfold m3; and_intros<;>kernel_rfl
theorem n21:m3 (two 2 1):=by unfold m3; and_intros<;>kernel_rfl
theorem n22:m3 (two 2 2):=by unfold m3; and_intros<;>kernel_rfl
theorem n23:m3 (two 2 3):=by unfold m3; and_intros<;>kernel_rfl
theorem n24:m3 (two 2 4):=by unfold m3; and_intros<;>kernel_rfl
theorem b3U:∀ {j:Nat},j < 5→m3 (two 2 j):=by
 intro j i;match j,i with
 | 0,_=>exact n20
 | 1,_=>exact n21
 | 2,_=>exact n22
 | 3,_=>exact n23
 | 4,_=>exact n24
end Go.Cb.CodeA
