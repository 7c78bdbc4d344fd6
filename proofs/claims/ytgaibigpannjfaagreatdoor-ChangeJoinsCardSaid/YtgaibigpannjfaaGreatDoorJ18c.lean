import Derived.Test.YtgaibigpannjfaaGreatDoorJs1
set_option maxRecDepth 100000
set_option linter.all false
namespace Go.Cb.CodeA
open Go Go.Cb Go.Cb.G
theorem n30:m3 (two 3 0):=by unfold m3; and_intros<;>kernel_rfl
theorem n31:m3 (two 3 1):=by unfold m3; and_intros<;>kernel_rfl
theorem n32:m3 (two 3 2):=by unfold m3; and_intros<;>kernel_rfl
theorem n33:m3 (two 3 3):=by unfold m3; and_intros<;>kernel_rfl
theorem n34:m3 (two 3 4):=by unfold m3; and_intros<;>kernel_rfl
theorem b50:∀ {j:Nat},j < 5→m3 (two 3 j):=by
 intro j i;match j,i with
 | 0,_=>exact n30
 | 1,_=>exact n31
 | 2,_=>exact n32
 | 3,_=>exact n33
 | 4,_=>exact n34
theorem n40:m3 (two 4 0):=by unfold m3; and_intros<;>kernel_rfl
theorem n41:m3 (two 4 1):=by unfold m3; and_intros<;>kernel_rfl
theorem n42:m3 (two 4 2):=by unfold m3; and_intros<;>kernel_rfl
theorem n43:m3 (two 4 3):=by unfold m3; and_intros<;>kernel_rfl
theorem n44:m3 (two 4 4):=by unfold m3; and_intros<;>kernel_rfl
theorem b46:∀ {j:Nat},j < 5→m3 (two 4 j):=by
 intro j i;match j,i with
 | 0,_=>exact n40
 | 1,_=>exact n41
 | 2,_=>exact n42
 | 3,_=>exact n43
 | 4,_=>exact n44
end Go.Cb.CodeA
