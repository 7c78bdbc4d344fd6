import Derived.Test.YtgaibigpannjfaaGreatDoorJs1
set_option maxRecDepth 100000
set_option linter.all false
namespace Go.Cb.CodeA
open Go Go.Cb Go.Cb.G
theorem d30:m8 (two 3 0):=by unfold m8; and_intros<;>kernel_rfl
theorem d31:m8 (two 3 1):=by unfold m8; and_intros<;>kernel_rfl
theorem d32:m8 (two 3 2):=by unfold m8; and_intros<;>kernel_rfl
theorem d33:m8 (two 3 3):=by unfold m8; and_intros<;>kernel_rfl
theorem d34:m8 (two 3 4):=by unfold m8; and_intros<;>kernel_rfl
theorem b7L:∀ {j:Nat},j < 5→m8 (two 3 j):=by
 intro j i;match j,i with
 | 0,_=>exact d30
 | 1,_=>exact d31
 | 2,_=>exact d32
 | 3,_=>exact d33
 | 4,_=>exact d34
theorem d40:m8 (two 4 0):=by unfold m8; and_intros<;>kernel_rfl
theorem d41:m8 (two 4 1):=by unfold m8; and_intros<;>kernel_rfl
theorem d42:m8 (two 4 2):=by unfold m8; and_intros<;>kernel_rfl
theorem d43:m8 (two 4 3):=by unfold m8; and_intros<;>kernel_rfl
theorem d44:m8 (two 4 4):=by unfold m8; and_intros<;>kernel_rfl
theorem b8p:∀ {j:Nat},j < 5→m8 (two 4 j):=by
 intro j i;match j,i with
 | 0,_=>exact d40
 | 1,_=>exact d41
 | 2,_=>exact d42
 | 3,_=>exact d43
 | 4,_=>exact d44
end Go.Cb.CodeA
