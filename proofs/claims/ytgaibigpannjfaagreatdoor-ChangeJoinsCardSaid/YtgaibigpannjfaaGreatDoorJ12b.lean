import Derived.Test.YtgaibigpannjfaaGreatDoorJs1
set_option maxRecDepth 100000
set_option linter.all false
namespace Go.Cb.CodeA
open Go Go.Cb Go.Cb.G
theorem d00:m8 (two 0 0):=by unfold m8; and_intros<;>kernel_rfl
theorem d01:m8 (two 0 1):=by unfold m8; and_intros<;>kernel_rfl
theorem d02:m8 (two 0 2):=by unfold m8; and_intros<;>kernel_rfl
theorem d03:m8 (two 0 3):=by unfold m8; and_intros<;>kernel_rfl
theorem d04:m8 (two 0 4):=by unfold m8; and_intros<;>kernel_rfl
theorem b7i:∀ {j:Nat},j < 5→m8 (two 0 j):=by
 intro j i;match j,i with
 | 0,_=>exact d00
 | 1,_=>exact d01
 | 2,_=>exact d02
 | 3,_=>exact d03
 | 4,_=>exact d04
theorem d10:m8 (two 1 0):=by unfold m8; and_intros<;>kernel_rfl
theorem d11:m8 (two 1 1):=by unfold m8; and_intros<;>kernel_rfl
theorem d12:m8 (two 1 2):=by unfold m8; and_intros<;>kernel_rfl
theorem d13:m8 (two 1 3):=by unfold m8; and_intros<;>kernel_rfl
theorem d14:m8 (two 1 4):=by unfold m8; and_intros<;>kernel_rfl
theorem b8k:∀ {j:Nat},j < 5→m8 (two 1 j):=by
 intro j i;match j,i with
 | 0,_=>exact d10
 | 1,_=>exact d11
 | 2,_=>exact d12
 | 3,_=>exact d13
 | 4,_=>exact d14
theorem d20:m8 (two 2 0):=by unfold m8; and_intros<;>kernel_rfl
theorem d21:m8 (two 2 1):=by unfold m8; and_intros<;>kernel_rfl
theorem d22:m8 (two 2 2):=by unfold m8; and_intros<;>kernel_rfl
theorem d23:m8 (two 2 3):=by unfold m8; and_intros<;>kernel_rfl
theorem d24:m8 (two 2 4):=by unfold m8; and_intros<;>kernel_rfl
theorem b7A:∀ {j:Nat},j < 5→m8 (two 2 j):=by
 intro j i;match j,i with
 | 0,_=>exact d20
 | 1,_=>exact d21
 | 2,_=>exact d22
 | 3,_=>exact d23
 | 4,_=>exact d24
end Go.Cb.CodeA
