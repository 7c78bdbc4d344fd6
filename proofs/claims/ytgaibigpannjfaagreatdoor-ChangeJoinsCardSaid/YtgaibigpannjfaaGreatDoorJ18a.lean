import Derived.Test.YtgaibigpannjfaaGreatDoorJs1
set_option maxRecDepth 100000
set_option linter.all false
namespace Go.Cb.CodeA
open Go Go.Cb Go.Cb.G
theorem n0x:m3 (one 0 120):=by unfold m3; and_intros<;>kernel_rfl
theorem n0y:m3 (one 0 121):=by unfold m3; and_intros<;>kernel_rfl
theorem n1x:m3 (one 1 120):=by unfold m3; and_intros<;>kernel_rfl
theorem n1y:m3 (one 1 121):=by unfold m3; and_intros<;>kernel_rfl
theorem n2x:m3 (one 2 120):=by unfold m3; and_intros<;>kernel_rfl
theorem n2y:m3 (one 2 121):=by unfold m3; and_intros<;>kernel_rfl
theorem n3x:m3 (one 3 120):=by unfold m3; and_intros<;>kernel_rfl
theorem n3y:m3 (one 3 121):=by unfold m3; and_intros<;>kernel_rfl
theorem n4x:m3 (one 4 120):=by unfold m3; and_intros<;>kernel_rfl
theorem n4y:m3 (one 4 121):=by unfold m3; and_intros<;>kernel_rfl
theorem b7R {a:Nat} (i:a=120∨a=121):∀ {k:Nat},k < 5→m3 (one k a):=by
 intro k hk;rcases i with rfl|rfl
 · match k,hk with
   | 0,_=>exact n0x
   | 1,_=>exact n1x
   | 2,_=>exact n2x
   | 3,_=>exact n3x
   | 4,_=>exact n4x
 · match k,hk with
   | 0,_=>exact n0y
   | 1,_=>exact n1y
   | 2,_=>exact n2y
   | 3,_=>exact n3y
   | 4,_=>exact n4y
end Go.Cb.CodeA
