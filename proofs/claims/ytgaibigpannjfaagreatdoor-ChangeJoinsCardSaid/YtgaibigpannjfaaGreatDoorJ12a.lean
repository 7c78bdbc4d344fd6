import Derived.Test.YtgaibigpannjfaaGreatDoorJs1
set_option maxRecDepth 100000
set_option linter.all false
namespace Go.Cb.CodeA
open Go Go.Cb Go.Cb.G
theorem d0x:m8 (one 0 120):=by unfold m8; and_intros<;>kernel_rfl
theorem d0y:m8 (one 0 121):=by unfold m8; and_intros<;>kernel_rfl
theorem d1x:m8 (one 1 120):=by unfold m8; and_intros<;>kernel_rfl
theorem d1y:m8 (one 1 121):=by unfold m8; and_intros<;>kernel_rfl
theorem d2x:m8 (one 2 120):=by unfold m8; and_intros<;>kernel_rfl
theorem d2y:m8 (one 2 121):=by unfold m8; and_intros<;>kernel_rfl
theorem d3x:m8 (one 3 120):=by unfold m8; and_intros<;>kernel_rfl
theorem d3y:m8 (one 3 121):=by unfold m8; and_intros<;>kernel_rfl
theorem d4x:m8 (one 4 120):=by unfold m8; and_intros<;>kernel_rfl
theorem d4y:m8 (one 4 121):=by unfold m8; and_intros<;>kernel_rfl
theorem b9e {a:Nat} (i:a=120∨a=121):∀ {k:Nat},k < 5→m8 (one k a):=by
 intro k hk;rcases i with rfl|rfl
 · match k,hk with
   | 0,_=>exact d0x
   | 1,_=>exact d1x
   | 2,_=>exact d2x
   | 3,_=>exact d3x
   | 4,_=>exact d4x
 · match k,hk with
   | 0,_=>exact d0y
   | 1,_=>exact d1y
   | 2,_=>exact d2y
   | 3,_=>exact d3y
   | 4,_=>exact d4y
end Go.Cb.CodeA
