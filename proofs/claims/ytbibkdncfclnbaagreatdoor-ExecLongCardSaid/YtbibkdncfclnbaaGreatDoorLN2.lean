/- What functions of the abstract machine answer. No conditions but those that each theorem names. -/
import Derived.Test.YtbibkdncfclnbaaGreatDoorLN
import Derived.Test.YtbibkdncfclnbaaGreatDoorMaw
import Derived.Test.YtbibkdncfclnbaaGreatDoorMbb
set_option maxRecDepth 20000
set_option linter.unusedSimpArgs false
set_option linter.unusedVariables false
namespace Go.Cb.CodeA
open Go Go.Cb
attribute [local congr] e9 i7 i8 j0 g9 g8 j5 j4 V.runR_congr
theorem a0V {n:Int} (hn:0≤n∧n < 256):i6 .i64 n=n:=by
 obtain ⟨m,rfl⟩:=Int.eq_ofNat_of_zero_le hn.1
 unfold i6
 dsimp only
 rw [if_pos (by rw [Nat.blt_eq]; omega)]
 rfl
theorem R4:EvQ tbl 11 [] [] (fun a st'=>st'=j6∧a=.bool true):=⟨_,_,Go.Cb.G.ev_ofG d4K,rfl,rfl⟩
theorem X1:EvQ tbl 12 [] j6 (fun a st'=>st'=a6F∧a=.tuple [.ptr 52 0,.ptr 80 0]):=⟨_,_,Go.Cb.G.ev_ofG d2K,rfl,rfl⟩
end Go.Cb.CodeA
