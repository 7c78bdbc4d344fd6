import Derived.Test.YtbibkdncfclnbaaGreatDoorZs1
import Derived.Test.YtbibkdncfclnbaaGreatDoorYs1
set_option maxRecDepth 20000
set_option linter.unusedSimpArgs false
set_option linter.unusedVariables false
namespace Go.Cb.CodeA
open Go Go.Cb
attribute [local congr] i7 j1 j2 j3 j0 i8 k6 j9 V.runR_congr
theorem ProbAt.len {pv:AV} {ps:List (Pth×Int)} {st:St} (h:ProbAt pv ps st):∀ (call:d8) (bx:AV) (st:St),C2 call [pv] bx st=some (.int .i64 ps.length,bx,st):=fun call bx st=>by
 rcases h with ⟨rfl,rfl|rfl⟩|⟨o,rfl,_⟩ <;> rfl
theorem ProbAt.at {pv:AV} {ps:List (Pth×Int)} {st:St} (h:ProbAt pv ps st) {i:Nat} (hi:i < ps.length):∃ o,pv=.sl o 0 ps.length 2∧st[o]?=some (.cells (I9 ps)):=by
 rcases h with ⟨rfl,_⟩|h
 · cases hi
 · exact h
end Go.Cb.CodeA
