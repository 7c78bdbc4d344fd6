/- What functions of the abstract machine answer. No conditions but those that each theorem names. -/
import Derived.Test.YtbibkdncfclnbaaGreatDoorZs1
import Derived.Test.YtbibkdncfclnbaaGreatDoorYs1
set_option maxRecDepth 20000
set_option linter.unusedSimpArgs false
set_option linter.unusedVariables false
namespace Go.Cb.CodeA
open Go Go.Cb
attribute [local congr] e9 i7 i8 j0 g9 g8 j5 j4 V.runR_congr
theorem ProbAt.len {pv:AV} {ps:List (Pth×Int)} {st:St} (h:ProbAt pv ps st):∀ (call:b6) (bx:AV) (st:St),B9 call [pv] bx st=some (.int .i64 ps.length,bx,st):=fun call bx st=>by
 rcases h with ⟨rfl,rfl|rfl⟩|⟨o,rfl,_⟩ <;> rfl
theorem ProbAt.at {pv:AV} {ps:List (Pth×Int)} {st:St} (h:ProbAt pv ps st) {i:Nat} (hi:i < ps.length):∃ o,pv=.sl o 0 ps.length 2∧st[o]?=some (.cells (F5 ps)):=by
 rcases h with ⟨rfl,_⟩|h
 · cases hi
 · exact h
end Go.Cb.CodeA
