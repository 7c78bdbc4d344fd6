/-
 RulesFrags: the law's tail, and a document, as functions of a case.
-/
import Derived.Test.YtendfdoplhhjbaaGreatDoorFW
set_option maxRecDepth 100000
set_option linter.unusedVariables false
namespace Go.Cb.CodeA
open Go Go.Cb Go.Cb.G
noncomputable def g8 (k:Nat) (x0 x1 x2 x4 x5 x7 x8 x9:AV) (ob:Cb.Obj) (r l:Bool):Option AV:=b5h (fin [.v 3] (d8 (callG f5Z 3000) 3000 a4s69 [x0,x1,x2,.bool false,x4,x5,.list true (a0X k r l),x7,x8,x9,.box [a10,a7R k r l],.int .i64 0,.ptr 41 0] (a7s ob)))
noncomputable def i7 (k:Nat) (r l:Bool):Option (AV×St×Nat):=d0J (callG tbl 3000 7 [.str (a0U k r l)] t7)
def i8 (k:Nat) (r l:Bool):Option (AV×St×Nat):=some (b4P k r l,t7,1)
def okV (r l:Bool):Option AV:=some (.bool true)
theorem H6 {α:Type} {f g:Bool→Bool→α} (h:[f false false,f false true,f true false,f true true]=[g false false,g false true,g true false,g true true]):∀ r l,f r l=g r l:=by
 simp only [List.cons.injEq,and_true] at h
 obtain ⟨a,b,c,d⟩:=h
 intro r l
 cases r <;> cases l <;> assumption
theorem D4 {α:Type} {f g:Bool→Bool→α} (h:∀ r,[f r false,f r true]=[g r false,g r true]):∀ r l,f r l=g r l:=by
 intro r l
 have:=h r
 simp only [List.cons.injEq,and_true] at this
 cases l
 · exact this.1
 · exact this.2
end Go.Cb.CodeA
