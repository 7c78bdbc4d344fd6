import Derived.Test.YtbibkdncfclnbaaGreatDoorD3
set_option maxRecDepth 20000
set_option linter.unusedSimpArgs false
set_option linter.unusedVariables false
namespace Go.Cb.CodeA
open Go Go.Cb
attribute [local congr] i7 j1 j2 j3 j0 i8 k6 j9 V.runR_congr
def b02 (l:List Sel):Prop:=l.length≤3000∧∀ s∈l,s.OK
structure Op.OK (o:Op):Prop where
 vs:o.vs.length≤3000∧∀ v∈o.vs,v.v.OK
 sub:b02 o.sub
structure Docm.Els (D:Docm):Prop where
 ops:∀ o∈D.ops,o.OK
 frags:∀ f∈D.frags,b02 f.sub
theorem Frag.row_mk (n on:List Nat) (sub:List Sel):(Frag.mk n on sub).row=[.str n,.str on,.list false (sub.map Sel.row)]:=rfl
theorem Op.row_mk (m:Bool) (n:List Nat) (vs:List VDef) (sub:List Sel):(Op.mk m n vs sub).row=[.bool m,.str n,.list false (vs.map VDef.row),.list false (sub.map Sel.row)]:=rfl
end Go.Cb.CodeA
