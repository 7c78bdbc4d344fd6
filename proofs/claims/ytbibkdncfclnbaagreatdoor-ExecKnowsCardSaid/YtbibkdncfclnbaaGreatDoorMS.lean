import Derived.Test.YtbibkdncfclnbaaGreatDoorMV
import Derived.Test.YtbibkdncfclnbaaGreatDoorZs1
import Derived.KernelRfl
set_option maxRecDepth 100000
set_option linter.all false
namespace Go.Cb.CodeA
open Go Go.Cb
def T0:List SD:=[⟨2,[78,97,109,101,100],[⟨[110,97,109,101],[],(.base [83,116,114,105,110,103] true),false,Val.none⟩],[]⟩,
 ⟨4,[77,111,111,100],[],[[72,65,80,80,89],[83,65,68]]⟩,
 ⟨1,[80,101,114,115,111,110],[⟨[110,97,109,101],[],(.base [83,116,114,105,110,103] true),false,Val.none⟩,⟨[97,103,101],[],(.base [73,110,116] false),false,Val.none⟩,⟨[109,111,111,100],[],(.base [77,111,111,100] false),false,Val.none⟩,⟨[102,114,105,101,110,100,115],[],(.wrap (.base [80,101,114,115,111,110] true) false),false,Val.none⟩,⟨[112,101,116],[],(.base [80,101,116] false),false,Val.none⟩,⟨[116,97,103,115],[],(.wrap (.base [83,116,114,105,110,103] false) false),false,Val.none⟩],[[78,97,109,101,100]]⟩,
 ⟨1,[67,97,116],[⟨[110,97,109,101],[],(.base [83,116,114,105,110,103] true),false,Val.none⟩,⟨[108,105,118,101,115],[],(.base [73,110,116] true),false,Val.none⟩,⟨[111,119,110,101,114],[],(.base [80,101,114,115,111,110] false),false,Val.none⟩],[[78,97,109,101,100]]⟩,
 ⟨1,[68,111,103],[⟨[98,97,114,107,115],[],(.base [66,111,111,108,101,97,110] false),false,Val.none⟩],[]⟩,
 ⟨3,[80,101,116],[],[[67,97,116],[68,111,103]]⟩,
 ⟨5,[80,101,114,115,111,110,73,110],[⟨[110,97,109,101],[],(.base [83,116,114,105,110,103] false),false,Val.none⟩,⟨[97,103,101],[],(.base [73,110,116] false),true,(.mk 1 7 [] [] [])⟩,⟨[109,111,111,100],[],(.base [77,111,111,100] false),false,Val.none⟩,⟨[102,114,105,101,110,100,115],[],(.wrap (.base [73,68] true) false),false,Val.none⟩,⟨[112,101,116],[],(.base [73,68] false),false,Val.none⟩,⟨[116,97,103,115],[],(.wrap (.base [83,116,114,105,110,103] false) false),false,Val.none⟩],[]⟩,
 ⟨5,[67,97,116,73,110],[⟨[110,97,109,101],[],(.base [83,116,114,105,110,103] true),false,Val.none⟩,⟨[108,105,118,101,115],[],(.base [73,110,116] false),false,Val.none⟩,⟨[111,119,110,101,114],[],(.base [73,68] false),false,Val.none⟩],[]⟩,
 ⟨5,[68,111,103,73,110],[⟨[98,97,114,107,115],[],(.base [66,111,111,108,101,97,110] false),false,Val.none⟩],[]⟩,
 ⟨1,[81,117,101,114,121],[⟨[112,101,114,115,111,110],[idF.row],(.base [80,101,114,115,111,110] false),false,Val.none⟩,⟨[110,97,109,101,100],[idF.row],(.base [78,97,109,101,100] false),false,Val.none⟩,⟨[112,101,111,112,108,101],[],(.wrap (.base [80,101,114,115,111,110] true) true),false,Val.none⟩,⟨[112,101,116,115],[],(.wrap (.base [80,101,116] true) true),false,Val.none⟩,⟨[97,108,108],[],(.wrap (.base [78,97,109,101,100] true) true),false,Val.none⟩],[]⟩,
 ⟨1,[77,117,116,97,116,105,111,110],[⟨[99,114,101,97,116,101,80,101,114,115,111,110],[idF.row,[(.str [105,110,112,117,116]),(.list false []),(.str [80,101,114,115,111,110,73,110]),(.list false []),(.bool true),(.bool false),(.int .u8 0),(.int .i64 0),(.str []),(.list false []),(.list false [])]],(.base [80,101,114,115,111,110] false),false,Val.none⟩,⟨[117,112,100,97,116,101,80,101,114,115,111,110],[idF.row,[(.str [105,110,112,117,116]),(.list false []),(.str [80,101,114,115,111,110,73,110]),(.list false []),(.bool true),(.bool false),(.int .u8 0),(.int .i64 0),(.str []),(.list false []),(.list false [])]],(.base [80,101,114,115,111,110] false),false,Val.none⟩,⟨[100,101,108,101,116,101,80,101,114,115,111,110],[idF.row],(.base [80,101,114,115,111,110] false),false,Val.none⟩,⟨[99,114,101,97,116,101,67,97,116],[idF.row,[(.str [105,110,112,117,116]),(.list false []),(.str [67,97,116,73,110]),(.list false []),(.bool true),(.bool false),(.int .u8 0),(.int .i64 0),(.str []),(.list false []),(.list false [])]],(.base [67,97,116] false),false,Val.none⟩,⟨[99,114,101,97,116,101,68,111,103],[idF.row,[(.str [105,110,112,117,116]),(.list false []),(.str [68,111,103,73,110]),(.list false []),(.bool true),(.bool false),(.int .u8 0),(.int .i64 0),(.str []),(.list false []),(.list false [])]],(.base [68,111,103] false),false,Val.none⟩,⟨[100,101,108,101,116,101,67,97,116],[idF.row],(.base [67,97,116] false),false,Val.none⟩],[]⟩]
theorem a1o {α:Type} {p:α→Bool} {l:List α} (h:l.all p=true):∀ x∈l,p x=true:=List.all_eq_true.1 h
theorem sch0:SchD T0 52 a6Y:=by
 refine⟨⟨?_,fun t e=>?_,false,51,?_,?_⟩,fun t e=>?_⟩
 · rw[AG]; exact of_decide_eq_true (by kernel_rfl)
 · show t.ns.length≤3001;exact of_decide_eq_true (a1o (p:=fun t:TD=>decide (t.ns.length≤3001)) (l:=T0.map SD.td) (by kernel_rfl) t e)
 · kernel_rfl
 · kernel_rfl
 · exact of_decide_eq_true (a1o (p:=fun t:SD=>decide (t.fs.length≤3000)) (l:=T0) (by kernel_rfl) t e)
end Go.Cb.CodeA
