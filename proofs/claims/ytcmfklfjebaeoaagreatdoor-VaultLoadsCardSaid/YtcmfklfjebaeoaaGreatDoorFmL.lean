/-
 strconv.FormatInt at base 10 in this seat: the library's contract laid (printed by the kit's lay-plain.mjs).
-/
import Derived.Test.YtcmfklfjebaeoaaGreatDoorChecked
import Derived.Shelf.Strconv.Itoa4
import Derived.KernelRfl
import Derived.Test.YtcmfklfjebaeoaaGreatDoorFmtX
set_option linter.unusedVariables false
namespace Go.Cb.CodeA
open Go Go.Proofs Go.Shelf
def a9g:Go.Shelf.Ren:=⟨fun|246=>327|283=>341|284=>342|285=>343|286=>344|129=>123|317=>349|318=>350|319=>351|320=>352|337=>353|338=>354|n=>n,fun|2=>2|3=>3|9=>9|4=>4|171=>418|0=>0|53=>44|37=>22|5=>5|173=>420|212=>429|51=>220|20=>20|213=>430|46=>140|232=>434|233=>435|n=>n,fun|17=>5|18=>6|19=>7|n=>n⟩
theorem b86:Go.Proofs.LaysM.n246 Tryz.prog a9g:={
 mixed:=by kernel_rfl
 f129:=Tryz.func123.trans (congrArg some (by kernel_rfl))
 f246:=Tryz.func327.trans (congrArg some (by kernel_rfl))
 f283:=Tryz.func341.trans (congrArg some (by kernel_rfl))
 f284:=Tryz.func342.trans (congrArg some (by kernel_rfl))
 f285:=Tryz.func343.trans (congrArg some (by kernel_rfl))
 f286:=Tryz.func344.trans (congrArg some (by kernel_rfl))
 f317:=Tryz.func349.trans (congrArg some (by kernel_rfl))
 f318:=Tryz.func350.trans (congrArg some (by kernel_rfl))
 f319:=Tryz.func351.trans (congrArg some (by kernel_rfl))
 f320:=Tryz.func352.trans (congrArg some (by kernel_rfl))
 f337:=Tryz.func353.trans (congrArg some (by kernel_rfl))
 f338:=Tryz.func354.trans (congrArg some (by kernel_rfl))
 t0:=Tryz.underlying0
 a0:=Tryz.isAgg0
 z0:=Tryz.sizeOf0
 v0:=Tryz.zeroValue0
 t2:=Tryz.underlying2
 a2:=Tryz.isAgg2
 z2:=Tryz.sizeOf2
 v2:=Tryz.zeroValue2
 t3:=Tryz.underlying3
 a3:=Tryz.isAgg3
 z3:=Tryz.sizeOf3
 v3:=Tryz.zeroValue3
 t4:=Tryz.underlying4
 a4:=Tryz.isAgg4
 z4:=Tryz.sizeOf4
 v4:=Tryz.zeroValue4
 t5:=Tryz.underlying5
 a5:=Tryz.isAgg5
 z5:=Tryz.sizeOf5
 v5:=Tryz.zeroValue5
 t9:=Tryz.underlying9
 a9:=Tryz.isAgg9
 z9:=Tryz.sizeOf9
 v9:=Tryz.zeroValue9
 t20:=Tryz.underlying20
 a20:=Tryz.isAgg20
 z20:=Tryz.sizeOf20
 v20:=Tryz.zeroValue20
 t37:=Tryz.underlying22
 a37:=Tryz.isAgg22
 z37:=Tryz.sizeOf22
 v37:=Tryz.zeroValue22
 t46:=Tryz.underlying140
 a46:=Tryz.isAgg140
 z46:=Tryz.sizeOf140
 v46:=Tryz.zeroValue140
 t51:=Tryz.underlying220
 a51:=Tryz.isAgg220
 z51:=Tryz.sizeOf220
 v51:=Tryz.zeroValue220
 t53:=Tryz.underlying44
 a53:=Tryz.isAgg44
 z53:=Tryz.sizeOf44
 v53:=Tryz.zeroValue44
 t171:=Tryz.underlying418
 a171:=Tryz.isAgg418
 z171:=Tryz.sizeOf418
 v171:=Tryz.zeroValue418
 t173:=Tryz.underlying420
 a173:=Tryz.isAgg420
 z173:=Tryz.sizeOf420
 v173:=Tryz.zeroValue420
 t212:=Tryz.underlying429
 a212:=Tryz.isAgg429
 z212:=Tryz.sizeOf429
 v212:=Tryz.zeroValue429
 t213:=Tryz.underlying430
 a213:=Tryz.isAgg430
 z213:=Tryz.sizeOf430
 t232:=Tryz.underlying434
 a232:=Tryz.isAgg434
 z232:=Tryz.sizeOf434
 v232:=Tryz.zeroValue434
 t233:=Tryz.underlying435
 a233:=Tryz.isAgg435
 z233:=Tryz.sizeOf435
 v233:=Tryz.zeroValue435
 g17:=by kernel_rfl
 g18:=by kernel_rfl
 g19:=by kernel_rfl
 i0:=by kernel_rfl
 i2:=by kernel_rfl
 i3:=by kernel_rfl
 i4:=by kernel_rfl
 i5:=by kernel_rfl
 i9:=by kernel_rfl
 i20:=by kernel_rfl
 i37:=by kernel_rfl
 i46:=by kernel_rfl
 i51:=by kernel_rfl
 i53:=by kernel_rfl
 i171:=by kernel_rfl
 i173:=by kernel_rfl
 i212:=by kernel_rfl
 i232:=by kernel_rfl
 i233:=by kernel_rfl
 m17:=by kernel_rfl
 m18:=by kernel_rfl
 m19:=by kernel_rfl }
theorem b5m (n:Int) (h0:-9223372036854775808≤n) (h1:n≤9223372036854775807) (w:World) (htab:Lib.TabIs Tryz.prog w "internal/strconv.uint64pow10" .u64 Lib.pow10Tab) :
 Calls Tryz.prog 327 #[.int .i64 n,.int .i64 10] w fun e w'=>e=.returned (.string ⟨(Lib.itoa n).toArray⟩)∧∃ k os,w'=Sort.grow (w.drewN k) os:=Any.internal_strconv_FormatInt_10 b86 n h0 h1 w htab
theorem b4Q:Tryz.prog.globalNamed "internal/strconv.uint64pow10"=some 5:=by kernel_rfl
end Go.Cb.CodeA
