/-
 strconv.FormatInt at base 10 in this seat: the library's contract laid (printed by the kit's lay-plain.mjs).
-/
import Derived.Test.YtbanbicfopmcbaaGreatDoorChecked
import Derived.Shelf.Strconv.Itoa4
import Derived.KernelRfl
import Derived.Test.YtbanbicfopmcbaaGreatDoorFmtX
set_option linter.unusedVariables false
namespace Go.Cb.CodeA
open Go Go.Proofs Go.Shelf
def a6N:Go.Shelf.Ren:=⟨fun|246=>328|283=>342|284=>343|285=>344|286=>345|129=>119|317=>350|318=>351|319=>352|320=>353|337=>354|338=>355|n=>n,fun|2=>2|3=>3|9=>9|4=>4|171=>419|0=>0|53=>40|37=>48|5=>5|173=>421|212=>430|51=>216|20=>20|213=>431|46=>148|232=>435|233=>436|n=>n,fun|17=>5|18=>6|19=>7|n=>n⟩
theorem b5Y:Go.Proofs.LaysM.n246 Tryz.prog a6N:={
 mixed:=by kernel_rfl
 f129:=Tryz.func119.trans (congrArg some (by kernel_rfl))
 f246:=Tryz.func328.trans (congrArg some (by kernel_rfl))
 f283:=Tryz.func342.trans (congrArg some (by kernel_rfl))
 f284:=Tryz.func343.trans (congrArg some (by kernel_rfl))
 f285:=Tryz.func344.trans (congrArg some (by kernel_rfl))
 f286:=Tryz.func345.trans (congrArg some (by kernel_rfl))
 f317:=Tryz.func350.trans (congrArg some (by kernel_rfl))
 f318:=Tryz.func351.trans (congrArg some (by kernel_rfl))
 f319:=Tryz.func352.trans (congrArg some (by kernel_rfl))
 f320:=Tryz.func353.trans (congrArg some (by kernel_rfl))
 f337:=Tryz.func354.trans (congrArg some (by kernel_rfl))
 f338:=Tryz.func355.trans (congrArg some (by kernel_rfl))
 t0:=Tryz.underlying0
 a0:=Tryz.isAgg0
 z0:=Tryz.sizeOf0
 v0:=Tryz.zeroValue0
 t2:=Tryz.underlying2
 a2:=Tryz.isAgg2
 z2:=Tryz.sizeOf2
 v2:=Tryz.zeroValue2
 t3:=Tryz.underlying3
 a3:=Tryz.isAgg3
 z3:=Tryz.sizeOf3
 v3:=Tryz.zeroValue3
 t4:=Tryz.underlying4
 a4:=Tryz.isAgg4
 z4:=Tryz.sizeOf4
 v4:=Tryz.zeroValue4
 t5:=Tryz.underlying5
 a5:=Tryz.isAgg5
 z5:=Tryz.sizeOf5
 v5:=Tryz.zeroValue5
 t9:=Tryz.underlying9
 a9:=Tryz.isAgg9
 z9:=Tryz.sizeOf9
 v9:=Tryz.zeroValue9
 t20:=Tryz.underlying20
 a20:=Tryz.isAgg20
 z20:=Tryz.sizeOf20
 v20:=Tryz.zeroValue20
 t37:=Tryz.underlying48
 a37:=Tryz.isAgg48
 z37:=Tryz.sizeOf48
 v37:=Tryz.zeroValue48
 t46:=Tryz.underlying148
 a46:=Tryz.isAgg148
 z46:=Tryz.sizeOf148
 v46:=Tryz.zeroValue148
 t51:=Tryz.underlying216
 a51:=Tryz.isAgg216
 z51:=Tryz.sizeOf216
 v51:=Tryz.zeroValue216
 t53:=Tryz.underlying40
 a53:=Tryz.isAgg40
 z53:=Tryz.sizeOf40
 v53:=Tryz.zeroValue40
 t171:=Tryz.underlying419
 a171:=Tryz.isAgg419
 z171:=Tryz.sizeOf419
 v171:=Tryz.zeroValue419
 t173:=Tryz.underlying421
 a173:=Tryz.isAgg421
 z173:=Tryz.sizeOf421
 v173:=Tryz.zeroValue421
 t212:=Tryz.underlying430
 a212:=Tryz.isAgg430
 z212:=Tryz.sizeOf430
 v212:=Tryz.zeroValue430
 t213:=Tryz.underlying431
 a213:=Tryz.isAgg431
 z213:=Tryz.sizeOf431
 t232:=Tryz.underlying435
 a232:=Tryz.isAgg435
 z232:=Tryz.sizeOf435
 v232:=Tryz.zeroValue435
 t233:=Tryz.underlying436
 a233:=Tryz.isAgg436
 z233:=Tryz.sizeOf436
 v233:=Tryz.zeroValue436
 g17:=by kernel_rfl
 g18:=by kernel_rfl
 g19:=by kernel_rfl
 i0:=by kernel_rfl
 i2:=by kernel_rfl
 i3:=by kernel_rfl
 i4:=by kernel_rfl
 i5:=by kernel_rfl
 i9:=by kernel_rfl
 i20:=by kernel_rfl
 i37:=by kernel_rfl
 i46:=by kernel_rfl
 i51:=by kernel_rfl
 i53:=by kernel_rfl
 i171:=by kernel_rfl
 i173:=by kernel_rfl
 i212:=by kernel_rfl
 i232:=by kernel_rfl
 i233:=by kernel_rfl
 m17:=by kernel_rfl
 m18:=by kernel_rfl
 m19:=by kernel_rfl }
theorem b3R (n:Int) (h0:-9223372036854775808≤n) (h1:n≤9223372036854775807) (w:World) (htab:Lib.TabIs Tryz.prog w "internal/strconv.uint64pow10" .u64 Lib.pow10Tab) :
 Calls Tryz.prog 328 #[.int .i64 n,.int .i64 10] w fun e w'=>e=.returned (.string ⟨(Lib.itoa n).toArray⟩)∧∃ k os,w'=Sort.grow (w.drewN k) os:=Any.internal_strconv_FormatInt_10 b5Y n h0 h1 w htab
theorem b1u:Tryz.prog.globalNamed "internal/strconv.uint64pow10"=some 5:=by kernel_rfl
end Go.Cb.CodeA
