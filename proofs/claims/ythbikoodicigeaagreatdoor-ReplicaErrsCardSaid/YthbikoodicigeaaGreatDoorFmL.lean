/-
 strconv.FormatInt at base 10 in this seat: the library's contract laid (printed by the kit's lay-plain.mjs).
-/
import Derived.Test.YthbikoodicigeaaGreatDoorChecked
import Derived.Shelf.Strconv.Itoa4
import Derived.KernelRfl
import Derived.Test.YthbikoodicigeaaGreatDoorFmtX
set_option linter.unusedVariables false
namespace Go.Cb.CodeA
open Go Go.Proofs Go.Shelf
def lays246_ren:Go.Shelf.Ren:=⟨fun|246=>325|283=>338|284=>339|285=>340|286=>341|129=>142|317=>346|318=>347|319=>348|320=>349|337=>350|338=>351|n=>n,fun|2=>2|3=>3|9=>9|4=>4|171=>408|0=>0|53=>23|37=>367|5=>5|173=>410|212=>419|51=>216|20=>20|213=>420|46=>166|232=>424|233=>425|n=>n,fun|17=>5|18=>6|19=>7|n=>n⟩
theorem lays246:Go.Proofs.LaysM.n246 Tryz.prog lays246_ren:={
 mixed:=by kernel_rfl
 f129:=Tryz.func142.trans (congrArg some (by kernel_rfl))
 f246:=Tryz.func325.trans (congrArg some (by kernel_rfl))
 f283:=Tryz.func338.trans (congrArg some (by kernel_rfl))
 f284:=Tryz.func339.trans (congrArg some (by kernel_rfl))
 f285:=Tryz.func340.trans (congrArg some (by kernel_rfl))
 f286:=Tryz.func341.trans (congrArg some (by kernel_rfl))
 f317:=Tryz.func346.trans (congrArg some (by kernel_rfl))
 f318:=Tryz.func347.trans (congrArg some (by kernel_rfl))
 f319:=Tryz.func348.trans (congrArg some (by kernel_rfl))
 f320:=Tryz.func349.trans (congrArg some (by kernel_rfl))
 f337:=Tryz.func350.trans (congrArg some (by kernel_rfl))
 f338:=Tryz.func351.trans (congrArg some (by kernel_rfl))
 t0:=Tryz.underlying0
 a0:=Tryz.isAgg0
 z0:=Tryz.sizeOf0
 v0:=Tryz.zeroValue0
 t2:=Tryz.underlying2
 a2:=Tryz.isAgg2
 z2:=Tryz.sizeOf2
 v2:=Tryz.zeroValue2
 t3:=Tryz.underlying3
 a3:=Tryz.isAgg3
 z3:=Tryz.sizeOf3
 v3:=Tryz.zeroValue3
 t4:=Tryz.underlying4
 a4:=Tryz.isAgg4
 z4:=Tryz.sizeOf4
 v4:=Tryz.zeroValue4
 t5:=Tryz.underlying5
 a5:=Tryz.isAgg5
 z5:=Tryz.sizeOf5
 v5:=Tryz.zeroValue5
 t9:=Tryz.underlying9
 a9:=Tryz.isAgg9
 z9:=Tryz.sizeOf9
 v9:=Tryz.zeroValue9
 t20:=Tryz.underlying20
 a20:=Tryz.isAgg20
 z20:=Tryz.sizeOf20
 v20:=Tryz.zeroValue20
 t37:=Tryz.underlying367
 a37:=Tryz.isAgg367
 z37:=Tryz.sizeOf367
 v37:=Tryz.zeroValue367
 t46:=Tryz.underlying166
 a46:=Tryz.isAgg166
 z46:=Tryz.sizeOf166
 v46:=Tryz.zeroValue166
 t51:=Tryz.underlying216
 a51:=Tryz.isAgg216
 z51:=Tryz.sizeOf216
 v51:=Tryz.zeroValue216
 t53:=Tryz.underlying23
 a53:=Tryz.isAgg23
 z53:=Tryz.sizeOf23
 v53:=Tryz.zeroValue23
 t171:=Tryz.underlying408
 a171:=Tryz.isAgg408
 z171:=Tryz.sizeOf408
 v171:=Tryz.zeroValue408
 t173:=Tryz.underlying410
 a173:=Tryz.isAgg410
 z173:=Tryz.sizeOf410
 v173:=Tryz.zeroValue410
 t212:=Tryz.underlying419
 a212:=Tryz.isAgg419
 z212:=Tryz.sizeOf419
 v212:=Tryz.zeroValue419
 t213:=Tryz.underlying420
 a213:=Tryz.isAgg420
 z213:=Tryz.sizeOf420
 t232:=Tryz.underlying424
 a232:=Tryz.isAgg424
 z232:=Tryz.sizeOf424
 v232:=Tryz.zeroValue424
 t233:=Tryz.underlying425
 a233:=Tryz.isAgg425
 z233:=Tryz.sizeOf425
 v233:=Tryz.zeroValue425
 g17:=by kernel_rfl
 g18:=by kernel_rfl
 g19:=by kernel_rfl
 i0:=by kernel_rfl
 i2:=by kernel_rfl
 i3:=by kernel_rfl
 i4:=by kernel_rfl
 i5:=by kernel_rfl
 i9:=by kernel_rfl
 i20:=by kernel_rfl
 i37:=by kernel_rfl
 i46:=by kernel_rfl
 i51:=by kernel_rfl
 i53:=by kernel_rfl
 i171:=by kernel_rfl
 i173:=by kernel_rfl
 i212:=by kernel_rfl
 i232:=by kernel_rfl
 i233:=by kernel_rfl
 m17:=by kernel_rfl
 m18:=by kernel_rfl
 m19:=by kernel_rfl }
theorem fmt_laid (n:Int) (h0:-9223372036854775808≤n) (h1:n≤9223372036854775807) (w:World) (htab:Lib.TabIs Tryz.prog w "internal/strconv.uint64pow10" .u64 Lib.pow10Tab) :
 Calls Tryz.prog 325 #[.int .i64 n,.int .i64 10] w fun e w'=>e=.returned (.string ⟨(Lib.itoa n).toArray⟩)∧∃ k os,w'=Sort.grow (w.drewN k) os:=Any.internal_strconv_FormatInt_10 lays246 n h0 h1 w htab
theorem pow_named:Tryz.prog.globalNamed "internal/strconv.uint64pow10"=some 5:=by kernel_rfl
end Go.Cb.CodeA
