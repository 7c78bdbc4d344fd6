import Derived.Test.YtdlgfdncpemcnaaGreatDoorChecked
import Derived.Shelf.Strconv.Itoa4
import Derived.KernelRfl
import Derived.Test.YtdlgfdncpemcnaaGreatDoorFmtX
set_option linter.all false
namespace Go.Cb.CodeA
open Go Go.Proofs Go.Shelf
def b1m:Go.Shelf.Ren:=⟨fun|246=>286|283=>302|284=>303|285=>304|286=>305|129=>222|317=>310|318=>311|319=>312|320=>313|337=>314|338=>315|n=>n,fun|2=>2|3=>3|9=>9|4=>4|171=>370|0=>0|53=>305|37=>28|5=>5|173=>372|212=>381|51=>303|20=>20|213=>382|46=>225|232=>386|233=>387|n=>n,fun|17=>5|18=>6|19=>7|n=>n⟩
theorem c71:Go.Proofs.LaysM.n246 Tryz.prog b1m:={
 mixed:=by kernel_rfl
 f129:=Tryz.func222.trans (congrArg some (by kernel_rfl))
 f246:=Tryz.func286.trans (congrArg some (by kernel_rfl))
 f283:=Tryz.func302.trans (congrArg some (by kernel_rfl))
 f284:=Tryz.func303.trans (congrArg some (by kernel_rfl))
 f285:=Tryz.func304.trans (congrArg some (by kernel_rfl))
 f286:=Tryz.func305.trans (congrArg some (by kernel_rfl))
 f317:=Tryz.func310.trans (congrArg some (by kernel_rfl))
 f318:=Tryz.func311.trans (congrArg some (by kernel_rfl))
 f319:=Tryz.func312.trans (congrArg some (by kernel_rfl))
 f320:=Tryz.func313.trans (congrArg some (by kernel_rfl))
 f337:=Tryz.func314.trans (congrArg some (by kernel_rfl))
 f338:=Tryz.func315.trans (congrArg some (by kernel_rfl))
 t0:=Tryz.underlying0
 a0:=Tryz.isAgg0
 z0:=Tryz.sizeOf0
 v0:=Tryz.zeroValue0
 t2:=Tryz.underlying2
 a2:=Tryz.isAgg2
 z2:=Tryz.sizeOf2
 v2:=Tryz.zeroValue2
 t3:=Tryz.underlying3
 a3:=Tryz.isAgg3
 z3:=Tryz.sizeOf3
 v3:=Tryz.zeroValue3
 t4:=Tryz.underlying4
 a4:=Tryz.isAgg4
 z4:=Tryz.sizeOf4
 v4:=Tryz.zeroValue4
 t5:=Tryz.underlying5
 a5:=Tryz.isAgg5
 z5:=Tryz.sizeOf5
 v5:=Tryz.zeroValue5
 t9:=Tryz.underlying9
 a9:=Tryz.isAgg9
 z9:=Tryz.sizeOf9
 v9:=Tryz.zeroValue9
 t20:=Tryz.underlying20
 a20:=Tryz.isAgg20
 z20:=Tryz.sizeOf20
 v20:=Tryz.zeroValue20
 t37:=Tryz.underlying28
 a37:=Tryz.isAgg28
 z37:=Tryz.sizeOf28
 v37:=Tryz.zeroValue28
 t46:=Tryz.underlying225
 a46:=Tryz.isAgg225
 z46:=Tryz.sizeOf225
 v46:=Tryz.zeroValue225
 t51:=Tryz.underlying303
 a51:=Tryz.isAgg303
 z51:=Tryz.sizeOf303
 v51:=Tryz.zeroValue303
 t53:=Tryz.underlying305
 a53:=Tryz.isAgg305
 z53:=Tryz.sizeOf305
 v53:=Tryz.zeroValue305
 t171:=Tryz.underlying370
 a171:=Tryz.isAgg370
 z171:=Tryz.sizeOf370
 v171:=Tryz.zeroValue370
 t173:=Tryz.underlying372
 a173:=Tryz.isAgg372
 z173:=Tryz.sizeOf372
 v173:=Tryz.zeroValue372
 t212:=Tryz.underlying381
 a212:=Tryz.isAgg381
 z212:=Tryz.sizeOf381
 v212:=Tryz.zeroValue381
 t213:=Tryz.underlying382
 a213:=Tryz.isAgg382
 z213:=Tryz.sizeOf382
 t232:=Tryz.underlying386
 a232:=Tryz.isAgg386
 z232:=Tryz.sizeOf386
 v232:=Tryz.zeroValue386
 t233:=Tryz.underlying387
 a233:=Tryz.isAgg387
 z233:=Tryz.sizeOf387
 v233:=Tryz.zeroValue387
 g17:=by kernel_rfl
 g18:=by kernel_rfl
 g19:=by kernel_rfl
 i0:=by kernel_rfl
 i2:=by kernel_rfl
 i3:=by kernel_rfl
 i4:=by kernel_rfl
 i5:=by kernel_rfl
 i9:=by kernel_rfl
 i20:=by kernel_rfl
 i37:=by kernel_rfl
 i46:=by kernel_rfl
 i51:=by kernel_rfl
 i53:=by kernel_rfl
 i171:=by kernel_rfl
 i173:=by kernel_rfl
 i212:=by kernel_rfl
 i232:=by kernel_rfl
 i233:=by kernel_rfl
 m17:=by kernel_rfl
 m18:=by kernel_rfl
 m19:=by kernel_rfl }
theorem b7B (n:Int) (j:-9223372036854775808≤n) (l:n≤9223372036854775807) (w:World) (i:Lib.TabIs Tryz.prog w "internal/strconv.uint64pow10" .u64 Lib.pow10Tab) :
 Calls Tryz.prog 286 #[.int .i64 n,.int .i64 10] w fun e w'=>e=.returned (.string ⟨(Lib.itoa n).toArray⟩)∧∃ k os,w'=Sort.grow (w.drewN k) os:=Any.internal_strconv_FormatInt_10 c71 n j l w i
theorem b6W:Tryz.prog.globalNamed "internal/strconv.uint64pow10"=some 5:=by kernel_rfl
end Go.Cb.CodeA
