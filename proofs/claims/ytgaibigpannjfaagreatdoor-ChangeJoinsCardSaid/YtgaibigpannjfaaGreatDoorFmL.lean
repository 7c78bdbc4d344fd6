import Derived.Test.YtgaibigpannjfaaGreatDoorChecked
import Derived.Shelf.Strconv.Itoa4
import Derived.KernelRfl
import Derived.Test.YtgaibigpannjfaaGreatDoorFmtX
set_option linter.all false
namespace Go.Cb.CodeA
open Go Go.Proofs Go.Shelf
def b2r:Go.Shelf.Ren:=⟨fun|246=>285|283=>301|284=>302|285=>303|286=>304|129=>221|317=>309|318=>310|319=>311|320=>312|337=>313|338=>314|n=>n,fun|2=>2|3=>3|9=>9|4=>4|171=>369|0=>0|53=>304|37=>60|5=>5|173=>371|212=>380|51=>302|20=>20|213=>381|46=>224|232=>385|233=>386|n=>n,fun|17=>5|18=>6|19=>7|n=>n⟩
theorem c4L:Go.Proofs.LaysM.n246 Tryz.prog b2r:={
 mixed:=by kernel_rfl
 f129:=Tryz.func221.trans (congrArg some (by kernel_rfl))
 f246:=Tryz.func285.trans (congrArg some (by kernel_rfl))
 f283:=Tryz.func301.trans (congrArg some (by kernel_rfl))
 f284:=Tryz.func302.trans (congrArg some (by kernel_rfl))
 f285:=Tryz.func303.trans (congrArg some (by kernel_rfl))
 f286:=Tryz.func304.trans (congrArg some (by kernel_rfl))
 f317:=Tryz.func309.trans (congrArg some (by kernel_rfl))
 f318:=Tryz.func310.trans (congrArg some (by kernel_rfl))
 f319:=Tryz.func311.trans (congrArg some (by kernel_rfl))
 f320:=Tryz.func312.trans (congrArg some (by kernel_rfl))
 f337:=Tryz.func313.trans (congrArg some (by kernel_rfl))
 f338:=Tryz.func314.trans (congrArg some (by kernel_rfl))
 t0:=Tryz.underlying0
 a0:=Tryz.isAgg0
 z0:=Tryz.sizeOf0
 v0:=Tryz.zeroValue0
 t2:=Tryz.underlying2
 a2:=Tryz.isAgg2
 z2:=Tryz.sizeOf2
 v2:=Tryz.zeroValue2
 t3:=Tryz.underlying3
 a3:=Tryz.isAgg3
 z3:=Tryz.sizeOf3
 v3:=Tryz.zeroValue3
 t4:=Tryz.underlying4
 a4:=Tryz.isAgg4
 z4:=Tryz.sizeOf4
 v4:=Tryz.zeroValue4
 t5:=Tryz.underlying5
 a5:=Tryz.isAgg5
 z5:=Tryz.sizeOf5
 v5:=Tryz.zeroValue5
 t9:=Tryz.underlying9
 a9:=Tryz.isAgg9
 z9:=Tryz.sizeOf9
 v9:=Tryz.zeroValue9
 t20:=Tryz.underlying20
 a20:=Tryz.isAgg20
 z20:=Tryz.sizeOf20
 v20:=Tryz.zeroValue20
 t37:=Tryz.underlying60
 a37:=Tryz.isAgg60
 z37:=Tryz.sizeOf60
 v37:=Tryz.zeroValue60
 t46:=Tryz.underlying224
 a46:=Tryz.isAgg224
 z46:=Tryz.sizeOf224
 v46:=Tryz.zeroValue224
 t51:=Tryz.underlying302
 a51:=Tryz.isAgg302
 z51:=Tryz.sizeOf302
 v51:=Tryz.zeroValue302
 t53:=Tryz.underlying304
 a53:=Tryz.isAgg304
 z53:=Tryz.sizeOf304
 v53:=Tryz.zeroValue304
 t171:=Tryz.underlying369
 a171:=Tryz.isAgg369
 z171:=Tryz.sizeOf369
 v171:=Tryz.zeroValue369
 t173:=Tryz.underlying371
 a173:=Tryz.isAgg371
 z173:=Tryz.sizeOf371
 v173:=Tryz.zeroValue371
 t212:=Tryz.underlying380
 a212:=Tryz.isAgg380
 z212:=Tryz.sizeOf380
 v212:=Tryz.zeroValue380
 t213:=Tryz.underlying381
 a213:=Tryz.isAgg381
 z213:=Tryz.sizeOf381
 t232:=Tryz.underlying385
 a232:=Tryz.isAgg385
 z232:=Tryz.sizeOf385
 v232:=Tryz.zeroValue385
 t233:=Tryz.underlying386
 a233:=Tryz.isAgg386
 z233:=Tryz.sizeOf386
 v233:=Tryz.zeroValue386
 g17:=by kernel_rfl
 g18:=by kernel_rfl
 g19:=by kernel_rfl
 i0:=by kernel_rfl
 i2:=by kernel_rfl
 i3:=by kernel_rfl
 i4:=by kernel_rfl
 i5:=by kernel_rfl
 i9:=by kernel_rfl
 i20:=by kernel_rfl
 i37:=by kernel_rfl
 i46:=by kernel_rfl
 i51:=by kernel_rfl
 i53:=by kernel_rfl
 i171:=by kernel_rfl
 i173:=by kernel_rfl
 i212:=by kernel_rfl
 i232:=by kernel_rfl
 i233:=by kernel_rfl
 m17:=by kernel_rfl
 m18:=by kernel_rfl
 m19:=by kernel_rfl }
theorem c0L (n:Int) (j:-9223372036854775808≤n) (l:n≤9223372036854775807) (w:World) (i:Lib.TabIs Tryz.prog w "internal/strconv.uint64pow10" .u64 Lib.pow10Tab) :
 Calls Tryz.prog 285 #[.int .i64 n,.int .i64 10] w fun e w'=>e=.returned (.string ⟨(Lib.itoa n).toArray⟩)∧∃ k os,w'=Sort.grow (w.drewN k) os:=Any.internal_strconv_FormatInt_10 c4L n j l w i
theorem b7f:Tryz.prog.globalNamed "internal/strconv.uint64pow10"=some 5:=by kernel_rfl
end Go.Cb.CodeA
