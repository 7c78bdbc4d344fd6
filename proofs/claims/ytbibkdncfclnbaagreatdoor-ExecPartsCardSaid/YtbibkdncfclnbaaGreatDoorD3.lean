import Derived.Test.YtbibkdncfclnbaaGreatDoorD0
set_option maxRecDepth 20000
set_option linter.unusedSimpArgs false
set_option linter.unusedVariables false
namespace Go.Cb.CodeA
open Go Go.Cb
attribute [local congr] i7 j1 j2 j3 j0 i8 k6 j9 V.runR_congr
variable {B:St}
theorem VDef.row_mk {n:List Nat} {t:TRef} {has:Bool} {v:Val} {tn:List Nat} {txs:List (List AV)} {tb:Bool} {vk vn:Int} {vs:List Nat} {vx vy:List (List AV)}
 (et:t.row=[.str tn,.list false txs,.bool tb]) (ev:v.row=[.int .u8 vk,.int .i64 vn,.str vs,.list false vx,.list false vy]):(VDef.mk n t has v).row=[.str n,.str tn,.list false txs,.bool tb,.bool has,.int .u8 vk,.int .i64 vn,.str vs,.list false vx,.list false vy]:=by
 rw [VDef.row,et,ev]; rfl
theorem VDef.row_cells (v:VDef):∃ n tn txs tb has vk vn vs vx vy,v.row=[.str n,.str tn,.list false txs,.bool tb,.bool has,.int .u8 vk,.int .i64 vn,.str vs,.list false vx,.list false vy]:=by
 obtain ⟨n,t,has,v⟩:=v
 obtain ⟨tn,txs,tb,etr⟩:=t.row_cells
 obtain ⟨vk,vn,vs,vx,vy,ev⟩:=v.row_cells
 exact ⟨_,_,_,_,_,_,_,_,_,_,VDef.row_mk etr ev⟩
end Go.Cb.CodeA
