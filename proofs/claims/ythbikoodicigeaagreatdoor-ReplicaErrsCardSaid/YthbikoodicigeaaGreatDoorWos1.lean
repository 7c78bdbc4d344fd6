import Derived.Shelf.SlGeneric
import Derived.Shelf.Slices.CompactS
import Derived.Shelf.SortM.Plain
import Derived.Shelf.SortM.SortNone
import Derived.Ground.NamesProg
import Derived.Ground.SlgmProg
import Derived.Test.YthbikoodicigeaaGreatDoorWns1
import Derived.Lib.RowBridge
/-
 slices.Compact, slices.Sort in this seat: the library's contracts laid (printed by the kit's lay-plain.mjs).
-/
set_option linter.unusedVariables false
namespace Go.Cb.CodeA
open Go Go.Proofs Go.RowKit Go.Maps Go.Sort Go.Shelf
def laysCompact_ren:Go.Shelf.Ren:=⟨fun|194=>31|n=>n,fun|31=>22|9=>9|3=>3|4=>4|0=>0|n=>n,fun|n=>n⟩
theorem laysCompact:Go.Proofs.Lays.n194 Tryz.prog laysCompact_ren:={
 mixed:=by kernel_rfl
 f194:=Tryz.func31.trans (congrArg some (by kernel_rfl))
 t0:=Tryz.underlying0
 a0:=Tryz.isAgg0
 z0:=Tryz.sizeOf0
 v0:=Tryz.zeroValue0
 t3:=Tryz.underlying3
 a3:=Tryz.isAgg3
 z3:=Tryz.sizeOf3
 v3:=Tryz.zeroValue3
 t4:=Tryz.underlying4
 a4:=Tryz.isAgg4
 z4:=Tryz.sizeOf4
 v4:=Tryz.zeroValue4
 t9:=Tryz.underlying9
 a9:=Tryz.isAgg9
 z9:=Tryz.sizeOf9
 v9:=Tryz.zeroValue9
 t31:=Tryz.underlying22
 a31:=Tryz.isAgg22
 z31:=Tryz.sizeOf22
 v31:=Tryz.zeroValue22 }
def laysSort_ren:Go.Shelf.Ren:=⟨fun|6=>57|8=>96|9=>95|19=>141|20=>142|21=>132|22=>133|23=>134|24=>135|25=>136|26=>137|27=>138|28=>139|29=>140|36=>189|31=>190|32=>191|37=>192|38=>193|39=>194|41=>241|n=>n,fun|27=>22|29=>9|3=>3|32=>166|26=>22|0=>0|44=>216|46=>23|4=>4|36=>210|35=>209|41=>109|5=>5|9=>9|53=>283|57=>286|63=>332|64=>333|n=>n,fun|n=>n⟩
theorem laysSort:Go.Proofs.SlLaysM.n6 Tryz.prog laysSort_ren:={
 mixed:=by kernel_rfl
 f6:=⟨Tryz.f57.name,by decide,Tryz.func57.trans (congrArg some (by kernel_rfl))⟩
 f8:=Tryz.func96.trans (congrArg some (by kernel_rfl))
 f9:=⟨Tryz.f95.name,by decide,Tryz.func95.trans (congrArg some (by kernel_rfl))⟩
 f19:=Tryz.func141.trans (congrArg some (by kernel_rfl))
 f20:=Tryz.func142.trans (congrArg some (by kernel_rfl))
 f21:=⟨Tryz.f132.name,by decide,Tryz.func132.trans (congrArg some (by kernel_rfl))⟩
 f22:=⟨Tryz.f133.name,by decide,Tryz.func133.trans (congrArg some (by kernel_rfl))⟩
 f23:=⟨Tryz.f134.name,by decide,Tryz.func134.trans (congrArg some (by kernel_rfl))⟩
 f24:=⟨Tryz.f135.name,by decide,Tryz.func135.trans (congrArg some (by kernel_rfl))⟩
 f25:=⟨Tryz.f136.name,by decide,Tryz.func136.trans (congrArg some (by kernel_rfl))⟩
 f26:=⟨Tryz.f137.name,by decide,Tryz.func137.trans (congrArg some (by kernel_rfl))⟩
 f27:=⟨Tryz.f138.name,by decide,Tryz.func138.trans (congrArg some (by kernel_rfl))⟩
 f28:=⟨Tryz.f139.name,by decide,Tryz.func139.trans (congrArg some (by kernel_rfl))⟩
 f29:=⟨Tryz.f140.name,by decide,Tryz.func140.trans (congrArg some (by kernel_rfl))⟩
 f31:=Tryz.func190.trans (congrArg some (by kernel_rfl))
 f32:=Tryz.func191.trans (congrArg some (by kernel_rfl))
 f36:=⟨Tryz.f189.name,by decide,Tryz.func189.trans (congrArg some (by kernel_rfl))⟩
 f37:=⟨Tryz.f192.name,by decide,Tryz.func192.trans (congrArg some (by kernel_rfl))⟩
 f38:=⟨Tryz.f193.name,by decide,Tryz.func193.trans (congrArg some (by kernel_rfl))⟩
 f39:=⟨Tryz.f194.name,by decide,Tryz.func194.trans (congrArg some (by kernel_rfl))⟩
 f41:=⟨Tryz.f241.name,by decide,Tryz.func241.trans (congrArg some (by kernel_rfl))⟩
 t0:=Tryz.underlying0
 a0:=Tryz.isAgg0
 z0:=Tryz.sizeOf0
 v0:=Tryz.zeroValue0
 t3:=Tryz.underlying3
 a3:=Tryz.isAgg3
 z3:=Tryz.sizeOf3
 v3:=Tryz.zeroValue3
 t4:=Tryz.underlying4
 a4:=Tryz.isAgg4
 z4:=Tryz.sizeOf4
 v4:=Tryz.zeroValue4
 t5:=Tryz.underlying5
 a5:=Tryz.isAgg5
 z5:=Tryz.sizeOf5
 v5:=Tryz.zeroValue5
 t9:=Tryz.underlying9
 a9:=Tryz.isAgg9
 z9:=Tryz.sizeOf9
 v9:=Tryz.zeroValue9
 t26:=Tryz.underlying22
 a26:=Tryz.isAgg22
 z26:=Tryz.sizeOf22
 v26:=Tryz.zeroValue22
 t27:=Tryz.underlying22
 a27:=Tryz.isAgg22
 z27:=Tryz.sizeOf22
 v27:=Tryz.zeroValue22
 t29:=Tryz.underlying9
 a29:=Tryz.isAgg9
 z29:=Tryz.sizeOf9
 v29:=Tryz.zeroValue9
 t32:=Tryz.underlying166
 a32:=Tryz.isAgg166
 z32:=Tryz.sizeOf166
 v32:=Tryz.zeroValue166
 t35:=Tryz.underlying209
 a35:=Tryz.isAgg209
 z35:=Tryz.sizeOf209
 v35:=Tryz.zeroValue209
 t36:=Tryz.underlying210
 a36:=Tryz.isAgg210
 z36:=Tryz.sizeOf210
 v36:=Tryz.zeroValue210
 t41:=Tryz.underlying109
 a41:=Tryz.isAgg109
 z41:=Tryz.sizeOf109
 v41:=Tryz.zeroValue109
 t44:=Tryz.underlying216
 a44:=Tryz.isAgg216
 z44:=Tryz.sizeOf216
 v44:=Tryz.zeroValue216
 t46:=Tryz.underlying23
 a46:=Tryz.isAgg23
 z46:=Tryz.sizeOf23
 v46:=Tryz.zeroValue23
 t53:=Tryz.underlying283
 a53:=Tryz.isAgg283
 z53:=Tryz.sizeOf283
 v53:=Tryz.zeroValue283
 t57:=Tryz.underlying286
 a57:=Tryz.isAgg286
 z57:=Tryz.sizeOf286
 v57:=Tryz.zeroValue286
 t63:=Tryz.underlying332
 a63:=Tryz.isAgg332
 z63:=Tryz.sizeOf332
 v63:=Tryz.zeroValue332
 t64:=Tryz.underlying333
 a64:=Tryz.isAgg333
 z64:=Tryz.sizeOf333
 v64:=Tryz.zeroValue333 }
theorem sortsF (m:Nat):SortsF Fence.wide m :=
 ⟨fun blk off cap ss W hH hblk hsz=>callsIn_wide.2 (AnyM.slices_Sort_string laysSort blk off cap ss W hH hblk hsz),
  fun p cap W=>callsIn_wide.2 (AnyM.slices_Sort_string_none laysSort p cap W)⟩
end Go.Cb.CodeA
/- What functions of the abstract machine answer. No conditions but those that each theorem names. -/
set_option maxRecDepth 100000
set_option linter.unusedVariables false
set_option linter.unusedSimpArgs false
namespace Go.Cb.CodeA
open Go Go.Proofs Go.RowKit Go.Shelf Go.Maps Go.Sort
attribute [local go_sem] Oper.semAt_some
theorem mem_compact (zs:List Tx) (x:Tx):x∈Lib.compact zs ↔ x∈zs:=by
 unfold Lib.compact Lib.compactUpTo
 constructor
 · intro h
   obtain ⟨j,hj,rfl⟩:=List.mem_map.1 h
   have hj:=(List.mem_filter.1 hj).1
   have hl:j < zs.length:=by simpa using hj
   rw [show (zs.toArray[j]!)=zs[j] by simp [hl]]
   exact List.getElem_mem hl
 · intro h
   obtain ⟨j,hj,rfl⟩:=List.getElem_of_mem h
   have key:∀ j,j < zs.length→∃ k,k < zs.length∧Lib.keeps zs.toArray k=true∧(zs.toArray[k]!)=zs.toArray[j]!:=by
    intro j
    induction j with
    | zero=>exact fun h=>⟨0,h,by simp [Lib.keeps],rfl⟩
    | succ j ih =>
     intro h
     by_cases hk:Lib.keeps zs.toArray (j+1)=true
     · exact ⟨_,h,hk,rfl⟩
     · obtain ⟨k,h1,h2,h3⟩:=ih (by omega)
       refine ⟨k,h1,h2,h3.trans ?_⟩
       simp only [Lib.keeps,decide_eq_true_eq,not_or,Decidable.not_not] at hk
       exact hk.2.symm
   obtain ⟨k,h1,h2,h3⟩:=key j hj
   refine List.mem_map.2 ⟨k,List.mem_filter.2 ⟨by simpa using h1,h2⟩,h3.trans (by simp [hj])⟩
set_option maxHeartbeats 1000000 in
theorem cmp_in (m base:Nat) (v:Value) (zs:List Tx) (W:World) (hrow:W.ownsRow base 9 1 v zs.length (zs.map encStr)) (hlen:zs.length≤1000) (hbw:base≤W.heap.size) :
 CallsIn Fence.wide m Tryz.prog 31 #[v] W fun e W'=>∃ a cap,e=.returned (.slice a (Lib.compact zs).length cap)∧(Lib.compact zs≠[]→∃ b,a=some ⟨b,0,none⟩∧base≤b∧b < W'.heap.size∧(∃ arr,W'.heap[b]?=some (.cells arr 9 (0,0)))∧TxAt b 0 (Lib.compact zs) W')∧Below base W W':=by
 rcases hrow.2 with ⟨rfl,hz⟩|⟨gb,cap,cur,rfl,hbase,hgb,r1,r2,r3,r4⟩
 · obtain rfl:zs=[]:=List.eq_nil_of_length_eq_zero hz
   refine callsIn_wide.2 ((Any.slices_Compact_string_empty laysCompact none 0 W).mono ?_)
   rintro e W' ⟨rfl,rfl⟩
   exact ⟨none,0,rfl,fun h=>absurd rfl h,Below.refl _ _⟩
 · have hH:Holds encStr W gb 0 zs.toArray:=holds_of_block hgb (by simpa using r4)
   have hgl:gb < W.heap.size:=(Array.getElem?_eq_some_iff.1 hgb).1
   refine callsIn_wide.2 ((Any.slices_Compact_string laysCompact gb 0 cap zs W hH (by omega) r1).mono ?_)
   rintro e W' ⟨rfl,q,rfl⟩
   have hle:=Lib.compact_length_le zs
   have hsz:(Lib.compact zs++List.replicate (zs.length - (Lib.compact zs).length) []).length=zs.length:=by simp; omega
   have hP:=holds_putRow encStr (Sort.ahead W q) gb 0 zs.toArray (Lib.compact zs++List.replicate (zs.length - (Lib.compact zs).length) []).toArray (holds_ahead encStr W q gb 0 zs.toArray hH) (by simpa using hsz)
   have hg:=grownBy_sorted (w:=W) (g:=gb) (n:=q) (os:=#[]) (Lib.compact zs++List.replicate (zs.length - (Lib.compact zs).length) []).toArray
   rw [grow_empty] at hg
   have hb0:Below base W W:=Below.refl _ _
   have hhs:=heap_sorted (n:=q) (os:=#[]) (Lib.compact zs++List.replicate (zs.length - (Lib.compact zs).length) []).toArray hgb
   rw [grow_empty] at hhs
   refine ⟨_,_,rfl,fun _=>⟨gb,rfl,hbase,?_,⟨_,hhs⟩,fun j hj=>?_⟩,hb0.grown hg hbw (fun j hj=>by cases hj; exact hbase)⟩
   · exact Nat.lt_of_lt_of_le hgl hg.size
   · have:=(hP j (by simp; omega)).1
     rw [this]
     congr 1
     have e:((Lib.compact zs++List.replicate (zs.length - (Lib.compact zs).length) []).toArray[j]!)=(Lib.compact zs)[j]?.getD []:=by
      rw [getElem!_pos _ j (by simp; omega)]
      simp [List.getElem_append_left hj,hj]
     rw [e]
end Go.Cb.CodeA
