import Derived.Test.YthbikoodicigeaaGreatDoorTie
import Derived.ProofKit
import Derived.LaidMore
import Derived.OpenShut
import Derived.Stop.Joined
import Derived.SevenTiedAt
import Derived.Test.YthbikoodicigeaaGreatDoorCards
import Derived.ChangeMaps5
import Derived.Test.YthbikoodicigeaaGreatDoorOkA
import Derived.Test.YthbikoodicigeaaGreatDoorXAms4
import Derived.Clock
set_option linter.unusedVariables false
namespace Go.Proofs.YthbikoodicigeaaGreatDoor
open Go.ChangeShapes Go.WideShapes Go.ChangeAt Go.WideMaps Go.WideElems Go.RowKit Go.ChangeMaps Go.Cb Go.Cb.CodeA
set_option maxRecDepth 100000

theorem own:ownKnob Tryz.prog.godebug=none:=by kernel_rfl
theorem gScalars:Tryz.prog.globalNamed "columbary/schema.Scalars"=some 0:=by kernel_rfl
theorem gPow:Tryz.prog.globalNamed "internal/strconv.uint64pow10"=some 5:=by kernel_rfl
theorem tPow:(Tryz.prog.globals[5]?).map (·.type)=some 419:=by kernel_rfl
theorem tyPow:Tryz.prog.underlying 419=some (.array 20 23):=by kernel_rfl
theorem tyU:Tryz.prog.underlying 23=some (.int .u64):=by kernel_rfl
abbrev laidS:List (String×DataW Unit):=[("math/bits.deBruijn32tab",Rows.laid_math_bits_deBruijn32tab),("math/bits.deBruijn64tab",Rows.laid_math_bits_deBruijn64tab),("internal/strconv.uint64pow10",Rows.laid_internal_strconv_uint64pow10),("strconv.ErrRange",Rows.laid_strconv_ErrRange),("strconv.ErrSyntax",Rows.laid_strconv_ErrSyntax),("columbary/schema.Scalars",Rows.laid_columbary_schema_Scalars)]
theorem tScalars:(Tryz.prog.globals[0]?).map (·.type)=some 111:=by kernel_rfl

/-- what the condition gives: the table's four cells -/
theorem globs_of_laid {W:World} (h:laidMetH Tryz.prog laidS W):Globs gts (gh0 W) W:=by
 rw [MakeChecks.laidMetH_plain _ _ _ (by kernel_rfl)] at h
 obtain ⟨ps,⟨_,_,_,_,_,_,_,_,_,_,⟨_,_,_,_,_,_,_,_,_,_,⟨g1,t1,cs1,f1,p1,q1,hg1,ht1,hv1,hd1,⟨_,_,_,_,_,_,_,_,_,_,⟨_,_,_,_,_,_,_,_,_,_,⟨g0,t0,cs0,f0,p0,q0,hg0,ht0,hv0,hd0,_,_⟩,_⟩,_⟩,_⟩,_⟩,_⟩,_,_⟩:=h
 obtain rfl:=Option.some.inj (gScalars.symm.trans hg0)
 obtain rfl:=Option.some.inj (tScalars.symm.trans ht0)
 obtain ⟨xs,m1,rfl,hx1,hlen,hn4,hel⟩:=DataW.trod_array Tryz.underlying111 hd0
 have c9:Tryz.prog.cellsOf 9=1:=by kernel_rfl
 have hsz:0 < W.heap.size:=by
  have hc:=World.var?_cell hg0 hv0 0
  cases hq:W.heap[0]? with
  | some o=>exact (Array.getElem?_eq_some_iff.1 hq).1
  | none =>
   exfalso
   have h0:=hel 0 (by decide)
   rw [c9] at h0
   obtain ⟨x0,hx0⟩:∃ x0,xs[0]?=some x0:=⟨xs[0],List.getElem?_eq_getElem (by omega)⟩
   rw [hx0] at h0
   obtain ⟨s,hs,_,_⟩:=DataW.trod_string Tryz.underlying9 h0
   have:cs0.toList[0]?=some (.string s):=by
    have:=congrArg (·[0]?) hs
    simpa using this
   rw [Array.getElem?_toList] at this
   rw [this] at hc
   simp [World.cell?,hq] at hc
 have one:∀ (i:Nat) (l:List UInt8),i < 4→(xs.map (·.1))[i]?=some (.lit (.string l))→∃ v,W.cell? (ad 0 i)=some v∧v.oneCell'=true∧(gh0 W).cl 0 i∧Rel (gh0 W) W (.str (l.map UInt8.toNat)) v:=by
  intro i l hi hl
  rw [List.getElem?_map] at hl
  obtain ⟨x,hx,hl⟩:=Option.map_eq_some_iff.1 hl
  have hi':=hel i hi
  rw [c9,hx] at hi'
  obtain ⟨s,hs,hxs,_⟩:=DataW.trod_string Tryz.underlying9 hi'
  rw [hxs] at hl
  have hl:s.data.toList=l:=by simpa using hl
  have hc:cs0[i]?=some (.string s):=by
   have:=congrArg (·[0]?) hs
   simp only [Nat.mul_one] at this
   simpa using this
  refine ⟨.string s,(World.var?_cell hg0 hv0 i).trans hc,rfl,hsz,?_⟩
  simp only [Rel]
  exact ⟨s,rfl,by rw [hl]⟩
 simp only [Prod.mk.injEq,Rows.laid_columbary_schema_Scalars,DataW.agg.injEq] at hx1
 have hx1:=hx1.1
 have hsz0:cs0.size=4:=by
  have:=hlen
  rw [show Tryz.prog.cellsOf 111=4 by kernel_rfl] at this
  simpa using this
 have end0:W.cell? (ad 0 4)=none:=(World.var?_cell hg0 hv0 4).trans (by simp [hsz0])
 obtain rfl:=Option.some.inj (gPow.symm.trans hg1)
 obtain rfl:=Option.some.inj (tPow.symm.trans ht1)
 have hcs1:=Lib.cells_of_tab (k:=.u64) (zs:=Lib.pow10Tab) (n:=20) (e:=23) tyPow tyU (by kernel_rfl) (by kernel_rfl) ((show Rows.laid_internal_strconv_uint64pow10=Lib.tabData .u64 Lib.pow10Tab by kernel_rfl) ▸ hd1)
 have hc1:∀ i,W.cell? (ad 5 i)=(Lib.pow10Tab.map fun z=>Value.int .u64 z)[i]?:=fun i=>by
  rw [← hcs1,Array.getElem?_toList]
  exact World.var?_cell hg1 hv1 i
 have hsz1:5 < W.heap.size:=by
  have h0:=hc1 0
  cases hq:W.heap[5]? with
  | some o=>exact (Array.getElem?_eq_some_iff.1 hq).1
  | none =>
   exfalso
   unfold World.cell? at h0
   simp only [hq] at h0
   cases h0
 have cells1:∀ (zs:List Int) (f:Nat),(∀ i,W.cell? (ad 5 (f+i))=(zs.map fun z=>Value.int .u64 z)[i]?)→RelCells (gh0 W) W 5 f (zs.map (AV.int .u64)):=by
  intro zs
  induction zs with
  | nil=>intro f _; simp [RelCells]
  | cons z zs ih =>
   intro f h
   simp only [List.map_cons,RelCells]
   refine ⟨⟨.int .u64 z,by have:=h 0; simpa using this,rfl,hsz1,by simp only [Rel]⟩,ih (f+1) fun i=>?_⟩
   have:=h (i+1)
   rw [show f+1+i=f+(i+1) by omega,this]
   simp
 intro e he
 simp only [gts,List.mem_cons,List.not_mem_nil,or_false] at he
 rcases he with rfl|rfl
 · refine ⟨?_,hsz,end0⟩
   simp only [RelCells,Nat.zero_add,Nat.reduceAdd]
   exact ⟨one 0 [66,111,111,108,101,97,110] (by decide) (by rw [← hx1]; rfl),one 1 [73,68] (by decide) (by rw [← hx1]; rfl),one 2 [73,110,116] (by decide) (by rw [← hx1]; rfl),one 3 [83,116,114,105,110,103] (by decide) (by rw [← hx1]; rfl),trivial⟩
 · refine ⟨cells1 _ 0 fun i=>by rw [Nat.zero_add]; exact hc1 i,hsz1,?_⟩
   show W.cell? (ad 5 (Lib.pow10Tab.map (AV.int .u64)).length)=none
   rw [List.length_map,Lib.pow10Tab_length,hc1]
   rw [List.getElem?_eq_none (by simp [Lib.pow10Tab_length])]

theorem door_met (os:Os) (args:Array Value):laidMetH Tryz.prog laidS ((World.doorLaid Tryz.prog 400 os).forCall (fun _ _=>0) ⟨#[],args,[]⟩).memory :=
 laidMetH_of_parts3 (fuel:=8) (laidMet_of_run' 8 (by kernel_rfl) (by kernel_rfl)) (by kernel_rfl) (by kernel_rfl)

end Go.Proofs.YthbikoodicigeaaGreatDoor
