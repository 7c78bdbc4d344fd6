import Derived.Clock
import Derived.Test.YtendfdoplhhjbaaGreatDoorTie
import Derived.ProofKit
import Derived.LaidMore
import Derived.OpenShut
import Derived.Stop.Joined
import Derived.SevenTiedAt
import Derived.Test.YtendfdoplhhjbaaGreatDoorCards
import Derived.ChangeMaps5
import Derived.Test.YtendfdoplhhjbaaGreatDoorOkA
import Derived.Test.YtendfdoplhhjbaaGreatDoorXAms3
set_option linter.unusedVariables false
namespace Go.Proofs.YtendfdoplhhjbaaGreatDoor
open Go.ChangeShapes Go.WideShapes Go.ChangeAt Go.WideMaps Go.WideElems Go.RowKit Go.ChangeMaps Go.Cb Go.Cb.CodeA
set_option maxRecDepth 100000

theorem own:ownKnob Tryz.prog.godebug=none:=by kernel_rfl
theorem gScalars:Tryz.prog.globalNamed "columbary/schema.Scalars"=some 0:=by kernel_rfl
abbrev a2U:List (String×DataW Unit):=[("columbary/schema.Scalars",Rows.laid_columbary_schema_Scalars)]
theorem tScalars:(Tryz.prog.globals[0]?).map (·.type)=some 108:=by kernel_rfl

/-- what the condition gives: the table's four cells -/
theorem a5S {W:World} (h:laidMetH Tryz.prog a2U W):Globs gts (gh0 W) W:=by
 rw [MakeChecks.laidMetH_plain _ _ _ (by kernel_rfl)] at h
 obtain ⟨ps,⟨g0,t0,cs0,f0,p0,q0,hg0,ht0,hv0,hd0,_,_⟩,_,_⟩:=h
 obtain rfl:=Option.some.inj (gScalars.symm.trans hg0)
 obtain rfl:=Option.some.inj (tScalars.symm.trans ht0)
 obtain ⟨xs,m1,rfl,hx1,hlen,hn4,hel⟩:=DataW.trod_array Tryz.underlying108 hd0
 have c9:Tryz.prog.cellsOf 9=1:=by kernel_rfl
 have hsz:0 < W.heap.size:=by
  have hc:=World.var?_cell hg0 hv0 0
  cases hq:W.heap[0]? with
  | some o=>exact (Array.getElem?_eq_some_iff.1 hq).1
  | none =>
   exfalso
   have h0:=hel 0 (by decide)
   rw [c9] at h0
   obtain ⟨x0,hx0⟩:∃ x0,xs[0]?=some x0:=⟨xs[0],List.getElem?_eq_getElem (by omega)⟩
   rw [hx0] at h0
   obtain ⟨s,hs,_,_⟩:=DataW.trod_string Tryz.underlying9 h0
   have:cs0.toList[0]?=some (.string s):=by
    have:=congrArg (·[0]?) hs
    simpa using this
   rw [Array.getElem?_toList] at this
   rw [this] at hc
   simp [World.cell?,hq] at hc
 have one:∀ (i:Nat) (l:List UInt8),i < 4→(xs.map (·.1))[i]?=some (.lit (.string l))→∃ v,W.cell? (ad 0 i)=some v∧v.oneCell'=true∧(gh0 W).cl 0 i∧Rel (gh0 W) W (.str (l.map UInt8.toNat)) v:=by
  intro i l hi hl
  rw [List.getElem?_map] at hl
  obtain ⟨x,hx,hl⟩:=Option.map_eq_some_iff.1 hl
  have hi':=hel i hi
  rw [c9,hx] at hi'
  obtain ⟨s,hs,hxs,_⟩:=DataW.trod_string Tryz.underlying9 hi'
  rw [hxs] at hl
  have hl:s.data.toList=l:=by simpa using hl
  have hc:cs0[i]?=some (.string s):=by
   have:=congrArg (·[0]?) hs
   simp only [Nat.mul_one] at this
   simpa using this
  refine ⟨.string s,(World.var?_cell hg0 hv0 i).trans hc,rfl,hsz,?_⟩
  simp only [Rel]
  exact ⟨s,rfl,by rw [hl]⟩
 simp only [Prod.mk.injEq,Rows.laid_columbary_schema_Scalars,DataW.agg.injEq] at hx1
 have hx1:=hx1.1
 have hsz0:cs0.size=4:=by
  have:=hlen
  rw [show Tryz.prog.cellsOf 108=4 by kernel_rfl] at this
  simpa using this
 have end0:W.cell? (ad 0 4)=none:=(World.var?_cell hg0 hv0 4).trans (by simp [hsz0])
 intro e he
 simp only [gts,List.mem_cons,List.not_mem_nil,or_false] at he
 subst he
 refine ⟨?_,hsz,end0⟩
 simp only [RelCells,Nat.zero_add,Nat.reduceAdd]
 exact ⟨one 0 [66,111,111,108,101,97,110] (by decide) (by rw [← hx1]; rfl),one 1 [73,68] (by decide) (by rw [← hx1]; rfl),one 2 [73,110,116] (by decide) (by rw [← hx1]; rfl),one 3 [83,116,114,105,110,103] (by decide) (by rw [← hx1]; rfl),trivial⟩

theorem b4L (os:Os) (args:Array Value):laidMetH Tryz.prog a2U ((World.doorLaid Tryz.prog 400 os).forCall (fun _ _=>0) ⟨#[],args,[]⟩).memory :=
 laidMetH_of_parts3 (fuel:=8) (laidMet_of_run' 8 (by kernel_rfl) (by kernel_rfl)) (by kernel_rfl) (by kernel_rfl)

end Go.Proofs.YtendfdoplhhjbaaGreatDoor
