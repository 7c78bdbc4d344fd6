import Derived.Test.YtgaibigpannjfaaGreatDoorTie
import Derived.ProofKit
import Derived.LaidMore
import Derived.OpenShut
import Derived.Stop.Joined
import Derived.SevenTiedAt
import Derived.Test.YtgaibigpannjfaaGreatDoorCards
import Derived.ChangeMaps5
import Derived.Test.YtgaibigpannjfaaGreatDoorOkA
import Derived.Test.YtgaibigpannjfaaGreatDoorXAms3
import Derived.Clock
set_option maxRecDepth 100000
set_option linter.all false
namespace Go.Proofs.YtgaibigpannjfaaGreatDoor
open Go.ChangeShapes Go.WideShapes Go.ChangeAt Go.WideMaps Go.WideElems Go.RowKit Go.ChangeMaps Go.Cb Go.Cb.CodeA
theorem own:ownKnob Tryz.prog.godebug=none:=by kernel_rfl
theorem gScalars:Tryz.prog.globalNamed "columbary/schema.Scalars"=some 0:=by kernel_rfl
theorem gPow:Tryz.prog.globalNamed "internal/strconv.uint64pow10"=some 5:=by kernel_rfl
theorem tPow:(Tryz.prog.globals[5]?).map (·.type)=some 380:=by kernel_rfl
theorem e0D:Tryz.prog.underlying 380=some (.array 20 304):=by kernel_rfl
theorem tyU:Tryz.prog.underlying 304=some (.int .u64):=by kernel_rfl
abbrev a7U:List (String×DataW Unit):=[("math/bits.deBruijn32tab",Rows.laid_math_bits_deBruijn32tab),("math/bits.deBruijn64tab",Rows.laid_math_bits_deBruijn64tab),("internal/strconv.uint64pow10",Rows.laid_internal_strconv_uint64pow10),("strconv.ErrRange",Rows.laid_strconv_ErrRange),("strconv.ErrSyntax",Rows.laid_strconv_ErrSyntax),("columbary/schema.Scalars",Rows.laid_columbary_schema_Scalars)]
theorem tScalars:(Tryz.prog.globals[0]?).map (·.type)=some 90:=by kernel_rfl
theorem a9I {W:World} (h:laidMetH Tryz.prog a7U W):Globs gts (gh0 W) W:=by
 rw[MakeChecks.laidMetH_plain _ _ _ (by kernel_rfl)]at h;obtain⟨ps,⟨_,_,_,_,_,_,_,_,_,_,⟨_,_,_,_,_,_,_,_,_,_,⟨g1,t1,b1,f1,p1,q1,L,a0,a1,Y,⟨_,_,_,_,_,_,_,_,_,_,⟨_,_,_,_,_,_,_,_,_,_,⟨g0,t0,B,f0,p0,q0,u,Z,F,X,_,_⟩,_⟩,_⟩,_⟩,_⟩,_⟩,_,_⟩:=h;obtain rfl:=Option.some.inj (gScalars.symm.trans u);obtain rfl:=Option.some.inj (tScalars.symm.trans Z);obtain⟨xs,m1,rfl,j,N,b2,J⟩:=DataW.trod_array Tryz.underlying90 X;have c9:Tryz.prog.cellsOf 9=1:=by kernel_rfl
 have S:0 < W.heap.size:=by
  have V:=World.var?_cell u F 0;cases O:W.heap[0]? with
  | some o=>exact(Array.getElem?_eq_some_iff.1 O).1
  | none =>
   exfalso;have C:=J 0 (by decide);rw[c9]at C;obtain⟨x0,a2⟩:∃ x0,xs[0]?=some x0:=⟨xs[0],List.getElem?_eq_getElem (by omega)⟩
   rw[a2]at C;obtain⟨s,hs,_,_⟩:=DataW.trod_string Tryz.underlying9 C;have:B.toList[0]?=some (.string s):=by have:=congrArg (·[0]?) hs;simpa using this
   rw[Array.getElem?_toList]at this;rw[this]at V;simp[World.cell?,O]at V
 have one:∀ (i:Nat) (l:List UInt8),i < 4→(xs.map (·.1))[i]?=some (.lit (.string l))→∃ v,W.cell? (ad 0 i)=some v∧v.oneCell'=true∧(gh0 W).cl 0 i∧Rel (gh0 W) W (.str (l.map UInt8.toNat)) v:=by
  intro i l hi hl;rw[List.getElem?_map]at hl;obtain⟨x,hx,hl⟩:=Option.map_eq_some_iff.1 hl;have M:=J i hi;rw[c9,hx]at M;obtain⟨s,hs,b0,_⟩:=DataW.trod_string Tryz.underlying9 M;rw[b0]at hl;have hl:s.data.toList=l:=by simpa using hl
  have V:B[i]?=some (.string s):=by have:=congrArg (·[0]?) hs;simp only[Nat.mul_one]at this;simpa using this
  refine⟨.string s,(World.var?_cell u F i).trans V,rfl,S,?_⟩;simp only[Rel];exact⟨s,rfl,by rw[hl]⟩
 simp only[Prod.mk.injEq,Rows.laid_columbary_schema_Scalars,DataW.agg.injEq]at j;have j:=j.1;have U:B.size=4:=by have:=N;rw[show Tryz.prog.cellsOf 90=4 by kernel_rfl]at this;simpa using this
 have G:W.cell? (ad 0 4)=none:=(World.var?_cell u F 4).trans (by simp[U]);obtain rfl:=Option.some.inj (gPow.symm.trans L);obtain rfl:=Option.some.inj (tPow.symm.trans a0);have I:=Lib.cells_of_tab (k:=.u64) (zs:=Lib.pow10Tab) (n:=20) (e:=304) e0D tyU (by kernel_rfl) (by kernel_rfl) ((show Rows.laid_internal_strconv_uint64pow10=Lib.tabData .u64 Lib.pow10Tab by kernel_rfl) ▸ Y);have E:∀ i,W.cell? (ad 5 i)=(Lib.pow10Tab.map fun z=>Value.int .u64 z)[i]?:=fun i=>by rw[← I,Array.getElem?_toList];exact World.var?_cell L a1 i
 have y:5 < W.heap.size:=by
  have C:=E 0;cases O:W.heap[5]? with
  | some o=>exact(Array.getElem?_eq_some_iff.1 O).1
  | none =>exfalso;unfold World.cell? at C;simp only[O]at C;cases C
 have t:∀ (zs:List Int) (f:Nat),(∀ i,W.cell? (ad 5 (f+i))=(zs.map fun z=>Value.int .u64 z)[i]?)→RelCells (gh0 W) W 5 f (zs.map (AV.int .u64)):=by
  intro zs;induction zs with
  | nil=>intro f _; simp[RelCells]
  | cons z zs ih =>intro f h;simp only[List.map_cons,RelCells];refine⟨⟨.int .u64 z,by have:=h 0; simpa using this,rfl,y,by simp only[Rel]⟩,ih (f+1) fun i=>?_⟩;have:=h (i+1);rw[show f+1+i=f+(i+1)by omega,this];simp
 intro e he;simp only[gts,List.mem_cons,List.not_mem_nil,or_false]at he;rcases he with rfl|rfl
 · refine⟨?_,S,G⟩;simp only[RelCells,Nat.zero_add,Nat.reduceAdd];exact⟨one 0 [66,111,111,108,101,97,110] (by decide) (by rw[← j]; rfl),one 1 [73,68] (by decide) (by rw[← j]; rfl),one 2 [73,110,116] (by decide) (by rw[← j]; rfl),one 3 [83,116,114,105,110,103] (by decide) (by rw[← j]; rfl),trivial⟩
 · refine⟨t _ 0 fun i=>by rw[Nat.zero_add]; exact E i,y,?_⟩;show W.cell? (ad 5 (Lib.pow10Tab.map (AV.int .u64)).length)=none;rw[List.length_map,Lib.pow10Tab_length,E];rw[List.getElem?_eq_none (by simp[Lib.pow10Tab_length])]
theorem b9w (os:Os) (args:Array Value):laidMetH Tryz.prog a7U ((World.doorLaid Tryz.prog 400 os).forCall (fun _ _=>0) ⟨#[],args,[]⟩).memory :=
 laidMetH_of_parts3 (fuel:=8) (laidMet_of_run' 8 (by kernel_rfl) (by kernel_rfl)) (by kernel_rfl) (by kernel_rfl)
end Go.Proofs.YtgaibigpannjfaaGreatDoor
