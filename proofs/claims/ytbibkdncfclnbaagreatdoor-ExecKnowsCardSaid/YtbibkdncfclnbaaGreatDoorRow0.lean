import Derived.Test.YtbibkdncfclnbaaGreatDoorTie
import Derived.ProofKit
import Derived.LaidMore
import Derived.OpenShut
import Derived.Stop.Joined
import Derived.SevenTiedAt
import Derived.Test.YtbibkdncfclnbaaGreatDoorCards
import Derived.ChangeMaps5
import Derived.Test.YtbibkdncfclnbaaGreatDoorOkA
import Derived.Test.YtbibkdncfclnbaaGreatDoorXAms3
set_option maxRecDepth 100000
set_option linter.all false
namespace Go.Proofs.YtbibkdncfclnbaaGreatDoor
open Go.ChangeShapes Go.WideShapes Go.ChangeAt Go.WideMaps Go.WideElems Go.RowKit Go.ChangeMaps Go.Cb Go.Cb.CodeA
theorem own:ownKnob Tryz.prog.godebug=none:=by kernel_rfl
theorem gScalars:Tryz.prog.globalNamed "columbary/schema.Scalars"=some 0:=by kernel_rfl
theorem gPow:Tryz.prog.globalNamed "internal/strconv.uint64pow10"=some 1:=by kernel_rfl
theorem tPow:(Tryz.prog.globals[1]?).map (·.type)=some 281:=by kernel_rfl
theorem d1x:Tryz.prog.underlying 281=some (.array 20 186):=by kernel_rfl
theorem tyU:Tryz.prog.underlying 186=some (.int .u64):=by kernel_rfl
abbrev a8z:List (String×DataW Unit):=[("math/bits.deBruijn32tab",Rows.laid_math_bits_deBruijn32tab),("math/bits.deBruijn64tab",Rows.laid_math_bits_deBruijn64tab),("internal/strconv.uint64pow10",Rows.laid_internal_strconv_uint64pow10),("columbary/schema.Scalars",Rows.laid_columbary_schema_Scalars)]
theorem tScalars:(Tryz.prog.globals[0]?).map (·.type)=some 127:=by kernel_rfl
theorem b0B {W:World} (h:laidMetH Tryz.prog a8z W):Globs gts (gh0 W) W:=by
 rw[MakeChecks.laidMetH_plain _ _ _ (by kernel_rfl)]at h;obtain⟨ps,⟨_,_,_,_,_,_,_,_,_,_,⟨_,_,_,_,_,_,_,_,_,_,⟨g1,t1,b2,f1,p1,q1,Y,a7,a9,a5,⟨g0,t0,I,f0,p0,q0,y,a6,N,a4,_,_⟩,_⟩,_⟩,_⟩,_,_⟩:=h;obtain rfl:=Option.some.inj (gScalars.symm.trans y);obtain rfl:=Option.some.inj (tScalars.symm.trans a6);obtain⟨xs,m1,rfl,t,a0,b3,U⟩:=DataW.trod_array Tryz.underlying127 a4;have c9:Tryz.prog.cellsOf 9=1:=by kernel_rfl
 have a1:0 < W.heap.size:=by
  have hc:=World.var?_cell y N 0;cases hq:W.heap[0]? with
  | some o=>exact(Array.getElem?_eq_some_iff.1 hq).1
  | none =>
   exfalso;have J:=U 0 (by decide);rw[c9]at J;obtain⟨x0,b0⟩:∃ x0,xs[0]?=some x0:=⟨xs[0],List.getElem?_eq_getElem (by omega)⟩
   rw[b0]at J;obtain⟨s,hs,_,_⟩:=DataW.trod_string Tryz.underlying9 J;have:I.toList[0]?=some (.string s):=by have:=congrArg (·[0]?) hs;simpa using this
   rw[Array.getElem?_toList]at this;rw[this]at hc;simp[World.cell?,hq]at hc
 have one:∀ (i:Nat) (l:List UInt8),i < 4→(xs.map (·.1))[i]?=some (.lit (.string l))→∃ v,W.cell? (ad 0 i)=some v∧v.oneCell'=true∧(gh0 W).cl 0 i∧Rel (gh0 W) W (.str (l.map UInt8.toNat)) v:=by
  intro i l hi M;rw[List.getElem?_map]at M;obtain⟨x,hx,M⟩:=Option.map_eq_some_iff.1 M;have Z:=U i hi;rw[c9,hx]at Z;obtain⟨s,hs,b1,_⟩:=DataW.trod_string Tryz.underlying9 Z;rw[b1]at M;have M:s.data.toList=l:=by simpa using M
  have hc:I[i]?=some (.string s):=by have:=congrArg (·[0]?) hs;simp only[Nat.mul_one]at this;simpa using this
  refine⟨.string s,(World.var?_cell y N i).trans hc,rfl,a1,?_⟩;simp only[Rel];exact⟨s,rfl,by rw[M]⟩
 simp only[Prod.mk.injEq,Rows.laid_columbary_schema_Scalars,DataW.agg.injEq]at t;have t:=t.1;have a2:I.size=4:=by have:=a0;rw[show Tryz.prog.cellsOf 127=4 by kernel_rfl]at this;simpa using this
 have O:W.cell? (ad 0 4)=none:=(World.var?_cell y N 4).trans (by simp[a2]);obtain rfl:=Option.some.inj (gPow.symm.trans Y);obtain rfl:=Option.some.inj (tPow.symm.trans a7);have T:=Lib.cells_of_tab (k:=.u64) (zs:=Lib.pow10Tab) (n:=20) (e:=186) d1x tyU (by kernel_rfl) (by kernel_rfl) ((show Rows.laid_internal_strconv_uint64pow10=Lib.tabData .u64 Lib.pow10Tab by kernel_rfl) ▸ a5);have L:∀ i,W.cell? (ad 1 i)=(Lib.pow10Tab.map fun z=>Value.int .u64 z)[i]?:=fun i=>by rw[← T,Array.getElem?_toList];exact World.var?_cell Y a9 i
 have C:1 < W.heap.size:=by
  have J:=L 0;cases hq:W.heap[1]? with
  | some o=>exact(Array.getElem?_eq_some_iff.1 hq).1
  | none =>exfalso;unfold World.cell? at J;simp only[hq]at J;cases J
 have u:∀ (zs:List Int) (f:Nat),(∀ i,W.cell? (ad 1 (f+i))=(zs.map fun z=>Value.int .u64 z)[i]?)→RelCells (gh0 W) W 1 f (zs.map (AV.int .u64)):=by
  intro zs;induction zs with
  | nil=>intro f _; simp[RelCells]
  | cons z zs ih =>intro f h;simp only[List.map_cons,RelCells];refine⟨⟨.int .u64 z,by have:=h 0; simpa using this,rfl,C,by simp only[Rel]⟩,ih (f+1) fun i=>?_⟩;have:=h (i+1);rw[show f+1+i=f+(i+1)by omega,this];simp
 intro e he;simp only[gts,List.mem_cons,List.not_mem_nil,or_false]at he;rcases he with rfl|rfl
 · refine⟨?_,a1,O⟩;simp only[RelCells,Nat.zero_add,Nat.reduceAdd];exact⟨one 0 [66,111,111,108,101,97,110] (by decide) (by rw[← t]; rfl),one 1 [73,68] (by decide) (by rw[← t]; rfl),one 2 [73,110,116] (by decide) (by rw[← t]; rfl),one 3 [83,116,114,105,110,103] (by decide) (by rw[← t]; rfl),trivial⟩
 · refine⟨u _ 0 fun i=>by rw[Nat.zero_add]; exact L i,C,?_⟩;show W.cell? (ad 1 (Lib.pow10Tab.map (AV.int .u64)).length)=none;rw[List.length_map,Lib.pow10Tab_length,L];rw[List.getElem?_eq_none (by simp[Lib.pow10Tab_length])]
theorem c0n (os:Os) (args:Array Value):laidMetH Tryz.prog a8z ((World.doorLaid Tryz.prog 400 os).forCall (fun _ _=>0) ⟨#[],args,[]⟩).memory :=
 laidMetH_of_parts3 (fuel:=8) (laidMet_of_run' 8 (by kernel_rfl) (by kernel_rfl)) (by kernel_rfl) (by kernel_rfl)
end Go.Proofs.YtbibkdncfclnbaaGreatDoor
