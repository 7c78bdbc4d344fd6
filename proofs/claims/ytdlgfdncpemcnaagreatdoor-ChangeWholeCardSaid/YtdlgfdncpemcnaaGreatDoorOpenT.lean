import Derived.Test.YtdlgfdncpemcnaaGreatDoorRow0
import Derived.Test.YtdlgfdncpemcnaaGreatDoorPostV
import Derived.Test.YtdlgfdncpemcnaaGreatDoorOpen
import Derived.Test.YtdlgfdncpemcnaaGreatDoorX1
import Derived.SizedLaws
set_option maxRecDepth 100000
set_option linter.all false
namespace Go.Proofs.YtdlgfdncpemcnaaGreatDoor
open Go.ChangeShapes Go.WideShapes Go.ChangeAt Go.WideMaps Go.WideElems Go.RowKit Go.ChangeMaps Go.Cb Go.Cb.CodeA
theorem a6N {α:Type} {f:α→List AV} {R:α→Prop}:∀ {ks:List (List AV)},(∀ r∈ks,∃ s,R s∧r=f s)→∃ i:List α,ks=i.map f∧∀ s∈i,R s
 | [],_=>⟨[],rfl,by simp⟩
 | k::ks,h=>by
  obtain⟨s,hs,rfl⟩:=h k (by simp);obtain⟨i,rfl,j⟩:=a6N (ks:=ks) fun r l=>h r (by simp[l])
  refine⟨s::i,rfl,fun u hu=>?_⟩;rcases List.mem_cons.1 hu with rfl|hu
  · exact hs
  · exact j u hu
theorem c53:Tryz.prog.cellsOf 53=6:=by kernel_rfl
theorem c5:Tryz.prog.cellsOf 5=1:=by kernel_rfl
theorem c9:Tryz.prog.cellsOf 9=1:=by kernel_rfl
theorem c21:Tryz.prog.cellsOf 21=1:=by kernel_rfl
theorem c28:Tryz.prog.cellsOf 28=1:=by kernel_rfl
theorem b3r {k:Int} (h:(Lit.int .u8 k).wf=true):0≤k:=by simp[Lit.wf,IntKind.min,IntKind.max,IntKind.signed,IntKind.bits]at h;omega
section
variable {H:Type} {enc:TypeId×Value→H} {w:World} {base:Nat} {spare:Nat→Bool} {held:Bool}
theorem b08 {m:Nat} {cs:List Value} {y:DataW H×List MemPlace} (h:DataW.trod enc Tryz.prog w base spare held m 5 cs=some y):∃ r,(∃ s:Int,0≤s∧r=a0O s)∧a2z (gh0 w) w r cs:=by
 obtain⟨k,rfl,_,j⟩:=DataW.trod_int Tryz.underlying5 h;have j:(Lit.int .u8 k).wf=true:=by assumption
 refine⟨a0O k,⟨_,b3r j,rfl⟩,?_,?_⟩
 · simp only[a0O,RelL,Rel]; exact⟨_,_,rfl,rfl,rfl⟩
 · intro c i; simp at i; subst i; rfl
theorem b3t {n:Nat} {cs:List Value} {x:DataW H×List MemPlace} (Z:∀ k∈x.1.weights Tryz.prog 53,k≤reachBytes) (h:DataW.trod enc Tryz.prog w base spare held n 53 cs=some x):∃ r,(∃ s:Thg,s.OK∧r=s.row)∧a2z (gh0 w) w r cs:=by
 obtain⟨xs,m,rfl,J,i,M,l⟩:=DataW.trod_struct Tryz.underlying53 h;rw[c53]at i;match cs,i with
 | [q0,q1,q2,q3,q4,q5],_ =>
  have f0:DataW.trod enc Tryz.prog w base spare held m 5 ([q0].take 1)=xs[0]?:=by have:=l 0 { name:= "Type",type:=5,offset:=0,embedded:=false,tag:= "",pkgPath:= "",byteOffset:=0 } rfl;dsimp only at this;rw[c5]at this;exact this
  have f1:DataW.trod enc Tryz.prog w base spare held m 5 ([q1].take 1)=xs[1]?:=by have:=l 1 { name:= "ID",type:=5,offset:=1,embedded:=false,tag:= "",pkgPath:= "",byteOffset:=1 } rfl;dsimp only at this;rw[c5]at this;exact this
  have f2:DataW.trod enc Tryz.prog w base spare held m 21 ([q2].take 1)=xs[2]?:=by have:=l 2 { name:= "N",type:=21,offset:=2,embedded:=false,tag:= "",pkgPath:= "",byteOffset:=4 } rfl;dsimp only at this;rw[c21]at this;exact this
  have f3:DataW.trod enc Tryz.prog w base spare held m 9 ([q3].take 1)=xs[3]?:=by have:=l 3 { name:= "S",type:=9,offset:=3,embedded:=false,tag:= "",pkgPath:= "",byteOffset:=8 } rfl;dsimp only at this;rw[c9]at this;exact this
  have f4:DataW.trod enc Tryz.prog w base spare held m 28 ([q4].take 1)=xs[4]?:=by have:=l 4 { name:= "Refs",type:=28,offset:=4,embedded:=false,tag:= "",pkgPath:= "",byteOffset:=24 } rfl;dsimp only at this;rw[c28]at this;exact this
  have f5:DataW.trod enc Tryz.prog w base spare held m 5 ([q5].take 1)=xs[5]?:=by have:=l 5 { name:= "Lack",type:=5,offset:=5,embedded:=false,tag:= "",pkgPath:= "",byteOffset:=48 } rfl;dsimp only at this;rw[c5]at this;exact this
  have a0:xs.length=6:=M;rw[List.getElem?_eq_getElem (by omega)]at f0 f1 f2 f3 f4 f5;obtain⟨k0,v,_,w0⟩:=DataW.trod_int Tryz.underlying5 f0;obtain⟨k1,z,_,w1⟩:=DataW.trod_int Tryz.underlying5 f1;obtain⟨k2,B,_,T⟩:=DataW.trod_int Tryz.underlying21 f2;obtain⟨u,D,x3,_⟩:=DataW.trod_string Tryz.underlying9 f3;obtain⟨v4,ks,E,o4,l4,W,r4⟩:=a7Q (R:=fun r=>∃ s:Int,0≤s∧r=a0O s) Tryz.underlying28 (by rw[c5]; decide) (Y:=fun _=>True) (fun m' U y _ _ hy=>b08 hy) f4 (fun _ _ _ _ _=>trivial);obtain⟨k5,F,_,w5⟩:=DataW.trod_int Tryz.underlying5 f5;have v:=(List.cons.inj (show [q0]=[_]from v)).1;have z:=(List.cons.inj (show [q1]=[_]from z)).1;have B:=(List.cons.inj (show [q2]=[_]from B)).1;have D:=(List.cons.inj (show [q3]=[_]from D)).1;have E:=(List.cons.inj (show [q4]=[_]from E)).1;have F:=(List.cons.inj (show [q5]=[_]from F)).1;subst v; subst z; subst B; subst D; subst E; subst F;obtain⟨ss,rfl,I⟩:=a6N W;have w1:(Lit.int .u8 k1).wf=true:=by assumption
  have T:(Lit.int .i32 k2).wf=true:=by assumption
  have hn:-9223372036854775808≤k2∧k2 < 9223372036854775808:=by simp[Lit.wf,IntKind.min,IntKind.max,IntKind.signed,IntKind.bits]at T;omega
  have G:(u.data.toList.map UInt8.toNat).length≤TB:=by have V:u.data.toList.length≤reachBytes:=Z _ (by rw[J];show _∈DataW.weights Tryz.prog 53 (DataW.agg (xs.map (·.1)));rw[DataW.weights,Tryz.underlying53];dsimp only;exact DataW.weights_mem_each (j:=3) (t:=9) (d:=.lit (.string u.data.toList)) rfl (by rw[List.getElem?_map,List.getElem?_eq_getElem (by omega),x3]; rfl) _ (by simp[DataW.weights]));rw[List.length_map];exact Nat.le_trans V (by decide)
  refine⟨_,⟨⟨k0,k1,k2,u.data.toList.map UInt8.toNat,ss,k5⟩,⟨b3r w1,I,hn,G⟩,rfl⟩,?_,?_⟩
  · simp only[Thg.row,RelL];exact⟨_,_,rfl,by simp only[Rel],_,_,rfl,by simp only[Rel],_,_,rfl,by simp only[Rel],_,_,rfl,by simp only[Rel]; exact⟨u,rfl,rfl⟩,_,_,rfl,r4,_,_,rfl,by simp only[Rel],rfl⟩
  · intro c O;simp only[List.mem_cons,List.not_mem_nil,or_false]at O;rcases O with rfl|rfl|rfl|rfl|rfl|rfl<;>first|rfl|assumption
theorem b09 {ts:List TypeId} {t:List (DataW H)} (h:(DataW.weightsEach Tryz.prog ts t).all (·≤reachBytes)=true) {j:Nat} {es sp:List (DataW H)} (u:ts[j]?=some 49) (hd:t[j]?=some (.slice es sp)):∀ d∈es,∀ k∈d.weights Tryz.prog 53,k≤reachBytes:=by
 have all:∀ {l:List (DataW H)} {d:DataW H},d∈l→∀ k∈d.weights Tryz.prog 53,k∈DataW.weightsAll Tryz.prog 53 l:=by
  intro l;induction l with
  | nil=>intro d hd; cases hd
  | cons x l v =>
   intro d hd k hk;rw[DataW.weightsAll,List.mem_append];rcases List.mem_cons.1 hd with rfl|hd
   · exact .inl hk
   · exact .inr (v hd k hk)
 intro d i k hk;have:=List.all_eq_true.1 h k (DataW.weights_mem_each u hd k (by simp only[DataW.weights,Tryz.underlying49,List.mem_cons,List.mem_append];exact .inr (.inl (all i k hk))));simpa using this
end
end Go.Proofs.YtdlgfdncpemcnaaGreatDoor
