import Derived.Test.YtgaibigpannjfaaGreatDoorRow0
import Derived.Test.YtgaibigpannjfaaGreatDoorPostV
import Derived.Test.YtgaibigpannjfaaGreatDoorOpen
import Derived.Test.YtgaibigpannjfaaGreatDoorXs1
import Derived.SizedLaws
set_option maxRecDepth 100000
set_option linter.all false
namespace Go.Proofs.YtgaibigpannjfaaGreatDoor
open Go.ChangeShapes Go.WideShapes Go.ChangeAt Go.WideMaps Go.WideElems Go.RowKit Go.ChangeMaps Go.Cb Go.Cb.CodeA
theorem a8M {α:Type} {f:α→List AV} {R:α→Prop}:∀ {ks:List (List AV)},(∀ r∈ks,∃ s,R s∧r=f s)→∃ i:List α,ks=i.map f∧∀ s∈i,R s
 | [],_=>⟨[],rfl,by simp⟩
 | k::ks,h=>by
  obtain⟨s,hs,rfl⟩:=h k (by simp);obtain⟨i,rfl,j⟩:=a8M (ks:=ks) fun r l=>h r (by simp[l])
  refine⟨s::i,rfl,fun u hu=>?_⟩;rcases List.mem_cons.1 hu with rfl|hu
  · exact hs
  · exact j u hu
theorem c62:Tryz.prog.cellsOf 62=6:=by kernel_rfl
theorem c5:Tryz.prog.cellsOf 5=1:=by kernel_rfl
theorem c9:Tryz.prog.cellsOf 9=1:=by kernel_rfl
theorem c21:Tryz.prog.cellsOf 21=1:=by kernel_rfl
theorem c60:Tryz.prog.cellsOf 60=1:=by kernel_rfl
theorem c2k {k:Int} (h:(Lit.int .u8 k).wf=true):0≤k:=by simp[Lit.wf,IntKind.min,IntKind.max,IntKind.signed,IntKind.bits]at h;omega
section
variable {H:Type} {enc:TypeId×Value→H} {w:World} {base:Nat} {spare:Nat→Bool} {held:Bool}
theorem b2o {m:Nat} {cs:List Value} {y:DataW H×List MemPlace} (h:DataW.trod enc Tryz.prog w base spare held m 5 cs=some y):∃ r,(∃ s:Int,0≤s∧r=a1I s)∧a3E (gh0 w) w r cs:=by
 obtain⟨k,rfl,_,j⟩:=DataW.trod_int Tryz.underlying5 h;have j:(Lit.int .u8 k).wf=true:=by assumption
 refine⟨a1I k,⟨_,c2k j,rfl⟩,?_,?_⟩
 · simp only[a1I,RelL,Rel]; exact⟨_,_,rfl,rfl,rfl⟩
 · intro c i; simp at i; subst i; rfl
theorem b4n {n:Nat} {cs:List Value} {x:DataW H×List MemPlace} (W:∀ k∈x.1.weights Tryz.prog 62,k≤reachBytes) (h:DataW.trod enc Tryz.prog w base spare held n 62 cs=some x):∃ r,(∃ s:Thg,s.OK∧r=s.row)∧a3E (gh0 w) w r cs:=by
 obtain⟨xs,m,rfl,I,i,J,l⟩:=DataW.trod_struct Tryz.underlying62 h;rw[c62]at i;match cs,i with
 | [q0,q1,q2,q3,q4,q5],_ =>
  have f0:DataW.trod enc Tryz.prog w base spare held m 5 ([q0].take 1)=xs[0]?:=by have:=l 0 { name:= "Type",type:=5,offset:=0,embedded:=false,tag:= "",pkgPath:= "",byteOffset:=0 } rfl;dsimp only at this;rw[c5]at this;exact this
  have f1:DataW.trod enc Tryz.prog w base spare held m 5 ([q1].take 1)=xs[1]?:=by have:=l 1 { name:= "ID",type:=5,offset:=1,embedded:=false,tag:= "",pkgPath:= "",byteOffset:=1 } rfl;dsimp only at this;rw[c5]at this;exact this
  have f2:DataW.trod enc Tryz.prog w base spare held m 21 ([q2].take 1)=xs[2]?:=by have:=l 2 { name:= "N",type:=21,offset:=2,embedded:=false,tag:= "",pkgPath:= "",byteOffset:=4 } rfl;dsimp only at this;rw[c21]at this;exact this
  have f3:DataW.trod enc Tryz.prog w base spare held m 9 ([q3].take 1)=xs[3]?:=by have:=l 3 { name:= "S",type:=9,offset:=3,embedded:=false,tag:= "",pkgPath:= "",byteOffset:=8 } rfl;dsimp only at this;rw[c9]at this;exact this
  have f4:DataW.trod enc Tryz.prog w base spare held m 60 ([q4].take 1)=xs[4]?:=by have:=l 4 { name:= "Refs",type:=60,offset:=4,embedded:=false,tag:= "",pkgPath:= "",byteOffset:=24 } rfl;dsimp only at this;rw[c60]at this;exact this
  have f5:DataW.trod enc Tryz.prog w base spare held m 5 ([q5].take 1)=xs[5]?:=by have:=l 5 { name:= "Lack",type:=5,offset:=5,embedded:=false,tag:= "",pkgPath:= "",byteOffset:=48 } rfl;dsimp only at this;rw[c5]at this;exact this
  have X:xs.length=6:=J;rw[List.getElem?_eq_getElem (by omega)]at f0 f1 f2 f3 f4 f5;obtain⟨k0,e0,_,w0⟩:=DataW.trod_int Tryz.underlying5 f0;obtain⟨k1,z,_,w1⟩:=DataW.trod_int Tryz.underlying5 f1;obtain⟨k2,e2,_,M⟩:=DataW.trod_int Tryz.underlying21 f2;obtain⟨u,B,x3,_⟩:=DataW.trod_string Tryz.underlying9 f3;obtain⟨v4,ks,C,o4,l4,V,r4⟩:=a9v (R:=fun r=>∃ s:Int,0≤s∧r=a1I s) Tryz.underlying60 (by rw[c5]; decide) (Y:=fun _=>True) (fun m' O y _ _ Z=>b2o Z) f4 (fun _ _ _ _ _=>trivial);obtain⟨k5,E,_,w5⟩:=DataW.trod_int Tryz.underlying5 f5;have e0:=(List.cons.inj (show [q0]=[_]from e0)).1;have z:=(List.cons.inj (show [q1]=[_]from z)).1;have e2:=(List.cons.inj (show [q2]=[_]from e2)).1;have B:=(List.cons.inj (show [q3]=[_]from B)).1;have C:=(List.cons.inj (show [q4]=[_]from C)).1;have E:=(List.cons.inj (show [q5]=[_]from E)).1;subst e0; subst z; subst e2; subst B; subst C; subst E;obtain⟨ss,rfl,G⟩:=a8M V;have w1:(Lit.int .u8 k1).wf=true:=by assumption
  have M:(Lit.int .i32 k2).wf=true:=by assumption
  have hn:-2147483648≤k2∧k2 < 2147483648:=by simp[Lit.wf,IntKind.min,IntKind.max,IntKind.signed,IntKind.bits]at M;omega
  have F:(u.data.toList.map UInt8.toNat).length≤TB:=by have U:u.data.toList.length≤reachBytes:=W _ (by rw[I];show _∈DataW.weights Tryz.prog 62 (DataW.agg (xs.map (·.1)));rw[DataW.weights,Tryz.underlying62];dsimp only;exact DataW.weights_mem_each (j:=3) (t:=9) (d:=.lit (.string u.data.toList)) rfl (by rw[List.getElem?_map,List.getElem?_eq_getElem (by omega),x3]; rfl) _ (by simp[DataW.weights]));rw[List.length_map];exact Nat.le_trans U (by decide)
  refine⟨_,⟨⟨k0,k1,k2,u.data.toList.map UInt8.toNat,ss,k5⟩,⟨c2k w1,G,hn,F⟩,rfl⟩,?_,?_⟩
  · simp only[Thg.row,RelL];exact⟨_,_,rfl,by simp only[Rel],_,_,rfl,by simp only[Rel],_,_,rfl,by simp only[Rel],_,_,rfl,by simp only[Rel]; exact⟨u,rfl,rfl⟩,_,_,rfl,r4,_,_,rfl,by simp only[Rel],rfl⟩
  · intro c L;simp only[List.mem_cons,List.not_mem_nil,or_false]at L;rcases L with rfl|rfl|rfl|rfl|rfl|rfl<;>first|rfl|assumption
theorem b16 {ts:List TypeId} {t:List (DataW H)} (h:(DataW.weightsEach Tryz.prog ts t).all (·≤reachBytes)=true) {j:Nat} {es sp:List (DataW H)} (u:ts[j]?=some 22) (hd:t[j]?=some (.slice es sp)):∀ d∈es,∀ k∈d.weights Tryz.prog 62,k≤reachBytes:=by
 have all:∀ {l:List (DataW H)} {d:DataW H},d∈l→∀ k∈d.weights Tryz.prog 62,k∈DataW.weightsAll Tryz.prog 62 l:=by
  intro l;induction l with
  | nil=>intro d hd; cases hd
  | cons x l y =>
   intro d hd k hk;rw[DataW.weightsAll,List.mem_append];rcases List.mem_cons.1 hd with rfl|hd
   · exact .inl hk
   · exact .inr (y hd k hk)
 intro d i k hk;have:=List.all_eq_true.1 h k (DataW.weights_mem_each u hd k (by simp only[DataW.weights,Tryz.underlying22,List.mem_cons,List.mem_append];exact .inr (.inl (all i k hk))));simpa using this
end
end Go.Proofs.YtgaibigpannjfaaGreatDoor
