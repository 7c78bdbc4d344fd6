import Derived.Test.YtbibkdncfclnbaaGreatDoorRow0
import Derived.Test.YtbibkdncfclnbaaGreatDoorPostV
import Derived.Test.YtbibkdncfclnbaaGreatDoorOpen
import Derived.Test.YtbibkdncfclnbaaGreatDoorXs1
import Derived.SizedLaws
set_option maxRecDepth 100000
set_option linter.all false
namespace Go.Proofs.YtbibkdncfclnbaaGreatDoor
open Go.ChangeShapes Go.WideShapes Go.ChangeAt Go.WideMaps Go.WideElems Go.RowKit Go.ChangeMaps Go.Cb Go.Cb.CodeA
theorem a9F {α:Type} {f:α→List AV} {R:α→Prop}:∀ {ks:List (List AV)},(∀ r∈ks,∃ s,R s∧r=f s)→∃ e:List α,ks=e.map f∧∀ s∈e,R s
 | [],_=>⟨[],rfl,by simp⟩
 | k::ks,h=>by
  obtain⟨s,v,rfl⟩:=h k (by simp);obtain⟨e,rfl,l⟩:=a9F (ks:=ks) fun r t=>h r (by simp[t])
  refine⟨s::e,rfl,fun u hu=>?_⟩;rcases List.mem_cons.1 hu with rfl|hu
  · exact v
  · exact l u hu
theorem c70:Tryz.prog.cellsOf 70=6:=by kernel_rfl
theorem c5:Tryz.prog.cellsOf 5=1:=by kernel_rfl
theorem c9:Tryz.prog.cellsOf 9=1:=by kernel_rfl
theorem c21:Tryz.prog.cellsOf 21=1:=by kernel_rfl
theorem c62:Tryz.prog.cellsOf 62=1:=by kernel_rfl
theorem c3G {k:Int} (h:(Lit.int .u8 k).wf=true):0≤k:=by simp[Lit.wf,IntKind.min,IntKind.max,IntKind.signed,IntKind.bits]at h;omega
section
variable {H:Type} {enc:TypeId×Value→H} {w:World} {base:Nat} {spare:Nat→Bool} {held:Bool}
theorem b2V {m:Nat} {cs:List Value} {y:DataW H×List MemPlace} (h:DataW.trod enc Tryz.prog w base spare held m 5 cs=some y):∃ r,(∃ s:Int,0≤s∧r=a1Y s)∧a3Z (gh0 w) w r cs:=by
 obtain⟨k,rfl,_,l⟩:=DataW.trod_int Tryz.underlying5 h;have l:(Lit.int .u8 k).wf=true:=by assumption
 refine⟨a1Y k,⟨_,c3G l,rfl⟩,?_,?_⟩
 · simp only[a1Y,RelL,Rel]; exact⟨_,_,rfl,rfl,rfl⟩
 · intro c e; simp at e; subst e; rfl
theorem b50 {n:Nat} {cs:List Value} {x:DataW H×List MemPlace} (hS:∀ k∈x.1.weights Tryz.prog 70,k≤reachBytes) (h:DataW.trod enc Tryz.prog w base spare held n 70 cs=some x):∃ r,(∃ s:Thg,s.OK∧r=s.row)∧a3Z (gh0 w) w r cs:=by
 obtain⟨xs,m,rfl,T,e,U,l⟩:=DataW.trod_struct Tryz.underlying70 h;rw[c70]at e;match cs,e with
 | [q0,q1,q2,q3,q4,q5],_ =>
  have f0:DataW.trod enc Tryz.prog w base spare held m 5 ([q0].take 1)=xs[0]?:=by have:=l 0 { name:= "Type",type:=5,offset:=0,embedded:=false,tag:= "",pkgPath:= "",byteOffset:=0 } rfl;dsimp only at this;rw[c5]at this;exact this
  have f1:DataW.trod enc Tryz.prog w base spare held m 5 ([q1].take 1)=xs[1]?:=by have:=l 1 { name:= "ID",type:=5,offset:=1,embedded:=false,tag:= "",pkgPath:= "",byteOffset:=1 } rfl;dsimp only at this;rw[c5]at this;exact this
  have f2:DataW.trod enc Tryz.prog w base spare held m 21 ([q2].take 1)=xs[2]?:=by have:=l 2 { name:= "N",type:=21,offset:=2,embedded:=false,tag:= "",pkgPath:= "",byteOffset:=4 } rfl;dsimp only at this;rw[c21]at this;exact this
  have f3:DataW.trod enc Tryz.prog w base spare held m 9 ([q3].take 1)=xs[3]?:=by have:=l 3 { name:= "S",type:=9,offset:=3,embedded:=false,tag:= "",pkgPath:= "",byteOffset:=8 } rfl;dsimp only at this;rw[c9]at this;exact this
  have f4:DataW.trod enc Tryz.prog w base spare held m 62 ([q4].take 1)=xs[4]?:=by have:=l 4 { name:= "Refs",type:=62,offset:=4,embedded:=false,tag:= "",pkgPath:= "",byteOffset:=24 } rfl;dsimp only at this;rw[c62]at this;exact this
  have f5:DataW.trod enc Tryz.prog w base spare held m 5 ([q5].take 1)=xs[5]?:=by have:=l 5 { name:= "Lack",type:=5,offset:=5,embedded:=false,tag:= "",pkgPath:= "",byteOffset:=48 } rfl;dsimp only at this;rw[c5]at this;exact this
  have a1:xs.length=6:=U;rw[List.getElem?_eq_getElem (by omega)]at f0 f1 f2 f3 f4 f5;obtain⟨k0,z,_,w0⟩:=DataW.trod_int Tryz.underlying5 f0;obtain⟨Z,C,_,w1⟩:=DataW.trod_int Tryz.underlying5 f1;obtain⟨v,e2,_,w2⟩:=DataW.trod_int Tryz.underlying21 f2;obtain⟨u,I,x3,_⟩:=DataW.trod_string Tryz.underlying9 f3;obtain⟨v4,ks,J,o4,l4,h4,r4⟩:=a9Z (R:=fun r=>∃ s:Int,0≤s∧r=a1Y s) Tryz.underlying62 (by rw[c5]; decide) (Y:=fun _=>True) (fun m' a0 y _ _ hy=>b2V hy) f4 (fun _ _ _ _ _=>trivial);obtain⟨k5,L,_,w5⟩:=DataW.trod_int Tryz.underlying5 f5;have z:=(List.cons.inj (show [q0]=[_]from z)).1;have C:=(List.cons.inj (show [q1]=[_]from C)).1;have e2:=(List.cons.inj (show [q2]=[_]from e2)).1;have I:=(List.cons.inj (show [q3]=[_]from I)).1;have J:=(List.cons.inj (show [q4]=[_]from J)).1;have L:=(List.cons.inj (show [q5]=[_]from L)).1;subst z; subst C; subst e2; subst I; subst J; subst L;obtain⟨ss,rfl,O⟩:=a9F h4;have w1:(Lit.int .u8 Z).wf=true:=by assumption
  have w2:(Lit.int .i32 v).wf=true:=by assumption
  have hn:-9223372036854775808≤v∧v < 9223372036854775808:=by simp[Lit.wf,IntKind.min,IntKind.max,IntKind.signed,IntKind.bits]at w2;omega
  have M:(u.data.toList.map UInt8.toNat).length≤TB:=by have h3:u.data.toList.length≤reachBytes:=hS _ (by rw[T];show _∈DataW.weights Tryz.prog 70 (DataW.agg (xs.map (·.1)));rw[DataW.weights,Tryz.underlying70];dsimp only;exact DataW.weights_mem_each (j:=3) (t:=9) (d:=.lit (.string u.data.toList)) rfl (by rw[List.getElem?_map,List.getElem?_eq_getElem (by omega),x3]; rfl) _ (by simp[DataW.weights]));rw[List.length_map];exact Nat.le_trans h3 (by decide)
  refine⟨_,⟨⟨k0,Z,v,u.data.toList.map UInt8.toNat,ss,k5⟩,⟨c3G w1,O,hn,M⟩,rfl⟩,?_,?_⟩
  · simp only[Thg.row,RelL];exact⟨_,_,rfl,by simp only[Rel],_,_,rfl,by simp only[Rel],_,_,rfl,by simp only[Rel],_,_,rfl,by simp only[Rel]; exact⟨u,rfl,rfl⟩,_,_,rfl,r4,_,_,rfl,by simp only[Rel],rfl⟩
  · intro c W;simp only[List.mem_cons,List.not_mem_nil,or_false]at W;rcases W with rfl|rfl|rfl|rfl|rfl|rfl<;>first|rfl|assumption
theorem b3q {ts:List TypeId} {ds:List (DataW H)} (h:(DataW.weightsEach Tryz.prog ts ds).all (·≤reachBytes)=true) {j:Nat} {es y:List (DataW H)} (u:ts[j]?=some 22) (hd:ds[j]?=some (.slice es y)):∀ d∈es,∀ k∈d.weights Tryz.prog 70,k≤reachBytes:=by
 have all:∀ {l:List (DataW H)} {d:DataW H},d∈l→∀ k∈d.weights Tryz.prog 70,k∈DataW.weightsAll Tryz.prog 70 l:=by
  intro l;induction l with
  | nil=>intro d hd; cases hd
  | cons x l v =>
   intro d hd k e;rw[DataW.weightsAll,List.mem_append];rcases List.mem_cons.1 hd with rfl|hd
   · exact .inl e
   · exact .inr (v hd k e)
 intro d t k e;have:=List.all_eq_true.1 h k (DataW.weights_mem_each u hd k (by simp only[DataW.weights,Tryz.underlying22,List.mem_cons,List.mem_append];exact .inr (.inl (all t k e))));simpa using this
end
end Go.Proofs.YtbibkdncfclnbaaGreatDoor
