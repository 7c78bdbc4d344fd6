import Derived.Test.YtbibkdncfclnbaaGreatDoorRow0
import Derived.Test.YtbibkdncfclnbaaGreatDoorPostV
import Derived.Test.YtbibkdncfclnbaaGreatDoorOpen
import Derived.Test.YtbibkdncfclnbaaGreatDoorXs1
import Derived.SizedLaws
namespace Go.Proofs.YtbibkdncfclnbaaGreatDoor
open Go.ChangeShapes Go.WideShapes Go.ChangeAt Go.WideMaps Go.WideElems Go.RowKit Go.ChangeMaps Go.Cb Go.Cb.CodeA
set_option maxRecDepth 100000
set_option linter.unusedVariables false
theorem a8O {α:Type} {f:α→List AV} {R:α→Prop}:∀ {ks:List (List AV)},(∀ r∈ks,∃ s,R s∧r=f s)→∃ ss:List α,ks=ss.map f∧∀ s∈ss,R s
 | [],_=>⟨[],rfl,by simp⟩
 | k::ks,h=>by
  obtain ⟨s,hs,rfl⟩:=h k (by simp)
  obtain ⟨ss,rfl,hss⟩:=a8O (ks:=ks) fun r hr=>h r (by simp [hr])
  refine ⟨s::ss,rfl,fun u hu=>?_⟩
  rcases List.mem_cons.1 hu with rfl|hu
  · exact hs
  · exact hss u hu
theorem c70:Tryz.prog.cellsOf 70=6:=by kernel_rfl
theorem c5:Tryz.prog.cellsOf 5=1:=by kernel_rfl
theorem c9:Tryz.prog.cellsOf 9=1:=by kernel_rfl
theorem c21:Tryz.prog.cellsOf 21=1:=by kernel_rfl
theorem c62:Tryz.prog.cellsOf 62=1:=by kernel_rfl
theorem c1r {k:Int} (h:(Lit.int .u8 k).wf=true):0≤k:=by
 simp [Lit.wf,IntKind.min,IntKind.max,IntKind.signed,IntKind.bits] at h
 omega
section
variable {H:Type} {enc:TypeId×Value→H} {w:World} {base:Nat} {spare:Nat→Bool} {held:Bool}
theorem b3t {m:Nat} {cs:List Value} {y:DataW H×List MemPlace} (h:DataW.trod enc Tryz.prog w base spare held m 5 cs=some y):∃ r,(∃ s:Int,0≤s∧r=a0L s)∧a1Z (gh0 w) w r cs:=by
 obtain ⟨k,rfl,_,wi⟩:=DataW.trod_int Tryz.underlying5 h
 have wi:(Lit.int .u8 k).wf=true:=by assumption
 refine ⟨a0L k,⟨_,c1r wi,rfl⟩,?_,?_⟩
 · simp only [a0L,RelL,Rel]; exact ⟨_,_,rfl,rfl,rfl⟩
 · intro c hc; simp at hc; subst hc; rfl
theorem b6m {n:Nat} {cs:List Value} {x:DataW H×List MemPlace} (hS:∀ k∈x.1.weights Tryz.prog 70,k≤reachBytes) (h:DataW.trod enc Tryz.prog w base spare held n 70 cs=some x):∃ r,(∃ s:Thg,s.OK∧r=s.row)∧a1Z (gh0 w) w r cs:=by
 obtain ⟨xs,m,rfl,hx0,hlen,hxs,hf⟩:=DataW.trod_struct Tryz.underlying70 h
 rw [c70] at hlen
 match cs,hlen with
 | [q0,q1,q2,q3,q4,q5],_ =>
  have f0:DataW.trod enc Tryz.prog w base spare held m 5 ([q0].take 1)=xs[0]?:=by
   have:=hf 0 { name:= "Type",type:=5,offset:=0,embedded:=false,tag:= "",pkgPath:= "",byteOffset:=0 } rfl
   dsimp only at this
   rw [c5] at this
   exact this
  have f1:DataW.trod enc Tryz.prog w base spare held m 5 ([q1].take 1)=xs[1]?:=by
   have:=hf 1 { name:= "ID",type:=5,offset:=1,embedded:=false,tag:= "",pkgPath:= "",byteOffset:=1 } rfl
   dsimp only at this
   rw [c5] at this
   exact this
  have f2:DataW.trod enc Tryz.prog w base spare held m 21 ([q2].take 1)=xs[2]?:=by
   have:=hf 2 { name:= "N",type:=21,offset:=2,embedded:=false,tag:= "",pkgPath:= "",byteOffset:=4 } rfl
   dsimp only at this
   rw [c21] at this
   exact this
  have f3:DataW.trod enc Tryz.prog w base spare held m 9 ([q3].take 1)=xs[3]?:=by
   have:=hf 3 { name:= "S",type:=9,offset:=3,embedded:=false,tag:= "",pkgPath:= "",byteOffset:=8 } rfl
   dsimp only at this
   rw [c9] at this
   exact this
  have f4:DataW.trod enc Tryz.prog w base spare held m 62 ([q4].take 1)=xs[4]?:=by
   have:=hf 4 { name:= "Refs",type:=62,offset:=4,embedded:=false,tag:= "",pkgPath:= "",byteOffset:=24 } rfl
   dsimp only at this
   rw [c62] at this
   exact this
  have f5:DataW.trod enc Tryz.prog w base spare held m 5 ([q5].take 1)=xs[5]?:=by
   have:=hf 5 { name:= "Lack",type:=5,offset:=5,embedded:=false,tag:= "",pkgPath:= "",byteOffset:=48 } rfl
   dsimp only at this
   rw [c5] at this
   exact this
  have hsz:xs.length=6:=hxs
  rw [List.getElem?_eq_getElem (by omega)] at f0 f1 f2 f3 f4 f5
  obtain ⟨k0,e0,_,w0⟩:=DataW.trod_int Tryz.underlying5 f0
  obtain ⟨k1,e1,_,w1⟩:=DataW.trod_int Tryz.underlying5 f1
  obtain ⟨k2,e2,_,w2⟩:=DataW.trod_int Tryz.underlying21 f2
  obtain ⟨s3,e3,x3,_⟩:=DataW.trod_string Tryz.underlying9 f3
  obtain ⟨v4,ks,e4,o4,l4,h4,r4⟩:=a9C (R:=fun r=>∃ s:Int,0≤s∧r=a0L s) Tryz.underlying62 (by rw [c5]; decide) (Y:=fun _=>True) (fun m' cs' y _ _ hy=>b3t hy) f4 (fun _ _ _ _ _=>trivial)
  obtain ⟨k5,e5,_,w5⟩:=DataW.trod_int Tryz.underlying5 f5
  have e0:=(List.cons.inj (show [q0]=[_] from e0)).1
  have e1:=(List.cons.inj (show [q1]=[_] from e1)).1
  have e2:=(List.cons.inj (show [q2]=[_] from e2)).1
  have e3:=(List.cons.inj (show [q3]=[_] from e3)).1
  have e4:=(List.cons.inj (show [q4]=[_] from e4)).1
  have e5:=(List.cons.inj (show [q5]=[_] from e5)).1
  subst e0; subst e1; subst e2; subst e3; subst e4; subst e5
  obtain ⟨ss,rfl,hss⟩:=a8O h4
  have w1:(Lit.int .u8 k1).wf=true:=by assumption
  have w2:(Lit.int .i32 k2).wf=true:=by assumption
  have hn:-9223372036854775808≤k2∧k2 < 9223372036854775808:=by
   simp [Lit.wf,IntKind.min,IntKind.max,IntKind.signed,IntKind.bits] at w2
   omega
  have hs3:(s3.data.toList.map UInt8.toNat).length≤TB:=by
   have h3:s3.data.toList.length≤reachBytes:=hS _ (by
    rw [hx0]
    show _∈DataW.weights Tryz.prog 70 (DataW.agg (xs.map (·.1)))
    rw [DataW.weights,Tryz.underlying70]
    dsimp only
    exact DataW.weights_mem_each (j:=3) (t:=9) (d:=.lit (.string s3.data.toList)) rfl (by rw [List.getElem?_map,List.getElem?_eq_getElem (by omega),x3]; rfl) _ (by simp [DataW.weights]))
   rw [List.length_map]
   exact Nat.le_trans h3 (by decide)
  refine ⟨_,⟨⟨k0,k1,k2,s3.data.toList.map UInt8.toNat,ss,k5⟩,⟨c1r w1,hss,hn,hs3⟩,rfl⟩,?_,?_⟩
  · simp only [Thg.row,RelL]
    exact ⟨_,_,rfl,by simp only [Rel],_,_,rfl,by simp only [Rel],_,_,rfl,by simp only [Rel],_,_,rfl,by simp only [Rel]; exact ⟨s3,rfl,rfl⟩,_,_,rfl,r4,_,_,rfl,by simp only [Rel],rfl⟩
  · intro c hc
    simp only [List.mem_cons,List.not_mem_nil,or_false] at hc
    rcases hc with rfl|rfl|rfl|rfl|rfl|rfl <;> first|rfl|assumption
theorem b3v {ts:List TypeId} {ds:List (DataW H)} (h:(DataW.weightsEach Tryz.prog ts ds).all (·≤reachBytes)=true) {j:Nat} {es sp:List (DataW H)} (ht:ts[j]?=some 22) (hd:ds[j]?=some (.slice es sp)):∀ d∈es,∀ k∈d.weights Tryz.prog 70,k≤reachBytes:=by
 have all:∀ {l:List (DataW H)} {d:DataW H},d∈l→∀ k∈d.weights Tryz.prog 70,k∈DataW.weightsAll Tryz.prog 70 l:=by
  intro l
  induction l with
  | nil=>intro d hd; cases hd
  | cons x l ih =>
   intro d hd k hk
   rw [DataW.weightsAll,List.mem_append]
   rcases List.mem_cons.1 hd with rfl|hd
   · exact .inl hk
   · exact .inr (ih hd k hk)
 intro d hde k hk
 have:=List.all_eq_true.1 h k (DataW.weights_mem_each ht hd k (by
  simp only [DataW.weights,Tryz.underlying22,List.mem_cons,List.mem_append]
  exact .inr (.inl (all hde k hk))))
 simpa using this
end
end Go.Proofs.YtbibkdncfclnbaaGreatDoor
