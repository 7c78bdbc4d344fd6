/- What functions of the abstract machine answer. No conditions but those that each theorem names. -/
import Derived.Test.YthnliekianmljaaGreatDoorRow0
import Derived.Test.YthnliekianmljaaGreatDoorPostV
import Derived.Test.YthnliekianmljaaGreatDoorOpen
import Derived.Test.YthnliekianmljaaGreatDoorV1
namespace Go.Proofs.YthnliekianmljaaGreatDoor
open Go.ChangeShapes Go.WideShapes Go.ChangeAt Go.WideMaps Go.WideElems Go.RowKit Go.ChangeMaps Go.Cb Go.Cb.CodeA
set_option maxRecDepth 100000
set_option linter.unusedVariables false

theorem b1M:∀ {ks:List (List AV)},(∀ r∈ks,∃ s,r=b9 s)→∃ ss:List (List Nat),ks=ss.map b9
 | [],_=>⟨[],rfl⟩
 | k::ks,h=>by
  obtain ⟨s,rfl⟩:=h k (by simp)
  obtain ⟨ss,rfl⟩:=b1M (ks:=ks) fun r hr=>h r (by simp [hr])
  exact ⟨s::ss,rfl⟩
theorem b2v:∀ {ls:List (List AV)},(∀ r∈ls,∃ v:Val,v.Fin∧r=v.row)→∃ vs:List Val,ls=vs.map Val.row∧∀ v∈vs,v.Fin
 | [],_=>⟨[],rfl,by simp⟩
 | k::ks,h=>by
  obtain ⟨v,hv,rfl⟩:=h k (by simp)
  obtain ⟨vs,rfl,hs⟩:=b2v (ls:=ks) fun r hr=>h r (by simp [hr])
  refine ⟨v::vs,rfl,fun u hu=>?_⟩
  rcases List.mem_cons.1 hu with rfl|hu
  · exact hv
  · exact hs u hu

theorem c42:Tryz.prog.cellsOf 42=5:=by kernel_rfl
theorem c9:Tryz.prog.cellsOf 9=1:=by kernel_rfl
theorem c5:Tryz.prog.cellsOf 5=1:=by kernel_rfl
theorem c2:Tryz.prog.cellsOf 2=1:=by kernel_rfl
theorem c39:Tryz.prog.cellsOf 39=1:=by kernel_rfl
theorem c40:Tryz.prog.cellsOf 40=1:=by kernel_rfl

section
variable {H:Type} {enc:TypeId×Value→H} {w:World} {base:Nat} {spare:Nat→Bool} {held:Bool}
theorem b0k {m:Nat} {cs:List Value} {y:DataW H×List MemPlace} (h:DataW.trod enc Tryz.prog w base spare held m 9 cs=some y):∃ r,(∃ s,r=b9 s)∧a1e (gh0 w) w r cs:=by
 obtain ⟨s,rfl,_,_⟩:=DataW.trod_string Tryz.underlying9 h
 refine ⟨[.str (s.data.toList.map UInt8.toNat)],⟨_,rfl⟩,?_,?_⟩
 · simp only [RelL,Rel]; exact ⟨_,_,rfl,⟨s,rfl,rfl⟩,rfl⟩
 · intro c hc; simp at hc; subst hc; rfl
theorem b3E:∀ (n:Nat) (t:TypeId) (cs:List Value) (x:DataW H×List MemPlace),t=42→DataW.trod enc Tryz.prog w base spare held n t cs=some x→∃ r,(∃ v:Val,v.Fin∧r=v.row)∧a1e (gh0 w) w r cs:=by
 intro n
 induction n using Nat.strongRecOn with
 | ind n ih =>
  rintro t cs x rfl h
  obtain ⟨xs,m,rfl,_,hlen,hxs,hf⟩:=DataW.trod_struct Tryz.underlying42 h
  rw [c42] at hlen
  match cs,hlen with
  | [q0,q1,q2,q3,q4],_ =>
   have f0:DataW.trod enc Tryz.prog w base spare held m 5 ([q0].take 1)=xs[0]?:=by
    have:=hf 0 { name:= "Kind",type:=5,offset:=0,embedded:=false,tag:= "",pkgPath:= "",byteOffset:=0 } rfl
    dsimp only at this
    rw [c5] at this
    exact this
   have f1:DataW.trod enc Tryz.prog w base spare held m 2 ([q1].take 1)=xs[1]?:=by
    have:=hf 1 { name:= "N",type:=2,offset:=1,embedded:=false,tag:= "",pkgPath:= "",byteOffset:=8 } rfl
    dsimp only at this
    rw [c2] at this
    exact this
   have f2:DataW.trod enc Tryz.prog w base spare held m 9 ([q2].take 1)=xs[2]?:=by
    have:=hf 2 { name:= "S",type:=9,offset:=2,embedded:=false,tag:= "",pkgPath:= "",byteOffset:=16 } rfl
    dsimp only at this
    rw [c9] at this
    exact this
   have f3:DataW.trod enc Tryz.prog w base spare held m 39 ([q3].take 1)=xs[3]?:=by
    have:=hf 3 { name:= "K",type:=39,offset:=3,embedded:=false,tag:= "",pkgPath:= "",byteOffset:=32 } rfl
    dsimp only at this
    rw [c39] at this
    exact this
   have f4:DataW.trod enc Tryz.prog w base spare held m 40 ([q4].take 1)=xs[4]?:=by
    have:=hf 4 { name:= "L",type:=40,offset:=4,embedded:=false,tag:= "",pkgPath:= "",byteOffset:=56 } rfl
    dsimp only at this
    rw [c40] at this
    exact this
   have hsz:xs.length=5:=hxs
   rw [List.getElem?_eq_getElem (by omega)] at f0 f1 f2 f3 f4
   obtain ⟨k,e0,_,_⟩:=DataW.trod_int Tryz.underlying5 f0
   obtain ⟨i,e1,_,wi⟩:=DataW.trod_int Tryz.underlying2 f1
   obtain ⟨s,e2,_,_⟩:=DataW.trod_string Tryz.underlying9 f2
   obtain ⟨v3,ks,e3,o3,l3,h3,r3⟩:=a7x (R:=fun r=>∃ s,r=b9 s) Tryz.underlying39 (by rw [c9]; decide) (fun m' cs' y _ hy=>b0k hy) f3
   obtain ⟨v4,ls,e4,o4,l4,h4,r4⟩:=a7x (R:=fun r=>∃ v:Val,v.Fin∧r=v.row) Tryz.underlying40 (by rw [c42]; decide) (fun m' cs' y hm hy=>ih m' (by omega) 42 cs' y rfl hy) f4
   have e0:=(List.cons.inj (show [q0]=[_] from e0)).1
   have e1:=(List.cons.inj (show [q1]=[_] from e1)).1
   have e2:=(List.cons.inj (show [q2]=[_] from e2)).1
   have e3:=(List.cons.inj (show [q3]=[_] from e3)).1
   have e4:=(List.cons.inj (show [q4]=[_] from e4)).1
   subst e0; subst e1; subst e2; subst e3; subst e4
   obtain ⟨ss,rfl⟩:=b1M h3
   obtain ⟨vs,rfl,hvs⟩:=b2v h4
   refine ⟨_,⟨.mk k i (s.data.toList.map UInt8.toNat) ss vs,.mk _ _ _ _ _ (by simpa using l3) (by simpa using l4) fun v hv=>hvs v hv,(Val.row_eq _ _ _ _ _).symm⟩,?_,?_⟩
   · simp only [RelL]
     exact ⟨_,_,rfl,rfl,_,_,rfl,rfl,_,_,rfl,by simp only [Rel]; exact ⟨s,rfl,rfl⟩,_,_,rfl,r3,_,_,rfl,r4,rfl⟩
   · intro c hc
     simp only [List.mem_cons,List.not_mem_nil,or_false] at hc
     rcases hc with rfl|rfl|rfl|rfl|rfl <;> first|rfl|assumption
end

end Go.Proofs.YthnliekianmljaaGreatDoor
