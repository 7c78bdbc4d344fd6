import Derived.ChangeSame
set_option linter.all false
namespace Go.ChangeShapes
open Go.WideShapes
section
variable {H:Type} {enc:TypeId×Value→H} {P:Program}
theorem a9G {f:Func} {s:ChangeSpec} {apart fresh handsOn again:Bool} {W B:World} {args:Array Value} {v:Value} {C gs:List (DataW H)} {before pa pv:List MemPlace}
 (G:DataW.Whole enc P f.params.toList s.vars apart W args.toList C gs before)
 (z:∀ (b:Nat) (sp:Nat→Bool) (M:Bool),DataW.TrodAll enc P B b sp M f.resultTypes.toList (v.resultList f.resultTypes.size) (s.fn H (C++gs)).results [])
 (i:∀ sp:Nat→Bool,(∀ p∈before,sp p.block=true)→DataW.TrodAll enc P B 0 sp true f.params.toList args.toList (s.fn H (C++gs)).args pa)
 (l:∀ sp:Nat→Bool,(∀ p∈before,sp p.block=true)→DataW.TrodVars enc P B sp s.vars (s.fn H (C++gs)).vars pv)
 (x:before=pa++pv) (hk:W.keptBut B (·∈before)) (I:∀ a:Addr,a.block < W.heap.size→B.frozen? a=W.frozen? a)
 (J:∀ (j:Nat) (t:TypeId) (r:Value),f.resultTypes[j]?=some t→(v.resultList f.resultTypes.size)[j]?=some r→Value.okWide P B .any 0 t r) :
 s.post enc P f apart fresh handsOn again W args v B:=by
 have E:=G.lt;have y:∀ p∈before,(fun b=>decide (b < W.heap.size)) p.block=true:=fun p u=>by simpa using E p u
 refine⟨C,gs,before,[],pa,pv,G,z _ _ _,i _ y,l _ y,World.keptBut_mono (fun p u=>⟨u,?_⟩) hk,fun _=>?_⟩
 · rw[x,List.mem_append]at u;exact Or.inr u
 · obtain⟨_,_,_,_,_,N,hn⟩:=G;refine⟨J,_,_,([]++pa)++pv,⟨[]++pa,pv,trodAll_append (i _ (fun _ _=>rfl)) (z _ _ _),l _ (fun _ _=>rfl),rfl,?_,?_⟩,?_⟩
   · intro b off u;have F:MemPlace.cell b off∈before:=by rw[x]; simpa using u
     rw[I _ (E _ F)];exact N b off F
   · intro L;have:=hn L;rw[x]at this;simpa using this
   · intro p u _;rw[x];simpa using u
end
end Go.ChangeShapes
