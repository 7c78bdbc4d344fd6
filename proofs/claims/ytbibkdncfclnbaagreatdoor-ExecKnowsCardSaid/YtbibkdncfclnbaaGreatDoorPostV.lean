import Derived.ChangeSame
set_option linter.all false
namespace Go.ChangeShapes
open Go.WideShapes
section
variable {H:Type} {enc:TypeId×Value→H} {P:Program}
theorem b0A {f:Func} {s:ChangeSpec} {apart fresh handsOn again:Bool} {W C:World} {args:Array Value} {v:Value} {ds gs:List (DataW H)} {before pa pv:List MemPlace}
 (M:DataW.Whole enc P f.params.toList s.vars apart W args.toList ds gs before)
 (z:∀ (b:Nat) (I:Nat→Bool) (U:Bool),DataW.TrodAll enc P C b I U f.resultTypes.toList (v.resultList f.resultTypes.size) (s.fn H (ds++gs)).results [])
 (e:∀ I:Nat→Bool,(∀ p∈before,I p.block=true)→DataW.TrodAll enc P C 0 I true f.params.toList args.toList (s.fn H (ds++gs)).args pa)
 (l:∀ I:Nat→Bool,(∀ p∈before,I p.block=true)→DataW.TrodVars enc P C I s.vars (s.fn H (ds++gs)).vars pv)
 (x:before=pa++pv) (Y:W.keptBut C (·∈before)) (N:∀ a:Addr,a.block < W.heap.size→C.frozen? a=W.frozen? a)
 (O:∀ (j:Nat) (t:TypeId) (r:Value),f.resultTypes[j]?=some t→(v.resultList f.resultTypes.size)[j]?=some r→Value.okWide P C .any 0 t r) :
 s.post enc P f apart fresh handsOn again W args v C:=by
 have J:=M.lt;have y:∀ p∈before,(fun b=>decide (b < W.heap.size)) p.block=true:=fun p u=>by simpa using J p u
 refine⟨ds,gs,before,[],pa,pv,M,z _ _ _,e _ y,l _ y,World.keptBut_mono (fun p u=>⟨u,?_⟩) Y,fun _=>?_⟩
 · rw[x,List.mem_append]at u;exact Or.inr u
 · obtain⟨_,_,_,_,_,hz,Z⟩:=M;refine⟨O,_,_,([]++pa)++pv,⟨[]++pa,pv,trodAll_append (e _ (fun _ _=>rfl)) (z _ _ _),l _ (fun _ _=>rfl),rfl,?_,?_⟩,?_⟩
   · intro b off u;have L:MemPlace.cell b off∈before:=by rw[x]; simpa using u
     rw[N _ (J _ L)];exact hz b off L
   · intro T;have:=Z T;rw[x]at this;simpa using this
   · intro p u _;rw[x];simpa using u
end
end Go.ChangeShapes
