import Derived.Test.YtbibkdncfclnbaaGreatDoorFmtD
import Derived.Shelf.Strconv.Itoa4
set_option maxRecDepth 4000
set_option linter.all false
namespace Go.Cb
open Classical
theorem Ext.grow {g:Gh} {w:World} (e:∀ b f,g.cl b f→b < w.heap.size) (os:Array Go.Obj) (k:Nat):Ext g w g (Sort.grow (w.drewN k) os) :=
 ⟨AK _,fun _ _=>rfl,fun _ _=>rfl,fun _ _ h=>h,fun b f h=>by unfold World.cell? Sort.grow World.drewN;rw[Array.getElem?_append_left (e b f h)]⟩
theorem a6O {w:World} (os:Array Go.Obj) (k:Nat) {b:Nat} (e:b < w.heap.size):(Sort.grow (w.drewN k) os).heap[b]?=w.heap[b]?:=by unfold Sort.grow World.drewN;rw[Array.getElem?_append_left e]
theorem Tr.grow {g:Gh} {w:World} (A:Nat→Prop) (t:∀ b f,g.cl b f→b < w.heap.size) (os:Array Go.Obj) (k:Nat):Tr A g w g (Sort.grow (w.drewN k) os) :=
 ⟨Ext.grow t os k,by unfold Sort.grow World.drewN; simp,⟨rfl,rfl,fun a e=>by unfold World.frozen?; rw[a6O os k e]⟩,fun b l u _=>⟨⟨a6O os k l,fun _ x=>x⟩,u⟩⟩
theorem c7x {P:Program} {gi:Nat} {name:String} (J:P.globalNamed name=some gi) {zs:List Int} {k:IntKind} {gt:List (Nat×List AV)} (L:(gi,zs.map (AV.int k))∈gt) {g:Gh} {w:World} (h:Globs gt g w) (l:0 < zs.length):Lib.TabIs P w name k zs:=by
 obtain⟨I,U,t⟩:=h _ L;simp only[AG]at t;have key:∀ (zs:List Int) (f:Nat),RelCells g w gi f (zs.map (AV.int k))→∀ i,i < zs.length→w.cell? (ad gi (f+i))=(zs.map (Value.int k))[i]?:=by
  intro zs;induction zs with
  | nil=>intro f _ i hi; simp at hi
  | cons z zs O =>
   intro f h i hi;simp only[AH,RelCells]at h;obtain⟨⟨v,N,_,_,C⟩,M⟩:=h;simp only[Rel]at C;cases i with
   | zero=>rw[Nat.add_zero,N]; simp[C]
   | succ i =>have:=O (f+1) M i (by simpa using hi);rw[show f+(i+1)=f+1+i by omega,this];simp
 have u:=key zs 0 I;unfold Lib.TabIs World.var?;rw[J];simp only[Option.bind_some];have e:=u 0 l;unfold World.cell? at e t u;simp only[ad,Nat.zero_add,Option.isSome_none,Bool.false_eq_true,if_false]at e t u;obtain⟨v0,x⟩:∃ v,(zs.map (Value.int k))[0]?=some v:=⟨_,AE (by simpa using l)⟩
 cases y:w.heap[gi]? with
 | none=>rw[y,x]at e; cases e
 | some o =>
  rw[y]at e t u;cases o with
  | cells cs T z =>
   simp only at e t u ⊢;congr 1;apply Array.ext_getElem?;intro i;by_cases hi:i < zs.length
   · rw[u i hi]; simp
   · have W:cs.size≤zs.length:=by simpa using t
     rw[Array.getElem?_eq_none (by omega),Array.getElem?_eq_none (by simp; omega)]
  | _=>rw[x]at e; cases e
theorem d0p {P:Program} {gt:List (Nat×List AV)} {f gi:Nat} (L:P.globalNamed "internal/strconv.uint64pow10"=some gi) (M:(gi,Lib.pow10Tab.map (AV.int .u64))∈gt)
 (I:∀ (n:Int),-9223372036854775808≤n→n≤9223372036854775807→∀ w:World,Lib.TabIs P w "internal/strconv.uint64pow10" .u64 Lib.pow10Tab →
  Calls P f #[.int .i64 n,.int .i64 10] w fun e w'=>e=.returned (.string ⟨(Lib.itoa n).toArray⟩)∧∃ k os,w'=Sort.grow (w.drewN k) os):Z6 P gt f a8F:=by
 intro args st res st' h y g w vs t u l;unfold a8F at h;split at h
 case h_2=>cases h
 rename_i n;split at h
 case isFalse=>cases h
 rename_i C;simp only[AD,AJ]at h;obtain⟨rfl,rfl⟩:=h;simp only[RelL,Rel]at l;obtain⟨_,_,rfl,rfl,_,_,rfl,rfl,rfl⟩:=l;refine(I n C.1 C.2 w (c7x L M u (by rw[Lib.pow10Tab_length]; decide))).mono fun e w' ⟨J,k,os,N⟩=>?_
 subst N;have v:=Tr.grow (w:=w) No t.cli os k;refine⟨_,g,J,t.evolve v.ext rfl v.size (fun b p z=>⟨z,a6O os k (t.inn b p z),fun _ x=>x⟩) (fun _ _ x=>x) (fun _ _ x=>.inl x),v,?_⟩;refine ValOK.mk' ?_ (by simp) (by simp);simp only[Rel];exact⟨_,rfl,by simp[L0]⟩
end Go.Cb
