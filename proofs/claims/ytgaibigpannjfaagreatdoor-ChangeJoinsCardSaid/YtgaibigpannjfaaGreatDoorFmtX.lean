import Derived.Test.YtgaibigpannjfaaGreatDoorFmtD
import Derived.Shelf.Strconv.Itoa4
set_option maxRecDepth 4000
set_option linter.all false
namespace Go.Cb
open Classical
theorem Ext.grow {g:Gh} {w:World} (i:∀ b f,g.cl b f→b < w.heap.size) (os:Array Go.Obj) (k:Nat):Ext g w g (Sort.grow (w.drewN k) os) :=
 ⟨Nat.le_refl _,fun _ _=>rfl,fun _ _=>rfl,fun _ _ h=>h,fun b f h=>by unfold World.cell? Sort.grow World.drewN;rw[Array.getElem?_append_left (i b f h)]⟩
theorem a9X {w:World} (os:Array Go.Obj) (k:Nat) {b:Nat} (i:b < w.heap.size):(Sort.grow (w.drewN k) os).heap[b]?=w.heap[b]?:=by unfold Sort.grow World.drewN;rw[Array.getElem?_append_left i]
theorem Tr.grow {g:Gh} {w:World} (A:Nat→Prop) (j:∀ b f,g.cl b f→b < w.heap.size) (os:Array Go.Obj) (k:Nat):Tr A g w g (Sort.grow (w.drewN k) os) :=
 ⟨Ext.grow j os k,by unfold Sort.grow World.drewN; simp,⟨rfl,rfl⟩,fun b i hs _=>⟨⟨a9X os k i,fun _ x=>x⟩,hs⟩⟩
theorem d1N {P:Program} {gi:Nat} {name:String} (hg:P.globalNamed name=some gi) {zs:List Int} {k:IntKind} {gt:List (Nat×List AV)} (hm:(gi,zs.map (AV.int k))∈gt) {g:Gh} {w:World} (h:Globs gt g w) (l:0 < zs.length):Lib.TabIs P w name k zs:=by
 obtain⟨B,G,t⟩:=h _ hm;simp only[List.length_map]at t;have key:∀ (zs:List Int) (f:Nat),RelCells g w gi f (zs.map (AV.int k))→∀ i,i < zs.length→w.cell? (ad gi (f+i))=(zs.map (Value.int k))[i]?:=by
  intro zs;induction zs with
  | nil=>intro f _ i hi; simp at hi
  | cons z zs F =>
   intro f h i hi;simp only[List.map_cons,RelCells]at h;obtain⟨⟨v,E,_,_,y⟩,C⟩:=h;simp only[Rel]at y;cases i with
   | zero=>rw[Nat.add_zero,E]; simp[y]
   | succ i =>have:=F (f+1) C i (by simpa using hi);rw[show f+(i+1)=f+1+i by omega,this];simp
 have hk:=key zs 0 B;unfold Lib.TabIs World.var?;rw[hg];simp only[Option.bind_some];have j:=hk 0 l;unfold World.cell? at j t hk;simp only[ad,Nat.zero_add,Option.isSome_none,Bool.false_eq_true,if_false]at j t hk;obtain⟨v0,u⟩:∃ v,(zs.map (Value.int k))[0]?=some v:=⟨_,List.getElem?_eq_getElem (by simpa using l)⟩
 cases x:w.heap[gi]? with
 | none=>rw[x,u]at j; cases j
 | some o =>
  rw[x]at j t hk;cases o with
  | cells cs T z =>
   simp only at j t hk ⊢;congr 1;apply Array.ext_getElem?;intro i;by_cases hi:i < zs.length
   · rw[hk i hi]; simp
   · have hs:cs.size≤zs.length:=by simpa using t
     rw[Array.getElem?_eq_none (by omega),Array.getElem?_eq_none (by simp; omega)]
  | _=>rw[u]at j; cases j
theorem d4O {P:Program} {gt:List (Nat×List AV)} {f gi:Nat} (hg:P.globalNamed "internal/strconv.uint64pow10"=some gi) (hm:(gi,Lib.pow10Tab.map (AV.int .u64))∈gt)
 (z:∀ (n:Int),-9223372036854775808≤n→n≤9223372036854775807→∀ w:World,Lib.TabIs P w "internal/strconv.uint64pow10" .u64 Lib.pow10Tab →
  Calls P f #[.int .i64 n,.int .i64 10] w fun e w'=>e=.returned (.string ⟨(Lib.itoa n).toArray⟩)∧∃ k os,w'=Sort.grow (w.drewN k) os):L9 P gt f a6M:=by
 intro args st res st' h u g w vs j l i;unfold a6M at h;split at h
 case h_2=>cases h
 rename_i n;split at h
 case isFalse=>cases h
 rename_i hn;simp only[Option.some.injEq,Prod.mk.injEq]at h;obtain⟨rfl,rfl⟩:=h;simp only[RelL,Rel]at i;obtain⟨_,_,rfl,rfl,_,_,rfl,rfl,rfl⟩:=i;refine(z n hn.1 hn.2 w (d1N hg hm l (by rw[Lib.pow10Tab_length]; decide))).mono fun e w' ⟨B,k,os,C⟩=>?_
 subst C;have t:=Tr.grow (w:=w) No j.cli os k;refine⟨_,g,B,j.evolve t.ext rfl t.size (fun b p y=>⟨y,a9X os k (j.inn b p y),fun _ x=>x⟩) (fun _ _ x=>x) (fun _ _ x=>.inl x),t,?_⟩;refine ValOK.mk' ?_ (by simp) (by simp);simp only[Rel];exact⟨_,rfl,by simp[c2l]⟩
end Go.Cb
