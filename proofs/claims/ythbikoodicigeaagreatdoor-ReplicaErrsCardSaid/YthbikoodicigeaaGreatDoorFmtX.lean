/-
 strconv.FormatInt at base 10, by the library's contract.
-/
import Derived.Test.YthbikoodicigeaaGreatDoorFmtD
import Derived.Shelf.Strconv.Itoa4
set_option maxRecDepth 4000
set_option linter.unusedSimpArgs false
set_option linter.unusedVariables false
namespace Go.Cb
open Classical

/-- new blocks behind the heap touch nothing -/
theorem Ext.grow {g:Gh} {w:World} (hc:∀ b f,g.cl b f→b < w.heap.size) (os:Array Go.Obj) (k:Nat):Ext g w g (Sort.grow (w.drewN k) os) :=
 ⟨Nat.le_refl _,fun _ _=>rfl,fun _ _=>rfl,fun _ _ h=>h,fun b f h=>by
  unfold World.cell? Sort.grow World.drewN
  rw [Array.getElem?_append_left (hc b f h)]⟩
theorem grow_old {w:World} (os:Array Go.Obj) (k:Nat) {b:Nat} (hb:b < w.heap.size):(Sort.grow (w.drewN k) os).heap[b]?=w.heap[b]?:=by
 unfold Sort.grow World.drewN
 rw [Array.getElem?_append_left hb]
theorem Tr.grow {g:Gh} {w:World} (A:Nat→Prop) (hc:∀ b f,g.cl b f→b < w.heap.size) (os:Array Go.Obj) (k:Nat):Tr A g w g (Sort.grow (w.drewN k) os) :=
 ⟨Ext.grow hc os k,by unfold Sort.grow World.drewN; simp,⟨rfl,rfl⟩,fun b hb hs _=>⟨⟨grow_old os k hb,fun _ x=>x⟩,hs⟩⟩

theorem tab_of {P:Program} {gi:Nat} {name:String} (hg:P.globalNamed name=some gi) {zs:List Int} {k:IntKind} {gt:List (Nat×List AV)} (hm:(gi,zs.map (AV.int k))∈gt) {g:Gh} {w:World} (h:Globs gt g w) (hpos:0 < zs.length):Lib.TabIs P w name k zs:=by
 obtain ⟨h1,h2,h3⟩:=h _ hm
 simp only [List.length_map] at h3
 have key:∀ (zs:List Int) (f:Nat),RelCells g w gi f (zs.map (AV.int k))→∀ i,i < zs.length→w.cell? (ad gi (f+i))=(zs.map (Value.int k))[i]?:=by
  intro zs
  induction zs with
  | nil=>intro f _ i hi; simp at hi
  | cons z zs ih =>
   intro f h i hi
   simp only [List.map_cons,RelCells] at h
   obtain ⟨⟨v,hv,_,_,hr⟩,ht⟩:=h
   simp only [Rel] at hr
   cases i with
   | zero=>rw [Nat.add_zero,hv]; simp [hr]
   | succ i =>
    have:=ih (f+1) ht i (by simpa using hi)
    rw [show f+(i+1)=f+1+i by omega,this]
    simp
 have hk:=key zs 0 h1
 unfold Lib.TabIs World.var?
 rw [hg]
 simp only [Option.bind_some]
 have h0:=hk 0 hpos
 unfold World.cell? at h0 h3 hk
 simp only [ad,Nat.zero_add,Option.isSome_none,Bool.false_eq_true,if_false] at h0 h3 hk
 obtain ⟨v0,hne⟩:∃ v,(zs.map (Value.int k))[0]?=some v:=⟨_,List.getElem?_eq_getElem (by simpa using hpos)⟩
 cases hq:w.heap[gi]? with
 | none=>rw [hq,hne] at h0; cases h0
 | some o =>
  rw [hq] at h0 h3 hk
  cases o with
  | cells cs T z =>
   simp only at h0 h3 hk ⊢
   congr 1
   apply Array.ext_getElem?
   intro i
   by_cases hi:i < zs.length
   · rw [hk i hi]; simp
   · have hs:cs.size≤zs.length:=by simpa using h3
     rw [Array.getElem?_eq_none (by omega),Array.getElem?_eq_none (by simp; omega)]
  | _=>rw [hne] at h0; cases h0

theorem fmt_ok {P:Program} {gt:List (Nat×List AV)} {f gi:Nat} (hg:P.globalNamed "internal/strconv.uint64pow10"=some gi) (hm:(gi,Lib.pow10Tab.map (AV.int .u64))∈gt)
 (hc:∀ (n:Int),-9223372036854775808≤n→n≤9223372036854775807→∀ w:World,Lib.TabIs P w "internal/strconv.uint64pow10" .u64 Lib.pow10Tab →
  Calls P f #[.int .i64 n,.int .i64 10] w fun e w'=>e=.returned (.string ⟨(Lib.itoa n).toArray⟩)∧∃ k os,w'=Sort.grow (w.drewN k) os):ExtOK P gt f fmtX:=by
 intro args st res st' h hweak g w vs hst hgl hrel
 unfold fmtX at h
 split at h
 case h_2=>cases h
 rename_i n
 split at h
 case isFalse=>cases h
 rename_i hn
 simp only [Option.some.injEq,Prod.mk.injEq] at h
 obtain ⟨rfl,rfl⟩:=h
 simp only [RelL,Rel] at hrel
 obtain ⟨_,_,rfl,rfl,_,_,rfl,rfl,rfl⟩:=hrel
 refine (hc n hn.1 hn.2 w (tab_of hg hm hgl (by rw [Lib.pow10Tab_length]; decide))).mono fun e w' ⟨he,k,os,hw⟩=>?_
 subst hw
 have ht:=Tr.grow (w:=w) No hst.cli os k
 refine ⟨_,g,he,hst.evolve ht.ext rfl ht.size (fun b p hb=>⟨hb,grow_old os k (hst.inn b p hb),fun _ x=>x⟩) (fun _ _ x=>x) (fun _ _ x=>.inl x),ht,?_⟩
 refine ValOK.mk' ?_ (by simp) (by simp)
 simp only [Rel]
 exact ⟨_,rfl,by simp [itoaN]⟩
end Go.Cb
