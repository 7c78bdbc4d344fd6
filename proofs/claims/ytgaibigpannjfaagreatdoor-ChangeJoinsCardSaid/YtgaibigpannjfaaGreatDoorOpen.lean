import Derived.Test.YtgaibigpannjfaaGreatDoorChecked
import Derived.Deep.Slices
import Derived.ProofKit
import Derived.Test.YtgaibigpannjfaaGreatDoorXAms3
set_option maxRecDepth 100000
set_option linter.all false
namespace Go.Cb
open Go Go.ChangeShapes Go.WideShapes
section
variable {H:Type} {enc:TypeId×Value→H} {P:Program} {w:World} {base:Nat} {spare:Nat→Bool} {held:Bool}
def a3E (g:Gh) (w:World) (r:List AV) (cs:List Value):Prop:=RelL g w r cs∧∀ c∈cs,c.oneCell'=true
theorem a5y {w:World} {b:Nat}:∀ {r:List AV} {cs:List Value} {f:Nat},a3E (gh0 w) w r cs→(∀ i,i < cs.length→w.cell? (ad b (f+i))=cs[i]?)→b < w.heap.size→RelCells (gh0 w) w b f r
 | [],_,_,_,_,_=>by simp[RelCells]
 | a::r,cs,f,h,hc,hb=>by obtain⟨t,u⟩:=h;simp only[RelL]at t;obtain⟨v,l,rfl,x,hl⟩:=t;simp only[RelCells];refine⟨⟨v,by have:=hc 0 (by simp); simpa using this,u v (by simp),hb,x⟩,a5y ⟨hl,fun c j=>u c (by simp[j])⟩ (fun i hi=>?_) hb⟩;have:=hc (i+1) (by simpa using hi);rw[show f+1+i=f+(i+1)by omega,this];simp
theorem a9j {a:Addr} (h:a.spot=none) (i:Nat):a.add i=ad a.block (a.off+i):=by
 unfold Addr.add;by_cases hi:i=0
 · subst hi; cases a; simp at h; simp[h]
 · simp[hi]
theorem b7m {w:World} {a:Addr} {v:Value} (h:w.cell? a=some v):a.block < w.heap.size∧a.spot=none:=by
 unfold World.cell? at h;split at h
 · rename_i c _ _ i;refine⟨(Array.getElem?_eq_some_iff.1 i).1,?_⟩;cases hs:a.spot with
   | none=>rfl
   | some x=>simp[hs]at h
 · cases h
theorem a9v {R:List AV→Prop} {Y:DataW H→Prop} {t e:TypeId} {n:Nat} {cs:List Value} {x:DataW H×List MemPlace} (ht:P.underlying t=some (.slice e)) (V:0 < P.cellsOf e)
 (O:∀ m j y,m < n→Y y.1→DataW.trod enc P w base spare held m e j=some y→∃ r,R r∧a3E (gh0 w) w r j)
 (h:DataW.trod enc P w base spare held n t cs=some x) (hY:∀ es sp,x.1=.slice es sp→∀ d∈es,Y d):∃ v rows,cs=[v]∧v.oneCell'=true∧rows.length < 2 ^ 63∧(∀ r∈rows,R r)∧Rel (gh0 w) w (.list false rows) v:=by
 rcases DataW.trod_slice ht h with⟨rfl,_⟩|⟨a,len,cap,J,rest,m,rfl,rfl,W,hb,hl,hm,a0,C,_,_⟩
 · exact⟨_,[],rfl,rfl,by decide,(by simp),by simp only[Rel]; exact⟨none,0,0,rfl,rfl,Nat.le_refl _,fun _=>rfl,fun h=>absurd rfl h⟩⟩
 have key:∀ i,i < len→∃ r j,R r∧a3E (gh0 w) w r j∧w.cells? base (a.add (i*P.cellsOf e)) (P.cellsOf e)=some j:=by intro i hi;have Z:=C i hi;rw[List.getElem?_eq_getElem (by omega)]at Z;obtain⟨j,B,I⟩:=Option.bind_eq_some_iff.1 Z;obtain⟨r,U,u⟩:=O m j _ (Nat.lt_succ_self m) (hY _ _ (by rw[W]) _ (List.mem_map_of_mem (List.getElem_mem _))) I;exact⟨r,j,U,u,B⟩
 obtain⟨F,M⟩:=Deep.choose_lt (α:=List AV) (p:=fun i r=>∃ j,R r∧a3E (gh0 w) w r j∧w.cells? base (a.add (i*P.cellsOf e)) (P.cellsOf e)=some j) key;refine⟨_,(List.range len).map F,rfl,rfl,by simp[maxLen]at hm ⊢; omega,fun r U=>?_,?_⟩
 · obtain⟨i,hi,rfl⟩:=List.mem_map.1 U;exact(M i (List.mem_range.1 hi)).choose_spec.1
 simp only[Rel];refine⟨some a,len,cap,rfl,by simp,hl,(fun h=>by cases h),fun S=>?_⟩;have G:0 < len:=by
  cases len with
  | zero=>simp at S
  | succ n=>omega
 have l:a.spot=none∧a.block < w.heap.size:=by obtain⟨j,_,_,B⟩:=M 0 G;obtain⟨_,E,N⟩:=World.cells?_some B;have X:=N 0 V;rw[List.getElem?_eq_getElem (by omega)]at X;have z:=b7m X;simp[Addr.add]at z;exact⟨z.2,z.1⟩
 refine⟨a.block,a.off,P.cellsOf e,?_,?_⟩
 · cases a; simp at l; simp[ad,l.1]
 · have L:∀ (k s:Nat),s+k≤len→RelRows (gh0 w) w a.block (a.off+s*P.cellsOf e) (P.cellsOf e) ((List.range' s k).map F):=by
    intro k;induction k with
    | zero=>intro s _; simp[RelRows]
    | succ k ih =>
     intro s hs;rw[List.range'_succ,List.map_cons];simp only[RelRows];obtain⟨j,_,u,B⟩:=M s (by omega);obtain⟨_,E,N⟩:=World.cells?_some B;refine⟨by rw[u.1.length,E],a5y u (fun i hi=>?_) l.2,?_⟩
     · have I:=N i (by omega);rw[a9j l.1,a9j (by simp) i]at I;exact I
     · have h4:=ih (s+1) (by omega);rw[Nat.succ_mul,← Nat.add_assoc]at h4;exact h4
   have h5:=L len 0 (by omega);rw[Nat.zero_mul,Nat.add_zero,← List.range_eq_range']at h5;exact h5
end
end Go.Cb
