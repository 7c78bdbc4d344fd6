import Derived.Test.YtbibkdncfclnbaaGreatDoorChecked
import Derived.Deep.Slices
import Derived.ProofKit
import Derived.Test.YtbibkdncfclnbaaGreatDoorXAms3
set_option maxRecDepth 100000
set_option linter.all false
namespace Go.Cb
open Go Go.ChangeShapes Go.WideShapes
section
variable {H:Type} {enc:TypeId×Value→H} {P:Program} {w:World} {base:Nat} {spare:Nat→Bool} {held:Bool}
def a3Z (g:Gh) (w:World) (r:List AV) (cs:List Value):Prop:=RelL g w r cs∧∀ c∈cs,c.oneCell'=true
theorem a5f {w:World} {b:Nat}:∀ {r:List AV} {cs:List Value} {f:Nat},a3Z (gh0 w) w r cs→(∀ i,i < cs.length→w.cell? (ad b (f+i))=cs[i]?)→b < w.heap.size→RelCells (gh0 w) w b f r
 | [],_,_,_,_,_=>by simp[RelCells]
 | a::r,cs,f,h,hc,hb=>by obtain⟨t,u⟩:=h;simp only[RelL]at t;obtain⟨v,l,rfl,x,y⟩:=t;simp only[RelCells];refine⟨⟨v,by have:=hc 0 (by simp); simpa using this,u v (by simp),hb,x⟩,a5f ⟨y,fun c e=>u c (by simp[e])⟩ (fun i hi=>?_) hb⟩;have:=hc (i+1) (by simpa using hi);rw[show f+1+i=f+(i+1)by omega,this];simp
theorem b0x {a:Addr} (h:a.spot=none) (i:Nat):a.add i=ad a.block (a.off+i):=by
 unfold Addr.add;by_cases hi:i=0
 · subst hi; cases a; simp at h; simp[h]
 · simp[hi]
theorem b8x {w:World} {a:Addr} {v:Value} (h:w.cell? a=some v):a.block < w.heap.size∧a.spot=none:=by
 unfold World.cell? at h;split at h
 · rename_i c _ _ e;refine⟨(Array.getElem?_eq_some_iff.1 e).1,?_⟩;cases l:a.spot with
   | none=>rfl
   | some x=>simp[l]at h
 · cases h
theorem a9Z {R:List AV→Prop} {Y:DataW H→Prop} {t e:TypeId} {n:Nat} {cs:List Value} {x:DataW H×List MemPlace} (ht:P.underlying t=some (.slice e)) (a1:0 < P.cellsOf e)
 (Z:∀ m l y,m < n→Y y.1→DataW.trod enc P w base spare held m e l=some y→∃ r,R r∧a3Z (gh0 w) w r l)
 (h:DataW.trod enc P w base spare held n t cs=some x) (hY:∀ es sp,x.1=.slice es sp→∀ d∈es,Y d):∃ v rows,cs=[v]∧v.oneCell'=true∧rows.length < 2 ^ 63∧(∀ r∈rows,R r)∧Rel (gh0 w) w (.list false rows) v:=by
 rcases DataW.trod_slice ht h with⟨rfl,_⟩|⟨a,len,cap,O,rest,m,rfl,rfl,a2,hb,hl,hm,a4,J,_,_⟩
 · exact⟨_,[],rfl,rfl,by decide,(by simp),by simp only[Rel]; exact⟨none,0,0,rfl,rfl,Nat.le_refl _,fun _=>rfl,fun h=>absurd rfl h⟩⟩
 have key:∀ i,i < len→∃ r l,R r∧a3Z (gh0 w) w r l∧w.cells? base (a.add (i*P.cellsOf e)) (P.cellsOf e)=some l:=by intro i hi;have h1:=J i hi;rw[List.getElem?_eq_getElem (by omega)]at h1;obtain⟨l,I,N⟩:=Option.bind_eq_some_iff.1 h1;obtain⟨r,hr,z⟩:=Z m l _ (Nat.lt_succ_self m) (hY _ _ (by rw[a2]) _ (List.mem_map_of_mem (List.getElem_mem _))) N;exact⟨r,l,hr,z,I⟩
 obtain⟨F,U⟩:=Deep.choose_lt (α:=List AV) (p:=fun i r=>∃ l,R r∧a3Z (gh0 w) w r l∧w.cells? base (a.add (i*P.cellsOf e)) (P.cellsOf e)=some l) key;refine⟨_,(List.range len).map F,rfl,rfl,by simp[maxLen]at hm ⊢; omega,fun r hr=>?_,?_⟩
 · obtain⟨i,hi,rfl⟩:=List.mem_map.1 hr;exact(U i (List.mem_range.1 hi)).choose_spec.1
 simp only[Rel];refine⟨some a,len,cap,rfl,by simp,hl,(fun h=>by cases h),fun a0=>?_⟩;have M:0 < len:=by
  cases len with
  | zero=>simp at a0
  | succ n=>omega
 have u:a.spot=none∧a.block < w.heap.size:=by obtain⟨l,_,_,I⟩:=U 0 M;obtain⟨_,L,W⟩:=World.cells?_some I;have h0:=W 0 a1;rw[List.getElem?_eq_getElem (by omega)]at h0;have C:=b8x h0;simp[Addr.add]at C;exact⟨C.2,C.1⟩
 refine⟨a.block,a.off,P.cellsOf e,?_,?_⟩
 · cases a; simp at u; simp[ad,u.1]
 · have T:∀ (k s:Nat),s+k≤len→RelRows (gh0 w) w a.block (a.off+s*P.cellsOf e) (P.cellsOf e) ((List.range' s k).map F):=by
    intro k;induction k with
    | zero=>intro s _; simp[RelRows]
    | succ k ih =>
     intro s hs;rw[List.range'_succ,List.map_cons];simp only[RelRows];obtain⟨l,_,z,I⟩:=U s (by omega);obtain⟨_,L,W⟩:=World.cells?_some I;refine⟨by rw[z.1.length,L],a5f z (fun i hi=>?_) u.2,?_⟩
     · have N:=W i (by omega);rw[b0x u.1,b0x (by simp) i]at N;exact N
     · have h4:=ih (s+1) (by omega);rw[Nat.succ_mul,← Nat.add_assoc]at h4;exact h4
   have h5:=T len 0 (by omega);rw[Nat.zero_mul,Nat.add_zero,← List.range_eq_range']at h5;exact h5
end
end Go.Cb
