import Derived.Test.YthbikoodicigeaaGreatDoorChecked
import Derived.Deep.Slices
import Derived.ProofKit
import Derived.Test.YthbikoodicigeaaGreatDoorXAms4
/-
 Opening arguments into rows of the abstract machine.
-/
set_option maxRecDepth 100000
set_option linter.unusedVariables false
namespace Go.Cb
open Go Go.ChangeShapes Go.WideShapes

section
variable {H:Type} {enc:TypeId×Value→H} {P:Program} {w:World} {base:Nat} {spare:Nat→Bool} {held:Bool}

/-- cells that stand for a row -/
def RowRel (g:Gh) (w:World) (r:List AV) (cs:List Value):Prop:=RelL g w r cs∧∀ c∈cs,c.oneCell'=true

theorem cells_of_row {w:World} {b:Nat}:∀ {r:List AV} {cs:List Value} {f:Nat},RowRel (gh0 w) w r cs→(∀ i,i < cs.length→w.cell? (ad b (f+i))=cs[i]?)→b < w.heap.size→RelCells (gh0 w) w b f r
 | [],_,_,_,_,_=>by simp [RelCells]
 | a::r,cs,f,h,hc,hb=>by
  obtain ⟨h1,h2⟩:=h
  simp only [RelL] at h1
  obtain ⟨v,l,rfl,ha,hl⟩:=h1
  simp only [RelCells]
  refine ⟨⟨v,by have:=hc 0 (by simp); simpa using this,h2 v (by simp),hb,ha⟩,cells_of_row ⟨hl,fun c hc'=>h2 c (by simp [hc'])⟩ (fun i hi=>?_) hb⟩
  have:=hc (i+1) (by simpa using hi)
  rw [show f+1+i=f+(i+1) by omega,this]
  simp

theorem add_plain {a:Addr} (h:a.spot=none) (i:Nat):a.add i=ad a.block (a.off+i):=by
 unfold Addr.add
 by_cases hi:i=0
 · subst hi; cases a; simp at h; simp [h]
 · simp [hi]

theorem cell_heap {w:World} {a:Addr} {v:Value} (h:w.cell? a=some v):a.block < w.heap.size∧a.spot=none:=by
 unfold World.cell? at h
 split at h
 · rename_i c _ _ hq
   refine ⟨(Array.getElem?_eq_some_iff.1 hq).1,?_⟩
   cases hs:a.spot with
   | none=>rfl
   | some x=>simp [hs] at h
 · cases h

/-- a slice whose elements open into rows of a sort opens into a list of such rows -/
theorem open_rows {R:List AV→Prop} {t e:TypeId} {n:Nat} {cs:List Value} {x:DataW H×List MemPlace} (ht:P.underlying t=some (.slice e)) (hsz:0 < P.cellsOf e)
 (hel:∀ m cs' y,m < n→DataW.trod enc P w base spare held m e cs'=some y→∃ r,R r∧RowRel (gh0 w) w r cs')
 (h:DataW.trod enc P w base spare held n t cs=some x):∃ v rows,cs=[v]∧v.oneCell'=true∧rows.length < 2 ^ 63∧(∀ r∈rows,R r)∧Rel (gh0 w) w (.list false rows) v:=by
 rcases DataW.trod_slice ht h with ⟨rfl,_⟩|⟨a,len,cap,elems,rest,m,rfl,rfl,_,hb,hl,hm,hlen,hel',_,_⟩
 · exact ⟨_,[],rfl,rfl,by decide,(by simp),by simp only [Rel]; exact ⟨none,0,0,rfl,rfl,Nat.le_refl _,fun _=>rfl,fun h=>absurd rfl h⟩⟩
 have key:∀ i,i < len→∃ r cs',R r∧RowRel (gh0 w) w r cs'∧w.cells? base (a.add (i*P.cellsOf e)) (P.cellsOf e)=some cs':=by
  intro i hi
  have h1:=hel' i hi
  rw [List.getElem?_eq_getElem (by omega)] at h1
  obtain ⟨cs',h2,h3⟩:=Option.bind_eq_some_iff.1 h1
  obtain ⟨r,hr,hrel⟩:=hel m cs' _ (Nat.lt_succ_self m) h3
  exact ⟨r,cs',hr,hrel,h2⟩
 obtain ⟨F,hF⟩:=Deep.choose_lt (α:=List AV) (p:=fun i r=>∃ cs',R r∧RowRel (gh0 w) w r cs'∧w.cells? base (a.add (i*P.cellsOf e)) (P.cellsOf e)=some cs') key
 refine ⟨_,(List.range len).map F,rfl,rfl,by simp [maxLen] at hm ⊢; omega,fun r hr=>?_,?_⟩
 · obtain ⟨i,hi,rfl⟩:=List.mem_map.1 hr
   exact (hF i (List.mem_range.1 hi)).choose_spec.1
 simp only [Rel]
 refine ⟨some a,len,cap,rfl,by simp,hl,(fun h=>by cases h),fun hne=>?_⟩
 have hpos:0 < len:=by
  cases len with
  | zero=>simp at hne
  | succ n=>omega
 have hplain:a.spot=none∧a.block < w.heap.size:=by
  obtain ⟨cs',_,_,h2⟩:=hF 0 hpos
  obtain ⟨_,hl',hc⟩:=World.cells?_some h2
  have h0:=hc 0 hsz
  rw [List.getElem?_eq_getElem (by omega)] at h0
  have h0':=cell_heap h0
  simp [Addr.add] at h0'
  exact ⟨h0'.2,h0'.1⟩
 refine ⟨a.block,a.off,P.cellsOf e,?_,?_⟩
 · cases a; simp at hplain; simp [ad,hplain.1]
 · have gen:∀ (k s:Nat),s+k≤len→RelRows (gh0 w) w a.block (a.off+s*P.cellsOf e) (P.cellsOf e) ((List.range' s k).map F):=by
    intro k
    induction k with
    | zero=>intro s _; simp [RelRows]
    | succ k ih =>
     intro s hs
     rw [List.range'_succ,List.map_cons]
     simp only [RelRows]
     obtain ⟨cs',_,hrel,h2⟩:=hF s (by omega)
     obtain ⟨_,hl',hc⟩:=World.cells?_some h2
     refine ⟨by rw [hrel.1.length,hl'],cells_of_row hrel (fun i hi=>?_) hplain.2,?_⟩
     · have h3:=hc i (by omega)
       rw [add_plain hplain.1,add_plain (by simp) i] at h3
       exact h3
     · have h4:=ih (s+1) (by omega)
       rw [Nat.succ_mul,← Nat.add_assoc] at h4
       exact h4
   have h5:=gen len 0 (by omega)
   rw [Nat.zero_mul,Nat.add_zero,← List.range_eq_range'] at h5
   exact h5
end
end Go.Cb
