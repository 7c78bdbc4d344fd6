import Derived.Test.YtbanbicfopmcbaaGreatDoorV5
import Derived.Test.YtbanbicfopmcbaaGreatDoorV0b
set_option maxRecDepth 20000
set_option linter.unusedSimpArgs false
set_option linter.unusedVariables false
namespace Go.Cb.CodeA
open Go Go.Cb
attribute [local congr] N7 P5 V5 U5 Q8 Q1 Z1 a0e V.runR_congr
theorem a7O {n n2:Nat} {ver:Int} (h:n≤n2):gr n2 ver n=[]:=by
 unfold gr
 rw [List.map_eq_nil_iff,List.filter_eq_nil_iff]
 intro i hi
 have:=List.mem_range.1 hi
 rw [Nat.ble_eq]; omega
theorem b9m {ver:Int}:gr 2 ver 3=[L4 ver 2]:=rfl
theorem b1H (vs:List Int) (x:Int):n9 vs++[L4 x 2]=n9 (vs++[x]):=by unfold n9; rw [List.map_append]; rfl
theorem a4B {vs:List Int}:∀ r∈n9 vs,∃ s t x,r=[.str s,.str t,.int .u64 x]:=fun r hr=>by
 obtain ⟨x,_,rfl⟩:=List.mem_map.1 hr
 exact ⟨_,_,_,rfl⟩
theorem a1B (vs:List Int):(n9 vs).length=vs.length:=by unfold n9; rw [List.length_map]
/-- the versions in which the first i went, all of them; those that are known still; what stands as floor -/
def P9 (k i:Nat):List Int:=(List.range i).map fun j=>((2*k+2*j+2:Nat):Int)
def vsK (k i:Nat):List Int:=(P9 k i).drop (i - 40)
def flK (k i:Nat):Int:=if 40 < i then ((2*k+2*(i - 40):Nat):Int) else 0
theorem a4v (k i:Nat):(P9 k i).length=i:=by unfold P9; rw [List.length_map,List.length_range]
theorem a9U (k i:Nat):P9 k (i+1)=P9 k i++[((2*k+2*i+2:Nat):Int)]:=by unfold P9; rw [List.range_succ,List.map_append]; rfl
theorem Y2 (k i:Nat):(vsK k i).length=i - (i - 40):=by unfold vsK; rw [List.length_drop,a4v]
theorem b3y (k i:Nat):(vsK k i++[((2*k+2*i+2:Nat):Int)]).drop ((vsK k i++[((2*k+2*i+2:Nat):Int)]).length - 40)=vsK k (i+1):=by
 rw [List.length_append,Y2,List.length_singleton]
 unfold vsK
 rw [a9U]
 have h1:i - 40≤(P9 k i).length:=by rw [a4v]; omega
 rw [← List.drop_append_of_le_length h1,List.drop_drop]
 congr 1
 omega
theorem b3f (k i:Nat):flo (flK k i) (n9 (vsK k i++[((2*k+2*i+2:Nat):Int)])) ((vsK k i++[((2*k+2*i+2:Nat):Int)]).length - 40)=flK k (i+1):=by
 rw [List.length_append,Y2,List.length_singleton]
 by_cases h:i < 40
 · rw [show i - (i - 40)+1 - 40=0 by omega]
   show flK k i=_
   unfold flK
   rw [if_neg (by omega),if_neg (by omega)]
 · rw [show i - (i - 40)+1 - 40=0+1 by omega]
   have h2:(vsK k i++[((2*k+2*i+2:Nat):Int)])[0]?=some (((2*k+2*(i - 40)+2:Nat):Int)):=by
    rw [List.getElem?_append_left (by rw [Y2]; omega)]
    unfold vsK P9
    rw [List.getElem?_drop,List.getElem?_map,List.getElem?_range (by omega)]
    simp
   have h3:(n9 (vsK k i++[((2*k+2*i+2:Nat):Int)]))[0]?=some (L4 ((2*k+2*(i - 40)+2:Nat):Int) 2):=by
    unfold n9
    rw [List.getElem?_map,h2]; rfl
   rw [b5i h3]
   unfold flK
   rw [if_pos (by omega)]
   congr 1
   omega
theorem b8D {k q:Nat} (hq:2*k≤q∧q≤4*k) (h0:0 < q):I6 (vsK k k) (q:Int)=decide (q < 4*k):=by
 unfold I6
 rw [show ltI 0 (q:Int)=true by rw [ltI_eq]; exact decide_eq_true (by omega),Bool.true_and]
 by_cases h:q < 4*k
 · rw [decide_eq_true h,List.any_eq_true]
   refine ⟨((4*k:Nat):Int),?_,by rw [ltI_eq]; exact decide_eq_true (by omega)⟩
   have hl:(P9 k k)[k - 1]?=some ((4*k:Nat):Int):=by
    unfold P9
    rw [List.getElem?_map,List.getElem?_range (by omega)]
    simp
    omega
   have h2:(vsK k k)[k - 1 - (k - 40)]?=some ((4*k:Nat):Int):=by
    unfold vsK
    rw [List.getElem?_drop,show k - 40+(k - 1 - (k - 40))=k - 1 by omega,hl]
   exact List.mem_of_getElem? h2
 · rw [decide_eq_false h,← Bool.not_eq_true,List.any_eq_true]
   rintro ⟨x,hx,hlt⟩
   have hx:=List.mem_of_mem_drop hx
   unfold P9 at hx
   obtain ⟨j,hj,rfl⟩:=List.mem_map.1 hx
   have:=List.mem_range.1 hj
   rw [ltI_eq] at hlt
   have:=of_decide_eq_true hlt
   omega
theorem c2v {T:St} {vo mo i:Nat} {v:AV} {e1:Int} {b1:Bool} (h:NS T vo mo (i:Int) 0 v (min i 2) [] (Bc (i:Int) e1 b1 0 0 false)) (hi:i < 200) :
 EvQ tbl 8 [.ptr vo 0,.int .i64 1,.agg [.int .u64 ((i:Int)+1),.str (a1d (i % 2)),.int .u8 6,.int .i64 0,.str [],.list false [],.list false []]] T
  (fun r T'=>a4W r∧∃ v' b',NS T' vo mo ((i+1:Nat):Int) 0 v' (min (i+1) 2) [] (Bc ((i+1:Nat):Int) 0 b' 0 0 false)):=by
 obtain ⟨bad,F⟩:∃ bad,FD (i % 2) (min i 2) (min (i+1) 2) bad:=by
  by_cases h0:i=0
  · subst h0; exact ⟨_,c4t⟩
  by_cases h1:i=1
  · subst h1; exact ⟨_,c7l⟩
  rw [show min i 2=2 by omega,show min (i+1) 2=2 by omega]
  rcases (show i % 2=0∨i % 2=1 by omega) with e|e <;> rw [e]
  · exact ⟨_,c3X⟩
  · exact ⟨_,c54⟩
 have h1:=b72 F h (by omega) (by omega) (by omega) (by simp) (fun r hr=>by cases hr) (by omega) (by omega)
 rw [a7O (show min i 2≤min (i+1) 2 by omega)] at h1
 exact h1
/-- behind the first phase; with i made and gone -/
def S2 (T:St) (vo mo k i:Nat):Prop:=∃ v s1 e1 b1 e2 b2,NS T vo mo ((2*k+2*i:Nat):Int) (flK k i) v (min (2*k) 2) (n9 (vsK k i)) (Bc s1 e1 b1 ((2*i:Nat):Int) e2 b2)
theorem c0e {T:St} {vo mo k i:Nat} (h:S2 T vo mo k i) (hi:i < k) (hk:k < 60) :
 EvQ tbl 8 [.ptr vo 0,.int .i64 2,.agg [.int .u64 (((2*i:Nat):Int)+1),.str (a1d 2),.int .u8 6,.int .i64 0,.str [],.list false [],.list false []]] T
  (fun r T'=>a4W r∧∃ v' s1 e1 b1 e2 b2,NS T' vo mo ((2*k+2*i+1:Nat):Int) (flK k i) v' 3 (n9 (vsK k i)) (Bc s1 e1 b1 ((2*i+1:Nat):Int) e2 b2)):=by
 obtain ⟨v,s1,e1,b1,e2,b2,h⟩:=h
 rw [show min (2*k) 2=2 by omega] at h
 have hl:(n9 (vsK k i)).length≤40:=by rw [a1B,Y2]; omega
 have h1:=b2p c6c h (by omega) (by omega) (by omega) hl a4B (by omega) (by omega)
 rw [a7O (show 2≤3 by decide),List.append_nil,show (n9 (vsK k i)).length - 40=0 by omega] at h1
 exact h1.mono fun r T' ⟨ha,v',b',hN⟩=>⟨ha,v',_,_,_,_,_,hN⟩
theorem b9E {T:St} {vo mo k i:Nat} {v':AV} {s1 e1 e2:Int} {b1 b2:Bool} (h:NS T vo mo ((2*k+2*i+1:Nat):Int) (flK k i) v' 3 (n9 (vsK k i)) (Bc s1 e1 b1 ((2*i+1:Nat):Int) e2 b2)) (hi:i < k) (hk:k < 60) :
 EvQ tbl 8 [.ptr vo 0,.int .i64 2,.agg [.int .u64 (((2*i+1:Nat):Int)+1),.str (a1d 3),.int .u8 6,.int .i64 0,.str [],.list false [],.list false []]] T (fun r T'=>a4W r∧S2 T' vo mo k (i+1)):=by
 have hl:(n9 (vsK k i)).length≤40:=by rw [a1B,Y2]; omega
 have h1:=b2p c5J h (by omega) (by omega) (by omega) hl a4B (by omega) (by omega)
 rw [b9m,show ((2*k+2*i+1:Nat):Int)+1=((2*k+2*i+2:Nat):Int) from rfl,b1H,a1B,b3f,show (n9 (vsK k i++[((2*k+2*i+2:Nat):Int)])).drop ((vsK k i++[((2*k+2*i+2:Nat):Int)]).length - 40)=n9 (vsK k (i+1)) by rw [← b3y]; unfold n9; rw [List.map_drop]] at h1
 refine h1.mono fun r T' ⟨ha,v',b',hN⟩=>⟨ha,v',s1,e1,b1,0,b',?_⟩
 rw [show min (2*k) 2=2 by omega]
 exact hN
end Go.Cb.CodeA
