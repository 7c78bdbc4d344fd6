import Derived.Test.YthnliekianmljaaGreatDoorChV
import Derived.Test.YthnliekianmljaaGreatDoorC5
set_option maxRecDepth 20000
set_option linter.unusedSimpArgs false
set_option linter.unusedVariables false
namespace Go.Cb.CodeA
open Go Go.Cb
open Nat renaming reduceAdd → rA,reduceSub → rS,reduceLeDiff → rL,reduceEqDiff → rE
attribute [local congr] i8 k4 k6 k7 j4 j3 l8 l7 V.runR_congr
/-- a value with no more names or values than a slice may have -/
inductive Val.Fin:Val→Prop
 | mk (k n:Int) (s:List Nat) (ks:List (List Nat)) (ls:List Val) (hk:ks.length < 2 ^ 63) (hl:ls.length < 2 ^ 63) (h:∀ v∈ls,Val.Fin v):Val.Fin (.mk k n s ks ls)
theorem b4g {ls:List Val} {i:Nat} (h:i < ls.length):(ls.map Val.row)[i]?=some (ls[i]).row:=by
 rw [List.getElem?_map,List.getElem?_eq_getElem h]; rfl
/-- a value whose parts are few -/
inductive Val.Sized:Val→Prop
 | mk (k n:Int) (s:List Nat) (ks:List (List Nat)) (ls:List Val) (hk:ks.length≤3000) (hl:ls.length≤3000) (h:∀ v∈ls,Val.Sized v):Val.Sized (.mk k n s ks ls)
/-- a value that has as many names as values, and so on -/
inductive Val.Even:Val→Prop
 | mk (k n:Int) (s:List Nat) (ks:List (List Nat)) (ls:List Val) (he:k=6→ks.length=ls.length) (h:∀ v∈ls,Val.Even v):Val.Even (.mk k n s ks ls)
theorem a9S {α:Type} {P:α→Prop} {ls:List α} {i:Nat} (hi:i < ls.length) (h:∀ v∈ls.take i,P v) (h1:P ls[i]):∀ v∈ls.take (i+1),P v:=fun v hv=>by
 rw [List.take_add_one,List.getElem?_eq_getElem hi] at hv
 simp only [List.mem_append,Option.mem_toList,Option.some.injEq] at hv
 rcases hv with hv|hv
 · exact h v hv
 · subst hv; exact h1
theorem d65 {a b:Int} (h1:0≤b) (h2:b≤a) (h3:a≤3000):l9 .i64 (P6 a b)=a - b:=by rw [subI_eq,J0 (by omega) (by omega)]
theorem c7g {a b:Int} (h1:0≤a) (h2:0≤b) (h3:a+b≤3001):l9 .i64 (P4 a b)=a+b:=by rw [addI_eq,J0 (by omega) (by omega)]
theorem c0F {v:Val} (h:v.Fin):∀ (d m:Int) (st:St),0≤m→m≤3000→EvQ tbl 32 [.agg v.row,.int .i64 d,.int .i64 m] st (fun a st'=>st'=st∧∃ n,a=.int .i64 n∧1≤n∧n≤m+1∧(n≤m→v.Sized)):=by
 induction h with
 | mk k n s ks ls hk hl h ih =>
  intro d m st hm0 hm3
  have hw:l9 .i64 (P4 m 1)=m+1:=c7g hm0 (by omega) (by omega)
  rw [Val.row_eq]
  refine EvQ.body (fn:=a32) rfl rfl rfl ?_
  simp +contextual -implicitDefEqProofs only [K32,SS,rA,rS,rL,rE,reduceCtorEq,hw]
  rcases k8 (ltI 60 d) with hd|hd
  · simp +contextual -implicitDefEqProofs only [hd,K32,SS,rA,rS,rL,rE,reduceCtorEq,hw]
    exact WC.ret ⟨_,_,rfl,rfl,_,rfl,by omega,by omega,fun _=>by omega⟩
  simp +contextual -implicitDefEqProofs only [hd,K32,SS,rA,rS,rL,rE,reduceCtorEq,List.length_map]
  rcases k8 (ltI m (ks.length:Int)) with hk|hk
  · simp +contextual -implicitDefEqProofs only [hk,K32,SS,rA,rS,rL,rE,reduceCtorEq,hw]
    exact WC.ret ⟨_,_,rfl,rfl,_,rfl,by omega,by omega,fun _=>by omega⟩
  simp +contextual -implicitDefEqProofs only [hk,K32,SS,rA,rS,rL,rE,reduceCtorEq,List.length_map]
  rcases k8 (ltI m (ls.length:Int)) with hkl|hkl
  · simp +contextual -implicitDefEqProofs only [hkl,K32,SS,rA,rS,rL,rE,reduceCtorEq,hw]
    exact WC.ret ⟨_,_,rfl,rfl,_,rfl,by omega,by omega,fun _=>by omega⟩
  simp +contextual -implicitDefEqProofs only [hkl,K32,SS,rA,rS,rL,rE,reduceCtorEq]
  have hk3:ks.length≤3000:=by rw [ltI_eq] at hk; simp at hk; omega
  have hl3:ls.length≤3000:=by rw [ltI_eq] at hkl; simp at hkl; omega
  refine WC.loopR (fun mm fr st'=>st'=st∧∃ (i:Nat) (n5:Int),i≤ls.length∧mm=ls.length - i∧1≤n5∧n5≤m+1∧(n5≤m→∀ v∈ls.take i,v.Sized)∧fr=[.agg [.int .u8 k,.int .i64 n,.str s,.list false (ks.map b9),.list false (ls.map Val.row)],.int .i64 d,.int .i64 m,.box [.int .u8 k,.int .i64 n,.str s,.list false (ks.map b9),.list false (ls.map Val.row)],.int .i64 0,.int .i64 n5,.int .i64 i]) (m:=ls.length) ⟨rfl,0,1,Nat.zero_le _,rfl,by omega,by omega,by simp,rfl⟩ ?_
  rintro mm fr st' ⟨rfl,i,n5,hi,rfl,hn1,hn2,hsz,rfl⟩
  simp +contextual -implicitDefEqProofs only [K32,SS,rA,rS,rL,rE,reduceCtorEq,ltN,List.length_map]
  by_cases hil:i < ls.length
  · have e2:=b4g hil
    have ih1:=ih _ (List.getElem_mem hil)
    have hta:=fun h=>a9S (P:=Val.Sized) hil h
    revert e2 ih1 hta
    generalize ls[i]=u
    intro e2 ih1 hta
    obtain ⟨k1,n1,s1,ks1,ls1,e1⟩:=u.row_cells
    rw [e1] at e2
    simp only [e1] at ih1
    simp +contextual -implicitDefEqProofs only [hil,K32,SS,rA,rS,rL,rE,reduceCtorEq]
    rcases k8 (!ltI m n5) with hm|hm
    · have hnm:n5≤m:=by rw [ltI_eq] at hm; simp at hm; omega
      simp +contextual -implicitDefEqProofs only [hm,e2,K32,SS,rA,rS,rL,rE,reduceCtorEq,d65 (show 0≤n5 by omega) hnm hm3]
      refine WC.call (ih1 _ _ _ (by omega) (by omega)) rfl rfl ?_
      rintro _ _ ⟨rfl,n6,rfl,h61,h62,h63⟩
      simp +contextual -implicitDefEqProofs only [K32,SS,rA,rS,rL,rE,reduceCtorEq,l5 (show i+1 < 2 ^ 63 by omega),c7g (show 0≤n5 by omega) (show 0≤n6 by omega) (show n5+n6≤3001 by omega)]
      exact WC.next (m':=ls.length - (i+1)) (by omega) ⟨rfl,i+1,_,hil,rfl,by omega,by omega,fun hh=>hta (hsz hnm) (h63 (by omega)),rfl⟩
    · have hnm:¬ n5≤m:=by rw [ltI_eq] at hm; simp at hm; omega
      simp +contextual -implicitDefEqProofs only [hm,K32,SS,rA,rS,rL,rE,reduceCtorEq]
      refine WC.leave ?_
      simp +contextual -implicitDefEqProofs only [K32,SS,rA,rS,rL,rE,reduceCtorEq]
      exact WC.ret ⟨_,_,rfl,rfl,_,rfl,hn1,hn2,fun hh=>absurd hh hnm⟩
  · simp +contextual -implicitDefEqProofs only [hil,K32,SS,rA,rS,rL,rE,reduceCtorEq]
    refine WC.leave ?_
    simp +contextual -implicitDefEqProofs only [K32,SS,rA,rS,rL,rE,reduceCtorEq]
    refine WC.ret ⟨_,_,rfl,rfl,_,rfl,hn1,hn2,fun hh=>.mk _ _ _ _ _ hk3 hl3 ?_⟩
    have:=hsz hh
    rwa [List.take_of_length_le (by omega)] at this
theorem c2d {v:Val} (h:v.Fin):∀ (st:St),EvQ tbl 14 [.agg v.row] st (fun a st'=>st'=st∧∃ b,a=.bool b∧(b=true→v.Even)):=by
 induction h with
 | mk k n s ks ls hk hl h ih =>
  intro st
  rw [Val.row_eq]
  refine EvQ.body (fn:=a14) rfl rfl rfl ?_
  simp (config := { maxSteps := 1000000 }) +contextual -implicitDefEqProofs only [K14,SS,rA,rS,rL,rE,reduceCtorEq]
  refine WC.br (fun _=>?_) (fun _=>?_)
  · simp +contextual -implicitDefEqProofs only [K14,SS,rA,rS,rL,rE,reduceCtorEq]
    exact WC.ret ⟨_,_,rfl,rfl,_,rfl,fun h=>by cases h⟩
  simp +contextual -implicitDefEqProofs only [K14,SS,rA,rS,rL,rE,reduceCtorEq,List.length_map]
  refine WC.br (fun _=>?_) (fun hev=>?_)
  · simp +contextual -implicitDefEqProofs only [K14,SS,rA,rS,rL,rE,reduceCtorEq]
    exact WC.ret ⟨_,_,rfl,rfl,_,rfl,fun h=>by cases h⟩
  have hev':k=6→ks.length=ls.length:=by
   intro h6
   rw [h6,show eqI 6 6=true from rfl] at hev
   by_cases he:ks.length=ls.length
   · exact he
   · exfalso
     simp [he] at hev
  simp +contextual -implicitDefEqProofs only [K14,SS,rA,rS,rL,rE,reduceCtorEq]
  generalize (eqI k 1 || eqI k 3 && (eqI n 0 || eqI n 1))=b1
  generalize (eqI k 2 || eqI k 4 || eqI k 7 || eqI k 8)=b2
  refine WC.loopR (fun mm fr st'=>st'=st∧∃ (i:Nat),i≤ls.length∧mm=ls.length - i∧(∀ v∈ls.take i,v.Even)∧fr=[.agg [.int .u8 k,.int .i64 n,.str s,.list false (ks.map b9),.list false (ls.map Val.row)],.box [.int .u8 k,.int .i64 n,.str s,.list false (ks.map b9),.list false (ls.map Val.row)],.bool false,.bool b1,.bool b2,.int .i64 i]) (m:=ls.length) ⟨rfl,0,Nat.zero_le _,rfl,by simp,rfl⟩ ?_
  rintro mm fr st' ⟨rfl,i,hi,rfl,hsz,rfl⟩
  simp +contextual -implicitDefEqProofs only [K14,SS,rA,rS,rL,rE,reduceCtorEq,ltN,List.length_map]
  by_cases hil:i < ls.length
  · have e2:=b4g hil
    have ih1:=ih _ (List.getElem_mem hil)
    have hta:=a9S (P:=Val.Even) hil hsz
    revert e2 ih1 hta
    generalize ls[i]=u
    intro e2 ih1 hta
    obtain ⟨k1,n1,s1,ks1,ls1,e1⟩:=u.row_cells
    rw [e1] at e2
    simp only [e1] at ih1
    simp +contextual -implicitDefEqProofs only [hil,K14,SS,rA,rS,rL,rE,reduceCtorEq,e2]
    refine WC.call (ih1 _) rfl rfl ?_
    rintro _ _ ⟨rfl,b,rfl,hbe⟩
    cases b with
    | true =>
     simp +contextual -implicitDefEqProofs only [K14,SS,rA,rS,rL,rE,reduceCtorEq,l5 (show i+1 < 2 ^ 63 by omega)]
     exact WC.next (m':=ls.length - (i+1)) (by omega) ⟨rfl,i+1,hil,rfl,hta (hbe rfl),rfl⟩
    | false =>
     simp +contextual -implicitDefEqProofs only [K14,SS,rA,rS,rL,rE,reduceCtorEq]
     refine WC.leaveR ?_
     simp +contextual -implicitDefEqProofs only [K14,SS,rA,rS,rL,rE,reduceCtorEq]
     exact WC.ret ⟨_,_,rfl,rfl,_,rfl,fun h=>by cases h⟩
  · simp +contextual -implicitDefEqProofs only [hil,K14,SS,rA,rS,rL,rE,reduceCtorEq]
    refine WC.leave ?_
    simp +contextual -implicitDefEqProofs only [K14,SS,rA,rS,rL,rE,reduceCtorEq]
    refine WC.ret ⟨_,_,rfl,rfl,_,rfl,fun _=>.mk _ _ _ _ _ hev' ?_⟩
    rwa [List.take_of_length_le (by omega)] at hsz
theorem c0W {v:Val} (h:v.Fin) (st:St):EvQ tbl 13 [.agg v.row] st (fun a st'=>st'=st∧∃ b,a=.bool b∧(b=false→v.Sized)):=by
 have hc:=fun d m=>c0F h d m st
 obtain ⟨k,n,s,xs,ys,e⟩:=v.row_cells
 simp only [e] at hc ⊢
 refine EvQ.body (fn:=a13) rfl rfl rfl ?_
 simp +contextual -implicitDefEqProofs only [K13,SS,rA,rS,rL,rE,reduceCtorEq]
 refine WC.call (hc _ _ (by decide) (by decide)) rfl rfl ?_
 rintro _ _ ⟨rfl,b,rfl,_,_,hb⟩
 simp +contextual -implicitDefEqProofs only [K13,SS,rA,rS,rL,rE,reduceCtorEq]
 refine WC.ret ⟨_,_,rfl,rfl,_,rfl,fun hh=>hb ?_⟩
 rw [ltI_eq] at hh
 simp at hh
 omega
end Go.Cb.CodeA
