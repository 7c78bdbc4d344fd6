import Derived.Test.YthnliekianmljaaGreatDoorP4
set_option maxRecDepth 20000
set_option linter.unusedSimpArgs false
set_option linter.unusedVariables false
namespace Go.Cb.CodeA
open Go Go.Cb
open Nat renaming reduceAdd → rA,reduceSub → rS,reduceLeDiff → rL,reduceEqDiff → rE
attribute [local congr] i8 k4 k6 k7 j4 j3 l8 l7 V.runR_congr

open Classical in
/-- the text of a selection -/
noncomputable def a4s (x:Sel):List Nat:=if h:a1O 61 [.agg x.row] x.w then h.choose else []
def Fit (x:Sel):Prop:=x.OK∧x.w≤2 ^ 30
theorem b4v {x:Sel} (h:Fit x):(a4s x).length≤x.w∧∀ st,EvQ tbl 61 [.agg x.row] st (fun a st'=>st'=st∧a=.str (a4s x)):=by
 have hs:=d0D h.1 (by have:=h.2; omega)
 unfold a4s
 rw [dif_pos hs]
 exact hs.choose_spec
noncomputable def J6 (fs:List Sel):List Nat:=fs.flatMap fun x=>a4s x++[10]
theorem b3z (fs:List Sel) (x:Sel):J6 (fs++[x])=J6 fs++(a4s x++[10]):=by simp [J6]
theorem b4K {fs:List Sel} (h:∀ x∈fs,Fit x):(J6 fs).length≤fs.length*(2 ^ 30+1):=by
 induction fs with
 | nil=>simp [J6]
 | cons x fs ih =>
  have h1:=(b4v (h x (by simp))).1
  have h2:=(h x (by simp)).2
  have:=ih fun y hy=>h y (by simp [hy])
  rw [J6,List.flatMap_cons,List.length_append,List.length_append]
  rw [J6] at this
  simp only [List.length_cons,List.length_nil,Nat.succ_mul]
  omega
/-- selections as a text -/
theorem a2g (fs:List Sel) (h:∀ x∈fs,Fit x) (hl:fs.length≤2 ^ 30) (A:AV) (st:St) (hA:A=.list false (fs.map Sel.row)∨∃ o,A=.sl o 0 fs.length 7∧st[o]?=some (.cells (j6 fs))) :
 EvQ tbl 33 [A] st (fun a st'=>st'=st∧a=.str (J6 fs)):=by
 have pA:Pln A:=by
  rcases hA with rfl|⟨o,rfl,_⟩
  · exact ⟨rfl,rfl,rfl,rfl⟩
  · exact ⟨rfl,rfl,rfl,rfl⟩
 have hlen:∀ call bx,D3 call [A] bx st=some (.int .i64 fs.length,bx,st):=by
  intro call bx
  rcases hA with rfl|⟨o,rfl,_⟩
  · rw [R.lenL_e,List.length_map]
  · rw [R.lenL_sl]
 refine EvQ.body (fn:=a33) rfl rfl rfl ?_
 simp +contextual -implicitDefEqProofs only [K33,SS,rA,rS,rL,rE,reduceCtorEq,pA.st,pA.sb,pA.wk]
 refine WC.loopR (fun mm fr st'=>st'=st∧∃ (i:Nat),i≤fs.length∧mm=fs.length - i∧fr=[A,.str [],.str (J6 (fs.take i)),.int .i64 i]) (m:=fs.length) ⟨rfl,0,Nat.zero_le _,rfl,rfl⟩ ?_
 rintro mm fr st' ⟨rfl,i,hi,rfl,rfl⟩
 simp +contextual -implicitDefEqProofs only [K33,SS,rA,rS,rL,rE,reduceCtorEq,pA.st,pA.sb,pA.wk,hlen]
 by_cases hil:i < fs.length
 · have e2:(fs.map Sel.row)[i]?=some (fs[i]).row:=by rw [List.getElem?_map,List.getElem?_eq_getElem hil]; rfl
   have hat:=X4 fs i hil
   have hf:=h _ (List.getElem_mem hil)
   have htk:fs.take (i+1)=fs.take i++[fs[i]]:=by rw [List.take_add_one,List.getElem?_eq_getElem hil]; rfl
   have hpl:=b4K (fs:=fs.take i) (fun x hx=>h x (List.mem_of_mem_take hx))
   rw [List.length_take] at hpl
   have hpl:(J6 (fs.take i)).length≤2 ^ 61:=by
    have:min i fs.length*(2 ^ 30+1)≤2 ^ 30*(2 ^ 30+1):=Nat.mul_le_mul_right _ (by omega)
    omega
   have i1:=l5 (show i+1 < 2 ^ 63 by omega)
   have hlt:(i:Int) < (fs.length:Int):=by omega
   revert e2 hat hf htk
   generalize fs[i]=x
   intro e2 hat hf htk
   obtain ⟨hs1,hs2⟩:=b4v hf
   have hs3:=hf.2
   have hpr:J6 (fs.take (i+1))=J6 (fs.take i)++(a4s x++[10]):=by rw [htk,b3z]
   generalize J6 (fs.take i)=p at hpl hpr ⊢
   generalize a4s x=tx at *
   obtain ⟨k,al,nm,on,as,ds,sub⟩:=x
   simp only [Sel.row_eq] at e2 hat hs2
   have c1:tx.length+1≤2 ^ 62:=by omega
   have c2:p.length+(tx++[10]).length≤2 ^ 62:=by simp only [List.length_append,List.length_cons,List.length_nil]; omega
   have hrl:(j6 fs).drop (i*7)=.int .u8 k::.str al::.str nm::.str on::.list false (as.map Arg.row)::.list false (ds.map Dir.row)::.list false (sub.map Sel.row)::(j6 fs).drop ((i+1)*7):=hat
   have h7:7≤((j6 fs).drop ((i+1)*7)).length+1+1+1+1+1+1+1:=by omega
   rcases hA with rfl|⟨o,rfl,ho⟩
   · simp +contextual -implicitDefEqProofs only [K33,SS,rA,rS,rL,rE,reduceCtorEq,hil,e2]
     refine WC.call (hs2 _) rfl rfl ?_
     rintro _ st2 ⟨rfl,rfl⟩
     simp +contextual -implicitDefEqProofs only [K33,SS,rA,rS,rL,rE,reduceCtorEq,c1,c2,i1]
     exact WC.next (m':=fs.length - (i+1)) (by omega) ⟨rfl,i+1,hil,rfl,by rw [hpr]⟩
   · simp +contextual -implicitDefEqProofs only [K33,SS,rA,rS,rL,rE,reduceCtorEq,hil,hlt,ho,Nat.zero_add,hrl,h7]
     refine WC.call (hs2 _) rfl rfl ?_
     rintro _ st2 ⟨rfl,rfl⟩
     simp +contextual -implicitDefEqProofs only [K33,SS,rA,rS,rL,rE,reduceCtorEq,c1,c2,i1]
     exact WC.next (m':=fs.length - (i+1)) (by omega) ⟨rfl,i+1,hil,rfl,by rw [hpr]⟩
 · simp +contextual -implicitDefEqProofs only [K33,SS,rA,rS,rL,rE,reduceCtorEq,hil]
   refine WC.leave ?_
   simp +contextual -implicitDefEqProofs only [K33,SS,rA,rS,rL,rE,reduceCtorEq]
   exact WC.ret ⟨_,_,rfl,rfl,by rw [List.take_of_length_le (by omega)]; rfl⟩
def Sel.sub:Sel→List Sel|.mk _ _ _ _ _ _ s=>s
def z8 (fs:List Sel):List Sel:=fs.flatMap Sel.sub
theorem a5z (fs:List Sel) (x:Sel):z8 (fs++[x])=z8 fs++x.sub:=by simp [z8]
theorem a2o {fs:List Sel} (h:∀ x∈fs,x.OK):(z8 fs).length≤fs.length*3000:=by
 induction fs with
 | nil=>simp [z8]
 | cons x fs ih =>
  have:=ih fun y hy=>h y (by simp [hy])
  rw [z8,List.flatMap_cons,List.length_append,List.length_cons,Nat.succ_mul]
  rw [z8] at this
  have hx:x.sub.length≤3000:=by
   cases h x (by simp) with
   | mk k al nm on as ds sub ha hd hl h=>exact hl
  omega
theorem b20 {x:Sel} (h:Fit x):∀ y∈x.sub,Fit y:=by
 obtain ⟨h1,h2⟩:=h
 cases h1 with
 | mk k al nm on as ds sub ha hd hl h =>
  intro y hy
  have hy:y∈sub:=hy
  have:=T4 (fun x:Sel=>x.w+2) hy
  rw [Sel.w_mk] at h2
  exact ⟨h y hy,by omega⟩
theorem b4b {fs:List Sel} (h:∀ x∈fs,Fit x):∀ y∈z8 fs,Fit y:=by
 intro y hy
 obtain ⟨x,hx,hy⟩:=List.mem_flatMap.1 hy
 exact b20 (h x hx) y hy
theorem d4K (key:List Nat) (fs:List Sel) (h:∀ x∈fs,x.OK) (hl:fs.length≤9000) (o:Nat) (st:St) (ho:st[o]?=some (.cells (j6 fs))) :
 EvQ tbl 34 [.agg [.str key,.sl o 0 fs.length 7]] st (fun a st'=>st'=st∧a=.list false ((z8 fs).map Sel.row)):=by
 refine EvQ.body (fn:=a34) rfl rfl rfl ?_
 simp +contextual -implicitDefEqProofs only [K34,SS,rA,rS,rL,rE,reduceCtorEq]
 refine WC.loopR (fun mm fr st'=>st'=st∧∃ (i:Nat) (v4:AV),i≤fs.length∧mm=fs.length - i∧fr=[.agg [.str key,.sl o 0 fs.length 7],.box [.str key,.sl o 0 fs.length 7],.list true [],.list true ((z8 (fs.take i)).map Sel.row),v4,.sl o 0 fs.length 7,.int .i64 fs.length,.int .i64 i]) (m:=fs.length) ⟨rfl,0,_,Nat.zero_le _,rfl,rfl⟩ ?_
 rintro mm fr st' ⟨rfl,i,v4,hi,rfl,rfl⟩
 simp +contextual -implicitDefEqProofs only [K34,SS,rA,rS,rL,rE,reduceCtorEq]
 by_cases hil:i < fs.length
 · have hat:=X4 fs i hil
   have hf:=h _ (List.getElem_mem hil)
   have htk:fs.take (i+1)=fs.take i++[fs[i]]:=by rw [List.take_add_one,List.getElem?_eq_getElem hil]; rfl
   have hsl:=a2o (fs:=fs.take i) (fun x hx=>h x (List.mem_of_mem_take hx))
   rw [List.length_take] at hsl
   have i1:=l5 (show i+1 < 2 ^ 63 by omega)
   have hlt:(i:Int) < (fs.length:Int):=by omega
   revert hat hf htk
   generalize fs[i]=x
   intro hat hf htk
   have hpr:z8 (fs.take (i+1))=z8 (fs.take i)++x.sub:=by rw [htk,a5z]
   generalize z8 (fs.take i)=p at hsl hpr ⊢
   cases hf with
   | mk k al nm on as ds sub ha hd hl3 h =>
   simp only [Sel.row_eq] at hat
   have hpr:z8 (fs.take (i+1))=p++sub:=hpr
   have hrl:(j6 fs).drop (i*7)=.int .u8 k::.str al::.str nm::.str on::.list false (as.map Arg.row)::.list false (ds.map Dir.row)::.list false (sub.map Sel.row)::(j6 fs).drop ((i+1)*7):=hat
   have h7:7≤((j6 fs).drop ((i+1)*7)).length+1+1+1+1+1+1+1:=by omega
   have c1:(p.length+sub.length)*128≤2 ^ 47:=by omega
   simp +contextual -implicitDefEqProofs only [K34,SS,rA,rS,rL,rE,reduceCtorEq,hil,hlt,ho,Nat.zero_add,hrl,h7,a7d,List.length_map,c1,i1]
   exact WC.next (m':=fs.length - (i+1)) (by omega) ⟨rfl,i+1,_,hil,rfl,by rw [hpr,List.map_append]⟩
 · simp +contextual -implicitDefEqProofs only [K34,SS,rA,rS,rL,rE,reduceCtorEq,hil]
   refine WC.leave ?_
   simp +contextual -implicitDefEqProofs only [K34,SS,rA,rS,rL,rE,reduceCtorEq]
   exact WC.ret ⟨_,_,rfl,rfl,by rw [List.take_of_length_le (by omega)]; rfl⟩
theorem d08 (key:List Nat) (fs:List Sel) (h:∀ x∈fs,x.OK) (hl:fs.length≤9000) (o:Nat) (st:St) (ho:st[o]?=some (.cells (j6 fs))) :
 EvQ tbl 35 [.agg [.str key,.sl o 0 fs.length 7]] st (fun a st'=>st'=st∧a=.list false ((z8 fs).map Sel.row)):=by
 refine EvQ.body (fn:=a35) rfl rfl rfl ?_
 simp +contextual -implicitDefEqProofs only [K35,SS,rA,rS,rL,rE,reduceCtorEq]
 refine WC.loopR (fun mm fr st'=>st'=st∧∃ (i:Nat),i≤fs.length∧mm=fs.length - i∧fr=[.agg [.str key,.sl o 0 fs.length 7],.box [.str key,.sl o 0 fs.length 7],.list true [],.list true ((z8 (fs.take i)).map Sel.row),.int .i64 i]) (m:=fs.length) ⟨rfl,0,Nat.zero_le _,rfl,rfl⟩ ?_
 rintro mm fr st' ⟨rfl,i,hi,rfl,rfl⟩
 simp +contextual -implicitDefEqProofs only [K35,SS,rA,rS,rL,rE,reduceCtorEq]
 by_cases hil:i < fs.length
 · have hat:=X4 fs i hil
   have hf:=h _ (List.getElem_mem hil)
   have htk:fs.take (i+1)=fs.take i++[fs[i]]:=by rw [List.take_add_one,List.getElem?_eq_getElem hil]; rfl
   have hsl:=a2o (fs:=fs.take i) (fun x hx=>h x (List.mem_of_mem_take hx))
   rw [List.length_take] at hsl
   have i1:=l5 (show i+1 < 2 ^ 63 by omega)
   have hlt:(i:Int) < (fs.length:Int):=by omega
   revert hat hf htk
   generalize fs[i]=x
   intro hat hf htk
   have hpr:z8 (fs.take (i+1))=z8 (fs.take i)++x.sub:=by rw [htk,a5z]
   generalize z8 (fs.take i)=p at hsl hpr ⊢
   cases hf with
   | mk k al nm on as ds sub ha hd hl3 h =>
   simp only [Sel.row_eq] at hat
   have hpr:z8 (fs.take (i+1))=p++sub:=hpr
   have hrl:(j6 fs).drop (i*7+6)=.list false (sub.map Sel.row)::(j6 fs).drop ((i+1)*7):=by
    rw [← List.drop_drop,hat]; rfl
   have c1:(p.length+sub.length)*128≤2 ^ 47:=by omega
   simp +contextual -implicitDefEqProofs only [K35,SS,rA,rS,rL,rE,reduceCtorEq,hil,hlt,ho,Nat.zero_add,hrl,a7d,List.length_map,c1,i1]
   exact WC.next (m':=fs.length - (i+1)) (by omega) ⟨rfl,i+1,hil,rfl,by rw [hpr,List.map_append]⟩
 · simp +contextual -implicitDefEqProofs only [K35,SS,rA,rS,rL,rE,reduceCtorEq,hil]
   refine WC.leave ?_
   simp +contextual -implicitDefEqProofs only [K35,SS,rA,rS,rL,rE,reduceCtorEq]
   exact WC.ret ⟨_,_,rfl,rfl,by rw [List.take_of_length_le (by omega)]; rfl⟩
end Go.Cb.CodeA
