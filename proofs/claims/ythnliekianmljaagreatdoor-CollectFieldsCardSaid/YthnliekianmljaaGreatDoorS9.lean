/- What functions of the abstract machine answer. No conditions but those that each theorem names. -/
import Derived.Test.YthnliekianmljaaGreatDoorR5
set_option maxRecDepth 20000
set_option linter.unusedSimpArgs false
set_option linter.unusedVariables false
namespace Go.Cb.CodeA
open Go Go.Cb
open Nat renaming reduceAdd → rA,reduceSub → rS,reduceLeDiff → rL,reduceEqDiff → rE
attribute [local congr] i8 k4 k6 k7 j4 j3 l8 l7 V.runR_congr
theorem a9t (call:b6) (bx:AV) (st:St) (n o off q f k s:Nat) (x:AV) (gs:List AV):B8 n call (.ptr o off::x::.sl q f k s::gs) bx st=if Nat.beq o q=true∧H3 (some o) st.length gs=true then B3 n call [.ptr o off,x] bx st else none:=b5 rfl
theorem b0v (o n p f k s:Nat) (gs:List AV):H3 (some o) n (.sl p f k s::gs)=(Nat.blt p n && !Nat.beq p o && H3 (some o) n gs):=b5 rfl
section
variable {ao o n j fo m i ml:Nat} {v0 v1 v2 v3 v4 v5 v6 v7 v12:AV} {G X AA R:List AV} {st:St} (k:Int) (al nm on:List Nat) (A D S:List (List AV))
 (hA:st[ao]?=some (.cells AA)) (hi:i < ml) (hR:AA.drop (i*7)=.int .u8 k::.str al::.str nm::.str on::.list false A::.list false D::.list false S::R) (ho:st[o]?=some (.cells G)) (hj:j < n) (hao:ao≠o)
include hA hi hR ho hj hao
theorem c7v (hF:G[j*2+1]?=some (.list true [])) (call:b6) (N:Nat) :
 d8 call N a16s36 [v0,v1,v2,v3,v4,v5,v6,v7,.sl ao 0 ml 7,.sl o 0 n 2,.int .i64 i,.int .i64 j,v12] st=some (.normal,[v0,v1,v2,v3,v4,v5,v6,v7,.sl ao 0 ml 7,.sl o 0 n 2,.int .i64 i,.int .i64 j,v12],stM st o (G.set (j*2+1) (.sl st.length 0 1 7)) [.int .u8 k,.str al,.str nm,.str on,.list false A,.list false D,.list false S]):=by
 have hj':(j:Int) < (n:Int):=by omega
 have hi':(i:Int) < (ml:Int):=by omega
 have hol:o < st.length:=(List.getElem?_eq_some_iff.1 ho).1
 have hal:ao < st.length:=(List.getElem?_eq_some_iff.1 hA).1
 have hGl:j*2+1 < G.length:=(List.getElem?_eq_some_iff.1 hF).1
 have hGl':j*2+1+1≤G.length:=hGl
 have ho3:∀ a b z,((st.set o (.cells a)++[b]).set st.length z)[o]?=some (.cells a):=fun a b z=>g9 (l6 (m9 ho)) (by omega)
 have hA1:∀ y,(st.set o y)[ao]?=some (.cells AA):=fun y=>g9 hA (fun e=>hao e.symm)
 have hn3:∀ a b,(st.set o a++[b])[st.length]?=some b:=fun a b=>by
  rw [List.getElem?_append_right (by simp)]
  simp
 have hb:Nat.blt st.length (st.length+1)=true:=by rw [Nat.blt_eq]; omega
 have hb2:Nat.beq st.length o=false:=by cases h:Nat.beq st.length o with|false=>rfl|true=>have:=Nat.eq_of_beq_eq_true h; omega
 have h1:1*128≤2 ^ 47:=by decide
 have h01:((0:Nat):Int) < ((1:Nat):Int):=by decide
 have h7:7≤R.length+1+1+1+1+1+1+1:=by omega
 simp +contextual -implicitDefEqProofs only [K16,SS,rA,rS,rL,rE,reduceCtorEq,hA1,ho,hj',hi',hF,hR,h7,Q9,Nat.beq_refl,List.length_set,List.length_append,ho3,hGl',hn3,h1,h01,Nat.zero_mul,Nat.zero_add,hb,hb2,a9t,b0v]
 rw [a6T _ _ _ _ hGl]
 have e:=b1Q st o (G.set (j*2+1) (AV.list false [])) [AV.int .u8 0,AV.str [],AV.str [],AV.str [],AV.list true [],AV.list true [],AV.list true []] [AV.int .u8 k,AV.str al,AV.str nm,AV.str on,AV.list false A,AV.list false D,AV.list false S]
 unfold stM at e
 rw [e,a9k hol]
theorem d7X (hF:G[j*2+1]?=some (.sl fo 0 m 7)) (hX:st[fo]?=some (.cells X)) (hne:fo≠o) (hcf:ao≠fo) (hXl:X.length=m*7) (hm:(m+1)*128≤2 ^ 47) (call:b6) (N:Nat) :
 d8 call N a16s36 [v0,v1,v2,v3,v4,v5,v6,v7,.sl ao 0 ml 7,.sl o 0 n 2,.int .i64 i,.int .i64 j,v12] st=some (.normal,[v0,v1,v2,v3,v4,v5,v6,v7,.sl ao 0 ml 7,.sl o 0 n 2,.int .i64 i,.int .i64 j,v12],stN st o fo (G.set (j*2+1) (.sl st.length 0 (m+1) 7)) (X++[.int .u8 k,.str al,.str nm,.str on,.list false A,.list false D,.list false S])):=by
 have hj':(j:Int) < (n:Int):=by omega
 have hi':(i:Int) < (ml:Int):=by omega
 have hm':(m:Int) < ((m+1:Nat):Int):=by omega
 have hol:o < st.length:=(List.getElem?_eq_some_iff.1 ho).1
 have hfl:fo < st.length:=(List.getElem?_eq_some_iff.1 hX).1
 have hal:ao < st.length:=(List.getElem?_eq_some_iff.1 hA).1
 have hGl:j*2+1 < G.length:=(List.getElem?_eq_some_iff.1 hF).1
 have hGl':j*2+1+1≤G.length:=hGl
 have hX1:∀ y,(st.set o y)[fo]?=some (.cells X):=fun y=>g9 hX (by omega)
 have ho3:∀ a b x z,(((st.set o (.cells a)).set fo x++[b]).set st.length z)[o]?=some (.cells a):=fun a b x z=>g9 (l6 (g9 (m9 ho) hne)) (by omega)
 have hA1:∀ y,(st.set o y)[ao]?=some (.cells AA):=fun y=>g9 hA (fun e=>hao e.symm)
 have hn3:∀ a b x,((st.set o a).set fo x++[b])[st.length]?=some b:=fun a b x=>by
  rw [List.getElem?_append_right (by simp)]
  simp
 have hb:Nat.blt st.length (st.length+1)=true:=by rw [Nat.blt_eq]; omega
 have hb2:Nat.beq st.length o=false:=by cases h:Nat.beq st.length o with|false=>rfl|true=>have:=Nat.eq_of_beq_eq_true h; omega
 have h7:7≤R.length+1+1+1+1+1+1+1:=by omega
 have hs7:m*7+7≤X.length+7:=by omega
 simp +contextual -implicitDefEqProofs only [K16,SS,rA,rS,rL,rE,reduceCtorEq,hA1,ho,hj',hi',hm',hm,hF,hR,h7,hX1,hXl,Q9,Nat.beq_refl,List.length_set,List.length_append,ho3,hGl',hn3,hs7,Nat.zero_add,hb,hb2,a9t,b0v]
 rw [a6T _ _ _ _ hGl]
 have e1:List.take (m*7) (X++[AV.int .u8 0,.str [],.str [],.str [],.list true [],.list true [],.list true []])=X:=by rw [← hXl]; simp
 have e2:List.drop (m*7+7) (X++[AV.int .u8 0,.str [],.str [],.str [],.list true [],.list true [],.list true []])=[]:=List.drop_of_length_le (by simp; omega)
 rw [e1,e2,List.append_nil]
 have e:=b2h st o fo (G.set (j*2+1) (AV.sl fo 0 m 7)) (X++[AV.int .u8 0,AV.str [],AV.str [],AV.str [],AV.list true [],AV.list true [],AV.list true []]) (X++[AV.int .u8 k,AV.str al,AV.str nm,AV.str on,AV.list false A,AV.list false D,AV.list false S])
 unfold stN at e
 rw [e,a9C hne hol]
end
end Go.Cb.CodeA
