import Derived.Test.YtbibkdncfclnbaaGreatDoorC1
set_option maxRecDepth 20000
set_option linter.unusedSimpArgs false
set_option linter.unusedVariables false
namespace Go.Cb.CodeA
open Go Go.Cb
open Nat renaming reduceAdd→rA,reduceSub→rS,reduceLeDiff→rL,reduceEqDiff→rE
attribute [local congr] i7 j1 j2 j3 j0 i8 k6 j9 V.runR_congr
theorem k8 {st:St} {o i:Nat} {x y:Obj} (h:st[i]?=some x) (hne:o≠i):(st.set o y)[i]?=some x:=by rw [List.getElem?_set_ne hne]; exact h
theorem l5 {st:St} {i:Nat} {x y:Obj} (h:st[i]?=some x):(st++[y])[i]?=some x:=by rw [List.getElem?_append_left (AB.1 h).1]; exact h
theorem p8 (st:St) (y:Obj):(st++[y])[st.length]?=some y:=by rw [List.getElem?_append_right (AJ _),Nat.sub_self]; rfl
theorem b5J {α:Type} (l:List α) (i:Nat) (a b:α) (h:i < l.length):(l.set i a).take i++[b]++(l.set i a).drop (i+1)=l.set i b:=by
 rw [List.set_eq_take_append_cons_drop,if_pos h,List.set_eq_take_append_cons_drop,if_pos h]
 have h1:(l.take i).length=i:=by rw [AO]; omega
 rw [List.take_append_of_le_length (by omega),List.take_of_length_le (by omega)]
 rw [List.drop_append,h1,List.drop_of_length_le (by omega),show i+1 - i=1 by omega]
 simp
def stN (st:St) (o fo:Nat) (G Y:List AV):St:=(st.set o (Cb.Obj.cells G)).set fo Cb.Obj.dead++[Cb.Obj.cells Y]
theorem b86 {st:St} {o fo:Nat} {G0 G Y:List AV} (hne:fo≠o) (ho:o < st.length):((st.set o (.cells G0)).set fo .dead++[Cb.Obj.cells Y]).set o (Cb.Obj.cells G)=stN st o fo G Y:=by
 rw [stN,List.set_append_left _ _ (by simpa using ho),List.set_comm _ _ hne,List.set_set]
def stM (st:St) (o:Nat) (G Y:List AV):St:=st.set o (Cb.Obj.cells G)++[Cb.Obj.cells Y]
theorem b7v {st:St} {o:Nat} {G0 G Y:List AV} (ho:o < st.length):(st.set o (.cells G0)++[Cb.Obj.cells Y]).set o (Cb.Obj.cells G)=stM st o G Y:=by
 rw [stM,List.set_append_left _ _ (by simpa using ho),List.set_set]
theorem c4u (st:St) (o fo:Nat) (G Y Z:List AV):(stN st o fo G Y).set st.length (Cb.Obj.cells Z)=stN st o fo G Z:=by
 unfold stN
 have h:st.length=((st.set o (Cb.Obj.cells G)).set fo Cb.Obj.dead).length:=by simp
 rw [List.set_append_right _ _ (by omega),← h,Nat.sub_self]
 rfl
theorem c3X (st:St) (o:Nat) (G Y Z:List AV):(stM st o G Y).set st.length (Cb.Obj.cells Z)=stM st o G Z:=by
 unfold stM
 have h:st.length=(st.set o (Cb.Obj.cells G)).length:=by simp
 rw [List.set_append_right _ _ (by omega),← h,Nat.sub_self]
 rfl
theorem a4R (call:d8) (N:Nat) (kill:List Nat) (a b:ACode) (fr:List AV) (st:St):i6 call N (.either kill a b) fr st=a2C kill (i6 call N a fr st) (i6 call N b fr st):=b9 rfl
section
variable {K:Cfg} {c o n j p fo m:Nat} {sn v5 v6 v7:AV} {G X:List AV} {st:St} (k:Int) (al nm on:List Nat) (A D S:List (List AV))
 (hc:st[c]?=some (.cells (s7 K sn (.sl o 0 n 2)))) (ho:st[o]?=some (.cells G)) (hj:j < n)
include hc ho hj
theorem c6U (hF:G[j*2+1]?=some (.sl fo 0 m 7)) (hX:st[fo]?=some (.cells X)) (hne:fo≠o) (hcf:c≠fo) (hXl:X.length=m*7) (hm:(m+1)*128≤2 ^ 47) (call:d8) (N:Nat) :
 i6 call N a169s23 [.ptr c 0,.agg [.int .u8 k,.str al,.str nm,.str on,.list false A,.list false D,.list false S],.box [.int .u8 k,.str al,.str nm,.str on,.list false A,.list false D,.list false S],.ptr p 0,.int .i64 j,v5,v6,v7] st=some (.normal,[.ptr c 0,.agg [.int .u8 k,.str al,.str nm,.str on,.list false A,.list false D,.list false S],.box [.int .u8 k,.str al,.str nm,.str on,.list false A,.list false D,.list false S],.ptr p 0,.int .i64 j,v5,v6,v7],stN st o fo (G.set (j*2+1) (.sl st.length 0 (m+1) 7)) (X++[.int .u8 k,.str al,.str nm,.str on,.list false A,.list false D,.list false S])):=by
 have hj':(j:Int) < (n:Int):=by omega
 have hX1:∀ y,(st.set o y)[fo]?=some (.cells X):=fun y=>k8 hX (by omega)
 have hcl:c < st.length:=(AB.1 hc).1
 have hol:o < st.length:=(AB.1 ho).1
 have hGl:j*2+1 < G.length:=(AB.1 hF).1
 have hGl':j*2+1+1≤G.length:=hGl
 have ho3:∀ a b x,((st.set o (.cells a)).set fo x++[b])[o]?=some (.cells a):=fun a b x=>l5 (k8 (L7 ho) hne)
 have hb:Nat.blt c st.length=true:=by rw [Nat.blt_eq]; exact hcl
 have hb2:Nat.beq c fo=false:=by cases h:Nat.beq c fo with|false=>rfl|true=>exact absurd (Nat.eq_of_beq_eq_true h) hcf
 simp +contextual -implicitDefEqProofs only [W6,SS,rA,rS,rL,rE,reduceCtorEq,hc,ho,hj',hF,s7,Y6,Nat.beq_refl,hX1,hXl,hm,AY,hb,hb2,ho3,hGl']
 rw [b86 hne hol,b5J _ _ _ _ hGl]
theorem c6W (hF:G[j*2+1]?=some (.sl fo 0 m 7)) (hX:st[fo]?=some (.cells X)) (hne:fo≠o) (hcf:c≠fo) (hXl:X.length=m*7) (hm:(m+1)*128≤2 ^ 47) (call:d8) (N:Nat) :
 i6 call N a169s21 [.ptr c 0,.agg [.int .u8 k,.str al,.str nm,.str on,.list false A,.list false D,.list false S],.box [.int .u8 k,.str al,.str nm,.str on,.list false A,.list false D,.list false S],.ptr p 0,.int .i64 j,v5,v6,v7] st=some (.normal,[.ptr c 0,.agg [.int .u8 k,.str al,.str nm,.str on,.list false A,.list false D,.list false S],.box [.int .u8 k,.str al,.str nm,.str on,.list false A,.list false D,.list false S],.ptr p 0,.int .i64 j,.agg [.int .u8 k,.str al,.str nm,.str on,.list false A,.list false D,.list false S],.int .i64 m,.sl st.length 0 (m+1) 7],stN st o fo (G.set (j*2+1) (.sl st.length 0 (m+1) 7)) (X++[.int .u8 k,.str al,.str nm,.str on,.list false A,.list false D,.list false S])):=by
 have hj':(j:Int) < (n:Int):=by omega
 have hm':(m:Int) < ((m+1:Nat):Int):=by omega
 have hX1:∀ y,(st.set o y)[fo]?=some (.cells X):=fun y=>k8 hX (by omega)
 have hcl:c < st.length:=(AB.1 hc).1
 have hol:o < st.length:=(AB.1 ho).1
 have hGl:j*2+1 < G.length:=(AB.1 hF).1
 have hGl':j*2+1+1≤G.length:=hGl
 have ho3:∀ a b x,((st.set o (.cells a)).set fo x++[b])[o]?=some (.cells a):=fun a b x=>l5 (k8 (L7 ho) hne)
 have hn3:∀ a b x z,(((st.set o a).set fo x++[b]).set o z)[st.length]?=some b:=fun a b x z=>by
  rw [List.getElem?_set_ne (by omega),List.getElem?_append_right (by simp)]
  simp
 have hs7:m*7+7≤X.length+7:=by omega
 simp +contextual -implicitDefEqProofs only [W6,SS,rA,rS,rL,rE,reduceCtorEq,hc,ho,hj',hF,s7,Y6,Nat.beq_refl,hX1,hXl,hm,hm',AY,ho3,hGl',hn3,AE,hs7]
 rw [b86 hne hol,b5J _ _ _ _ hGl]
 have e1:List.take (m*7) (X++[AV.int .u8 0,.str [],.str [],.str [],.list true [],.list true [],.list true []])=X:=by rw [← hXl]; simp
 have e2:List.drop (m*7+7) (X++[AV.int .u8 0,.str [],.str [],.str [],.list true [],.list true [],.list true []])=[]:=List.drop_of_length_le (by simp; omega)
 rw [e1,e2,List.append_nil]
 rw [c4u]
theorem c6Y (hF:G[j*2+1]?=some (.list true [])) (call:d8) (N:Nat) :
 i6 call N a169s23 [.ptr c 0,.agg [.int .u8 k,.str al,.str nm,.str on,.list false A,.list false D,.list false S],.box [.int .u8 k,.str al,.str nm,.str on,.list false A,.list false D,.list false S],.ptr p 0,.int .i64 j,v5,v6,v7] st=some (.normal,[.ptr c 0,.agg [.int .u8 k,.str al,.str nm,.str on,.list false A,.list false D,.list false S],.box [.int .u8 k,.str al,.str nm,.str on,.list false A,.list false D,.list false S],.ptr p 0,.int .i64 j,v5,v6,v7],stM st o (G.set (j*2+1) (.sl st.length 0 1 7)) [.int .u8 k,.str al,.str nm,.str on,.list false A,.list false D,.list false S]):=by
 have hj':(j:Int) < (n:Int):=by omega
 have hcl:c < st.length:=(AB.1 hc).1
 have hol:o < st.length:=(AB.1 ho).1
 have hGl:j*2+1 < G.length:=(AB.1 hF).1
 have hGl':j*2+1+1≤G.length:=hGl
 have ho3:∀ a b,(st.set o (.cells a)++[b])[o]?=some (.cells a):=fun a b=>l5 (L7 ho)
 have hb:Nat.blt c st.length=true:=by rw [Nat.blt_eq]; exact hcl
 have h1:1*128≤2 ^ 47:=by decide
 simp +contextual -implicitDefEqProofs only [W6,SS,rA,rS,rL,rE,reduceCtorEq,hc,ho,hj',hF,s7,Y6,Nat.beq_refl,AY,hb,ho3,hGl',h1]
 rw [b7v hol,b5J _ _ _ _ hGl]
theorem c7T (hF:G[j*2+1]?=some (.list true [])) (call:d8) (N:Nat) :
 i6 call N a169s21 [.ptr c 0,.agg [.int .u8 k,.str al,.str nm,.str on,.list false A,.list false D,.list false S],.box [.int .u8 k,.str al,.str nm,.str on,.list false A,.list false D,.list false S],.ptr p 0,.int .i64 j,v5,v6,v7] st=some (.normal,[.ptr c 0,.agg [.int .u8 k,.str al,.str nm,.str on,.list false A,.list false D,.list false S],.box [.int .u8 k,.str al,.str nm,.str on,.list false A,.list false D,.list false S],.ptr p 0,.int .i64 j,.agg [.int .u8 k,.str al,.str nm,.str on,.list false A,.list false D,.list false S],.int .i64 0,.sl st.length 0 1 7],stM st o (G.set (j*2+1) (.sl st.length 0 1 7)) [.int .u8 k,.str al,.str nm,.str on,.list false A,.list false D,.list false S]):=by
 have hj':(j:Int) < (n:Int):=by omega
 have hcl:c < st.length:=(AB.1 hc).1
 have hol:o < st.length:=(AB.1 ho).1
 have hGl:j*2+1 < G.length:=(AB.1 hF).1
 have hGl':j*2+1+1≤G.length:=hGl
 have ho3:∀ a b,(st.set o (.cells a)++[b])[o]?=some (.cells a):=fun a b=>l5 (L7 ho)
 have hn3:∀ a b z,((st.set o a++[b]).set o z)[st.length]?=some b:=fun a b z=>by
  rw [List.getElem?_set_ne (by omega),List.getElem?_append_right (by simp)]
  simp
 have h1:1*128≤2 ^ 47:=by decide
 have h01:((0:Nat):Int) < ((1:Nat):Int):=by decide
 simp +contextual -implicitDefEqProofs only [W6,SS,rA,rS,rL,rE,reduceCtorEq,hc,ho,hj',hF,s7,Y6,Nat.beq_refl,AY,ho3,hGl',hn3,h1,h01,Nat.zero_mul]
 rw [b7v hol,b5J _ _ _ _ hGl]
 rw [c3X]
 rfl
theorem c7u (hF:G[j*2+1]?=some (.sl fo 0 m 7)) (hX:st[fo]?=some (.cells X)) (hne:fo≠o) (hcf:c≠fo) (hXl:X.length=m*7) (hm:(m+1)*128≤2 ^ 47) (call:d8) (N:Nat) :
 i6 call N (.either [5,6,7] a169s21 a169s23) [.ptr c 0,.agg [.int .u8 k,.str al,.str nm,.str on,.list false A,.list false D,.list false S],.box [.int .u8 k,.str al,.str nm,.str on,.list false A,.list false D,.list false S],.ptr p 0,.int .i64 j,v5,v6,v7] st=some (.normal,[.ptr c 0,.agg [.int .u8 k,.str al,.str nm,.str on,.list false A,.list false D,.list false S],.box [.int .u8 k,.str al,.str nm,.str on,.list false A,.list false D,.list false S],.ptr p 0,.int .i64 j,.undef,.undef,.undef],stN st o fo (G.set (j*2+1) (.sl st.length 0 (m+1) 7)) (X++[.int .u8 k,.str al,.str nm,.str on,.list false A,.list false D,.list false S])):=by
 rw [a4R,c6W k al nm on A D S hc ho hj hF hX hne hcf hXl hm,c6U k al nm on A D S hc ho hj hF hX hne hcf hXl hm]
 exact (a0M rfl).trans rfl
theorem c7g (hF:G[j*2+1]?=some (.list true [])) (call:d8) (N:Nat) :
 i6 call N (.either [5,6,7] a169s21 a169s23) [.ptr c 0,.agg [.int .u8 k,.str al,.str nm,.str on,.list false A,.list false D,.list false S],.box [.int .u8 k,.str al,.str nm,.str on,.list false A,.list false D,.list false S],.ptr p 0,.int .i64 j,v5,v6,v7] st=some (.normal,[.ptr c 0,.agg [.int .u8 k,.str al,.str nm,.str on,.list false A,.list false D,.list false S],.box [.int .u8 k,.str al,.str nm,.str on,.list false A,.list false D,.list false S],.ptr p 0,.int .i64 j,.undef,.undef,.undef],stM st o (G.set (j*2+1) (.sl st.length 0 1 7)) [.int .u8 k,.str al,.str nm,.str on,.list false A,.list false D,.list false S]):=by
 rw [a4R,c7T k al nm on A D S hc ho hj hF,c6Y k al nm on A D S hc ho hj hF]
 exact (a0M rfl).trans rfl
end
end Go.Cb.CodeA
