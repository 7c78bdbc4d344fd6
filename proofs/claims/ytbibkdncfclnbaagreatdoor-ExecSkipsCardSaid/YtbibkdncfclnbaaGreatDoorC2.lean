import Derived.Test.YtbibkdncfclnbaaGreatDoorC1
set_option maxRecDepth 20000
set_option linter.unusedSimpArgs false
set_option linter.unusedVariables false
namespace Go.Cb.CodeA
open Go Go.Cb
open Nat renaming reduceAdd→rA,reduceSub→rS,reduceLeDiff→rL,reduceEqDiff→rE
attribute [local congr] g8 i7 j0 j1 i6 g9 j5 j4 V.runR_congr

theorem j6 {st:St} {o i:Nat} {x y:Obj} (h:st[i]?=some x) (hne:o≠i):(st.set o y)[i]?=some x:=by rw [List.getElem?_set_ne hne]; exact h
theorem j8 {st:St} {i:Nat} {x y:Obj} (h:st[i]?=some x):(st++[y])[i]?=some x:=by rw [List.getElem?_append_left (List.getElem?_eq_some_iff.1 h).1]; exact h
theorem m9 (st:St) (y:Obj):(st++[y])[st.length]?=some y:=by rw [List.getElem?_append_right (Nat.le_refl _),Nat.sub_self]; rfl
theorem b39 {α:Type} (l:List α) (i:Nat) (a b:α) (h:i < l.length):(l.set i a).take i++[b]++(l.set i a).drop (i+1)=l.set i b:=by
 rw [List.set_eq_take_append_cons_drop,if_pos h,List.set_eq_take_append_cons_drop,if_pos h]
 have h1:(l.take i).length=i:=by rw [List.length_take]; omega
 rw [List.take_append_of_le_length (by omega),List.take_of_length_le (by omega)]
 rw [List.drop_append,h1,List.drop_of_length_le (by omega),show i+1 - i=1 by omega]
 simp
/-- a field more for a group: the group's old list is gone, a new one stands behind all -/
def stN (st:St) (o fo:Nat) (G Y:List AV):St:=(st.set o (Cb.Obj.cells G)).set fo Cb.Obj.dead++[Cb.Obj.cells Y]
theorem b42 {st:St} {o fo:Nat} {G0 G Y:List AV} (hne:fo≠o) (ho:o < st.length):((st.set o (.cells G0)).set fo .dead++[Cb.Obj.cells Y]).set o (Cb.Obj.cells G)=stN st o fo G Y:=by
 rw [stN,List.set_append_left _ _ (by simpa using ho),List.set_comm _ _ hne,List.set_set]
def stM (st:St) (o:Nat) (G Y:List AV):St:=st.set o (Cb.Obj.cells G)++[Cb.Obj.cells Y]
theorem b7H {st:St} {o:Nat} {G0 G Y:List AV} (ho:o < st.length):(st.set o (.cells G0)++[Cb.Obj.cells Y]).set o (Cb.Obj.cells G)=stM st o G Y:=by
 rw [stM,List.set_append_left _ _ (by simpa using ho),List.set_set]
theorem c2q (st:St) (o fo:Nat) (G Y Z:List AV):(stN st o fo G Y).set st.length (Cb.Obj.cells Z)=stN st o fo G Z:=by
 unfold stN
 have h:st.length=((st.set o (Cb.Obj.cells G)).set fo Cb.Obj.dead).length:=by simp
 rw [List.set_append_right _ _ (by omega),← h,Nat.sub_self]
 rfl
theorem c28 (st:St) (o:Nat) (G Y Z:List AV):(stM st o G Y).set st.length (Cb.Obj.cells Z)=stM st o G Z:=by
 unfold stM
 have h:st.length=(st.set o (Cb.Obj.cells G)).length:=by simp
 rw [List.set_append_right _ _ (by omega),← h,Nat.sub_self]
 rfl
theorem a4h (call:b9) (N:Nat) (kill:List Nat) (a b:ACode) (fr:List AV) (st:St):e9 call N (.either kill a b) fr st=a1K kill (e9 call N a fr st) (e9 call N b fr st):=a8 rfl
section
variable {K:Cfg} {c o n j p fo m:Nat} {sn v5 v6 v7:AV} {G X:List AV} {st:St} (k:Int) (al nm on:List Nat) (A D S:List (List AV))
 (hc:st[c]?=some (.cells (q8 K sn (.sl o 0 n 2)))) (ho:st[o]?=some (.cells G)) (hj:j < n)
include hc ho hj
theorem c6u (hF:G[j*2+1]?=some (.sl fo 0 m 7)) (hX:st[fo]?=some (.cells X)) (hne:fo≠o) (hcf:c≠fo) (hXl:X.length=m*7) (hm:(m+1)*128≤2 ^ 47) (call:b9) (N:Nat) :
 e9 call N a169s23 [.ptr c 0,.agg [.int .u8 k,.str al,.str nm,.str on,.list false A,.list false D,.list false S],.box [.int .u8 k,.str al,.str nm,.str on,.list false A,.list false D,.list false S],.ptr p 0,.int .i64 j,v5,v6,v7] st=some (.normal,[.ptr c 0,.agg [.int .u8 k,.str al,.str nm,.str on,.list false A,.list false D,.list false S],.box [.int .u8 k,.str al,.str nm,.str on,.list false A,.list false D,.list false S],.ptr p 0,.int .i64 j,v5,v6,v7],stN st o fo (G.set (j*2+1) (.sl st.length 0 (m+1) 7)) (X++[.int .u8 k,.str al,.str nm,.str on,.list false A,.list false D,.list false S])):=by
 have hj':(j:Int) < (n:Int):=by omega
 have hX1:∀ y,(st.set o y)[fo]?=some (.cells X):=fun y=>j6 hX (by omega)
 have hcl:c < st.length:=(List.getElem?_eq_some_iff.1 hc).1
 have hol:o < st.length:=(List.getElem?_eq_some_iff.1 ho).1
 have hGl:j*2+1 < G.length:=(List.getElem?_eq_some_iff.1 hF).1
 have hGl':j*2+1+1≤G.length:=hGl
 have ho3:∀ a b x,((st.set o (.cells a)).set fo x++[b])[o]?=some (.cells a):=fun a b x=>j8 (j6 (K3 ho) hne)
 have hb:Nat.blt c st.length=true:=by rw [Nat.blt_eq]; exact hcl
 have hb2:Nat.beq c fo=false:=by cases h:Nat.beq c fo with|false=>rfl|true=>exact absurd (Nat.eq_of_beq_eq_true h) hcf
 simp +contextual -implicitDefEqProofs only [U6,SS,rA,rS,rL,rE,reduceCtorEq,hc,ho,hj',hF,q8,W6,Nat.beq_refl,hX1,hXl,hm,List.length_set,hb,hb2,ho3,hGl']
 rw [b42 hne hol,b39 _ _ _ _ hGl]
theorem c3L (hF:G[j*2+1]?=some (.sl fo 0 m 7)) (hX:st[fo]?=some (.cells X)) (hne:fo≠o) (hcf:c≠fo) (hXl:X.length=m*7) (hm:(m+1)*128≤2 ^ 47) (call:b9) (N:Nat) :
 e9 call N a169s21 [.ptr c 0,.agg [.int .u8 k,.str al,.str nm,.str on,.list false A,.list false D,.list false S],.box [.int .u8 k,.str al,.str nm,.str on,.list false A,.list false D,.list false S],.ptr p 0,.int .i64 j,v5,v6,v7] st=some (.normal,[.ptr c 0,.agg [.int .u8 k,.str al,.str nm,.str on,.list false A,.list false D,.list false S],.box [.int .u8 k,.str al,.str nm,.str on,.list false A,.list false D,.list false S],.ptr p 0,.int .i64 j,.agg [.int .u8 k,.str al,.str nm,.str on,.list false A,.list false D,.list false S],.int .i64 m,.sl st.length 0 (m+1) 7],stN st o fo (G.set (j*2+1) (.sl st.length 0 (m+1) 7)) (X++[.int .u8 k,.str al,.str nm,.str on,.list false A,.list false D,.list false S])):=by
 have hj':(j:Int) < (n:Int):=by omega
 have hm':(m:Int) < ((m+1:Nat):Int):=by omega
 have hX1:∀ y,(st.set o y)[fo]?=some (.cells X):=fun y=>j6 hX (by omega)
 have hcl:c < st.length:=(List.getElem?_eq_some_iff.1 hc).1
 have hol:o < st.length:=(List.getElem?_eq_some_iff.1 ho).1
 have hGl:j*2+1 < G.length:=(List.getElem?_eq_some_iff.1 hF).1
 have hGl':j*2+1+1≤G.length:=hGl
 have ho3:∀ a b x,((st.set o (.cells a)).set fo x++[b])[o]?=some (.cells a):=fun a b x=>j8 (j6 (K3 ho) hne)
 have hn3:∀ a b x z,(((st.set o a).set fo x++[b]).set o z)[st.length]?=some b:=fun a b x z=>by
  rw [List.getElem?_set_ne (by omega),List.getElem?_append_right (by simp)]
  simp
 have hs7:m*7+7≤X.length+7:=by omega
 simp +contextual -implicitDefEqProofs only [U6,SS,rA,rS,rL,rE,reduceCtorEq,hc,ho,hj',hF,q8,W6,Nat.beq_refl,hX1,hXl,hm,hm',List.length_set,ho3,hGl',hn3,List.length_append,hs7]
 rw [b42 hne hol,b39 _ _ _ _ hGl]
 have e1:List.take (m*7) (X++[AV.int .u8 0,.str [],.str [],.str [],.list true [],.list true [],.list true []])=X:=by rw [← hXl]; simp
 have e2:List.drop (m*7+7) (X++[AV.int .u8 0,.str [],.str [],.str [],.list true [],.list true [],.list true []])=[]:=List.drop_of_length_le (by simp; omega)
 rw [e1,e2,List.append_nil]
 rw [c2q]
theorem c4C (hF:G[j*2+1]?=some (.list true [])) (call:b9) (N:Nat) :
 e9 call N a169s23 [.ptr c 0,.agg [.int .u8 k,.str al,.str nm,.str on,.list false A,.list false D,.list false S],.box [.int .u8 k,.str al,.str nm,.str on,.list false A,.list false D,.list false S],.ptr p 0,.int .i64 j,v5,v6,v7] st=some (.normal,[.ptr c 0,.agg [.int .u8 k,.str al,.str nm,.str on,.list false A,.list false D,.list false S],.box [.int .u8 k,.str al,.str nm,.str on,.list false A,.list false D,.list false S],.ptr p 0,.int .i64 j,v5,v6,v7],stM st o (G.set (j*2+1) (.sl st.length 0 1 7)) [.int .u8 k,.str al,.str nm,.str on,.list false A,.list false D,.list false S]):=by
 have hj':(j:Int) < (n:Int):=by omega
 have hcl:c < st.length:=(List.getElem?_eq_some_iff.1 hc).1
 have hol:o < st.length:=(List.getElem?_eq_some_iff.1 ho).1
 have hGl:j*2+1 < G.length:=(List.getElem?_eq_some_iff.1 hF).1
 have hGl':j*2+1+1≤G.length:=hGl
 have ho3:∀ a b,(st.set o (.cells a)++[b])[o]?=some (.cells a):=fun a b=>j8 (K3 ho)
 have hb:Nat.blt c st.length=true:=by rw [Nat.blt_eq]; exact hcl
 have h1:1*128≤2 ^ 47:=by decide
 simp +contextual -implicitDefEqProofs only [U6,SS,rA,rS,rL,rE,reduceCtorEq,hc,ho,hj',hF,q8,W6,Nat.beq_refl,List.length_set,hb,ho3,hGl',h1]
 rw [b7H hol,b39 _ _ _ _ hGl]
theorem c4I (hF:G[j*2+1]?=some (.list true [])) (call:b9) (N:Nat) :
 e9 call N a169s21 [.ptr c 0,.agg [.int .u8 k,.str al,.str nm,.str on,.list false A,.list false D,.list false S],.box [.int .u8 k,.str al,.str nm,.str on,.list false A,.list false D,.list false S],.ptr p 0,.int .i64 j,v5,v6,v7] st=some (.normal,[.ptr c 0,.agg [.int .u8 k,.str al,.str nm,.str on,.list false A,.list false D,.list false S],.box [.int .u8 k,.str al,.str nm,.str on,.list false A,.list false D,.list false S],.ptr p 0,.int .i64 j,.agg [.int .u8 k,.str al,.str nm,.str on,.list false A,.list false D,.list false S],.int .i64 0,.sl st.length 0 1 7],stM st o (G.set (j*2+1) (.sl st.length 0 1 7)) [.int .u8 k,.str al,.str nm,.str on,.list false A,.list false D,.list false S]):=by
 have hj':(j:Int) < (n:Int):=by omega
 have hcl:c < st.length:=(List.getElem?_eq_some_iff.1 hc).1
 have hol:o < st.length:=(List.getElem?_eq_some_iff.1 ho).1
 have hGl:j*2+1 < G.length:=(List.getElem?_eq_some_iff.1 hF).1
 have hGl':j*2+1+1≤G.length:=hGl
 have ho3:∀ a b,(st.set o (.cells a)++[b])[o]?=some (.cells a):=fun a b=>j8 (K3 ho)
 have hn3:∀ a b z,((st.set o a++[b]).set o z)[st.length]?=some b:=fun a b z=>by
  rw [List.getElem?_set_ne (by omega),List.getElem?_append_right (by simp)]
  simp
 have h1:1*128≤2 ^ 47:=by decide
 have h01:((0:Nat):Int) < ((1:Nat):Int):=by decide
 simp +contextual -implicitDefEqProofs only [U6,SS,rA,rS,rL,rE,reduceCtorEq,hc,ho,hj',hF,q8,W6,Nat.beq_refl,List.length_set,ho3,hGl',hn3,h1,h01,Nat.zero_mul]
 rw [b7H hol,b39 _ _ _ _ hGl]
 rw [c28]
 rfl
theorem c5i (hF:G[j*2+1]?=some (.sl fo 0 m 7)) (hX:st[fo]?=some (.cells X)) (hne:fo≠o) (hcf:c≠fo) (hXl:X.length=m*7) (hm:(m+1)*128≤2 ^ 47) (call:b9) (N:Nat) :
 e9 call N (.either [5,6,7] a169s21 a169s23) [.ptr c 0,.agg [.int .u8 k,.str al,.str nm,.str on,.list false A,.list false D,.list false S],.box [.int .u8 k,.str al,.str nm,.str on,.list false A,.list false D,.list false S],.ptr p 0,.int .i64 j,v5,v6,v7] st=some (.normal,[.ptr c 0,.agg [.int .u8 k,.str al,.str nm,.str on,.list false A,.list false D,.list false S],.box [.int .u8 k,.str al,.str nm,.str on,.list false A,.list false D,.list false S],.ptr p 0,.int .i64 j,.undef,.undef,.undef],stN st o fo (G.set (j*2+1) (.sl st.length 0 (m+1) 7)) (X++[.int .u8 k,.str al,.str nm,.str on,.list false A,.list false D,.list false S])):=by
 rw [a4h,c3L k al nm on A D S hc ho hj hF hX hne hcf hXl hm,c6u k al nm on A D S hc ho hj hF hX hne hcf hXl hm]
 exact (a1U rfl).trans rfl
theorem c6d (hF:G[j*2+1]?=some (.list true [])) (call:b9) (N:Nat) :
 e9 call N (.either [5,6,7] a169s21 a169s23) [.ptr c 0,.agg [.int .u8 k,.str al,.str nm,.str on,.list false A,.list false D,.list false S],.box [.int .u8 k,.str al,.str nm,.str on,.list false A,.list false D,.list false S],.ptr p 0,.int .i64 j,v5,v6,v7] st=some (.normal,[.ptr c 0,.agg [.int .u8 k,.str al,.str nm,.str on,.list false A,.list false D,.list false S],.box [.int .u8 k,.str al,.str nm,.str on,.list false A,.list false D,.list false S],.ptr p 0,.int .i64 j,.undef,.undef,.undef],stM st o (G.set (j*2+1) (.sl st.length 0 1 7)) [.int .u8 k,.str al,.str nm,.str on,.list false A,.list false D,.list false S]):=by
 rw [a4h,c4I k al nm on A D S hc ho hj hF,c4C k al nm on A D S hc ho hj hF]
 exact (a1U rfl).trans rfl
end
end Go.Cb.CodeA
