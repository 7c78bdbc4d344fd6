import Derived.Test.YtbibkdncfclnbaaGreatDoorC1
set_option maxRecDepth 20000
set_option linter.all false
namespace Go.Cb.CodeA
open Go Go.Cb
open Nat renaming reduceAdd→rA,reduceSub→rS,reduceLeDiff→rL,reduceEqDiff→rE
attribute [local congr] g9 j3 j4 j5 i8 j0 j8 j9 V.runR_congr
theorem m5 {st:St} {o i:Nat} {x y:Obj} (h:st[i]?=some x) (e:o≠i):(st.set o y)[i]?=some x:=by rw[List.getElem?_set_ne e]; exact h
theorem m3 {st:St} {i:Nat} {x y:Obj} (h:st[i]?=some x):(st++[y])[i]?=some x:=by rw[List.getElem?_append_left (AB.1 h).1]; exact h
theorem p9 (st:St) (y:Obj):(st++[y])[st.length]?=some y:=by rw[List.getElem?_append_right (AK _),Nat.sub_self]; rfl
theorem b4N {α:Type} (l:List α) (i:Nat) (a b:α) (h:i < l.length):(l.set i a).take i++[b]++(l.set i a).drop (i+1)=l.set i b:=by
 rw[List.set_eq_take_append_cons_drop,if_pos h,List.set_eq_take_append_cons_drop,if_pos h];have e:(l.take i).length=i:=by rw[AP]; omega
 rw[List.take_append_of_le_length (by omega),List.take_of_length_le (by omega)];rw[List.drop_append,e,List.drop_of_length_le (by omega),show i+1 - i=1 by omega];simp
def stN (st:St) (o fo:Nat) (G Y:List AV):St:=(st.set o (Cb.Obj.cells G)).set fo Cb.Obj.dead++[Cb.Obj.cells Y]
theorem b9g {st:St} {o fo:Nat} {l G Y:List AV} (e:fo≠o) (t:o < st.length):((st.set o (.cells l)).set fo .dead++[Cb.Obj.cells Y]).set o (Cb.Obj.cells G)=stN st o fo G Y:=by rw[stN,List.set_append_left _ _ (by simpa using t),List.set_comm _ _ e,List.set_set]
def stM (st:St) (o:Nat) (G Y:List AV):St:=st.set o (Cb.Obj.cells G)++[Cb.Obj.cells Y]
theorem b7p {st:St} {o:Nat} {e G Y:List AV} (l:o < st.length):(st.set o (.cells e)++[Cb.Obj.cells Y]).set o (Cb.Obj.cells G)=stM st o G Y:=by rw[stM,List.set_append_left _ _ (by simpa using l),List.set_set]
theorem c58 (st:St) (o fo:Nat) (G Y Z:List AV):(stN st o fo G Y).set st.length (Cb.Obj.cells Z)=stN st o fo G Z:=by
 unfold stN;have h:st.length=((st.set o (Cb.Obj.cells G)).set fo Cb.Obj.dead).length:=by simp
 rw[List.set_append_right _ _ (by omega),← h,Nat.sub_self];rfl
theorem c5h (st:St) (o:Nat) (G Y Z:List AV):(stM st o G Y).set st.length (Cb.Obj.cells Z)=stM st o G Z:=by
 unfold stM;have h:st.length=(st.set o (Cb.Obj.cells G)).length:=by simp
 rw[List.set_append_right _ _ (by omega),← h,Nat.sub_self];rfl
theorem a6I (call:d8) (N:Nat) (kill:List Nat) (a b:ACode) (fr:List AV) (st:St):j1 call N (.either kill a b) fr st=a4i kill (j1 call N a fr st) (j1 call N b fr st):=a8 rfl
section
variable {K:Cfg} {c o n j p fo m:Nat} {sn v5 v6 v7:AV} {G X:List AV} {st:St} (k:Int) (al nm on:List Nat) (A D S:List (List AV))
 (hc:st[c]?=some (.cells (C1 K sn (.sl o 0 n 2)))) (ho:st[o]?=some (.cells G)) (hj:j < n)
include hc ho hj
theorem c96 (O:G[j*2+1]?=some (.sl fo 0 m 7)) (T:st[fo]?=some (.cells X)) (t:fo≠o) (C:c≠fo) (v:X.length=m*7) (W:(m+1)*128≤2 ^ 47) (call:d8) (N:Nat) :
 j1 call N a0o [.ptr c 0,.agg [.int .u8 k,.str al,.str nm,.str on,.list false A,.list false D,.list false S],.box [.int .u8 k,.str al,.str nm,.str on,.list false A,.list false D,.list false S],.ptr p 0,.int .i64 j,v5,v6,v7] st=some (.normal,[.ptr c 0,.agg [.int .u8 k,.str al,.str nm,.str on,.list false A,.list false D,.list false S],.box [.int .u8 k,.str al,.str nm,.str on,.list false A,.list false D,.list false S],.ptr p 0,.int .i64 j,v5,v6,v7],stN st o fo (G.set (j*2+1) (.sl st.length 0 (m+1) 7)) (X++[.int .u8 k,.str al,.str nm,.str on,.list false A,.list false D,.list false S])):=by
 have J:(j:Int) < (n:Int):=by omega
 have u:∀ y,(st.set o y)[fo]?=some (.cells X):=fun y=>m5 T (by omega)
 have I:c < st.length:=(AB.1 hc).1;have M:o < st.length:=(AB.1 ho).1;have e:j*2+1 < G.length:=(AB.1 O).1;have l:j*2+1+1≤G.length:=e;have L:∀ a b x,((st.set o (.cells a)).set fo x++[b])[o]?=some (.cells a):=fun a b x=>m3 (m5 (r7 ho) t)
 have U:Nat.blt c st.length=true:=by rw[Nat.blt_eq]; exact I
 have z:Nat.beq c fo=false:=by cases h:Nat.beq c fo with|false=>rfl|true=>exact absurd (Nat.eq_of_beq_eq_true h) C
 simp only[a0J,rA,rE,hc,ho,J,O,C1,a2g,Nat.beq_refl,u,v,W,Ab,U,z,L,l];rw[b9g t M,b4N _ _ _ _ e]
theorem c9a (O:G[j*2+1]?=some (.sl fo 0 m 7)) (U:st[fo]?=some (.cells X)) (u:fo≠o) (W:c≠fo) (t:X.length=m*7) (Z:(m+1)*128≤2 ^ 47) (call:d8) (N:Nat) :
 j1 call N a2d [.ptr c 0,.agg [.int .u8 k,.str al,.str nm,.str on,.list false A,.list false D,.list false S],.box [.int .u8 k,.str al,.str nm,.str on,.list false A,.list false D,.list false S],.ptr p 0,.int .i64 j,v5,v6,v7] st=some (.normal,[.ptr c 0,.agg [.int .u8 k,.str al,.str nm,.str on,.list false A,.list false D,.list false S],.box [.int .u8 k,.str al,.str nm,.str on,.list false A,.list false D,.list false S],.ptr p 0,.int .i64 j,.agg [.int .u8 k,.str al,.str nm,.str on,.list false A,.list false D,.list false S],.int .i64 m,.sl st.length 0 (m+1) 7],stN st o fo (G.set (j*2+1) (.sl st.length 0 (m+1) 7)) (X++[.int .u8 k,.str al,.str nm,.str on,.list false A,.list false D,.list false S])):=by
 have C:(j:Int) < (n:Int):=by omega
 have I:(m:Int) < ((m+1:Nat):Int):=by omega
 have v:∀ y,(st.set o y)[fo]?=some (.cells X):=fun y=>m5 U (by omega)
 have Y:c < st.length:=(AB.1 hc).1;have M:o < st.length:=(AB.1 ho).1;have e:j*2+1 < G.length:=(AB.1 O).1;have l:j*2+1+1≤G.length:=e;have L:∀ a b x,((st.set o (.cells a)).set fo x++[b])[o]?=some (.cells a):=fun a b x=>m3 (m5 (r7 ho) u)
 have J:∀ a b x z,(((st.set o a).set fo x++[b]).set o z)[st.length]?=some b:=fun a b x z=>by rw[List.getElem?_set_ne (by omega),List.getElem?_append_right (by simp)];simp
 have a0:m*7+7≤X.length+7:=by omega
 simp only[a0J,rA,rE,hc,ho,C,O,C1,v,t,Z,I,Ab,L,l,J,AF];rw[b9g u M,b4N _ _ _ _ e];have T:List.take (m*7) (X++[AV.int .u8 0,.str [],.str [],.str [],.list true [],.list true [],.list true []])=X:=by rw[← t]; simp
 have e2:List.drop (m*7+7) (X++[AV.int .u8 0,.str [],.str [],.str [],.list true [],.list true [],.list true []])=[]:=List.drop_of_length_le (by simp; omega);rw[T,e2,List.append_nil];rw[c58]
theorem c8n (y:G[j*2+1]?=some (.list true [])) (call:d8) (N:Nat) :
 j1 call N a0o [.ptr c 0,.agg [.int .u8 k,.str al,.str nm,.str on,.list false A,.list false D,.list false S],.box [.int .u8 k,.str al,.str nm,.str on,.list false A,.list false D,.list false S],.ptr p 0,.int .i64 j,v5,v6,v7] st=some (.normal,[.ptr c 0,.agg [.int .u8 k,.str al,.str nm,.str on,.list false A,.list false D,.list false S],.box [.int .u8 k,.str al,.str nm,.str on,.list false A,.list false D,.list false S],.ptr p 0,.int .i64 j,v5,v6,v7],stM st o (G.set (j*2+1) (.sl st.length 0 1 7)) [.int .u8 k,.str al,.str nm,.str on,.list false A,.list false D,.list false S]):=by
 have u:(j:Int) < (n:Int):=by omega
 have t:c < st.length:=(AB.1 hc).1;have x:o < st.length:=(AB.1 ho).1;have e:j*2+1 < G.length:=(AB.1 y).1;have l:j*2+1+1≤G.length:=e;have v:∀ a b,(st.set o (.cells a)++[b])[o]?=some (.cells a):=fun a b=>m3 (r7 ho)
 have C:Nat.blt c st.length=true:=by rw[Nat.blt_eq]; exact t
 have z:1*128≤2 ^ 47:=by decide
 simp only[a0J,rA,rE,hc,ho,u,y,C1,a2g,Nat.beq_refl,Ab,C,v,l,z];rw[b7p x,b4N _ _ _ _ e]
theorem c64 (C:G[j*2+1]?=some (.list true [])) (call:d8) (N:Nat) :
 j1 call N a2d [.ptr c 0,.agg [.int .u8 k,.str al,.str nm,.str on,.list false A,.list false D,.list false S],.box [.int .u8 k,.str al,.str nm,.str on,.list false A,.list false D,.list false S],.ptr p 0,.int .i64 j,v5,v6,v7] st=some (.normal,[.ptr c 0,.agg [.int .u8 k,.str al,.str nm,.str on,.list false A,.list false D,.list false S],.box [.int .u8 k,.str al,.str nm,.str on,.list false A,.list false D,.list false S],.ptr p 0,.int .i64 j,.agg [.int .u8 k,.str al,.str nm,.str on,.list false A,.list false D,.list false S],.int .i64 0,.sl st.length 0 1 7],stM st o (G.set (j*2+1) (.sl st.length 0 1 7)) [.int .u8 k,.str al,.str nm,.str on,.list false A,.list false D,.list false S]):=by
 have u:(j:Int) < (n:Int):=by omega
 have J:c < st.length:=(AB.1 hc).1;have y:o < st.length:=(AB.1 ho).1;have e:j*2+1 < G.length:=(AB.1 C).1;have l:j*2+1+1≤G.length:=e;have x:∀ a b,(st.set o (.cells a)++[b])[o]?=some (.cells a):=fun a b=>m3 (r7 ho)
 have v:∀ a b z,((st.set o a++[b]).set o z)[st.length]?=some b:=fun a b z=>by rw[List.getElem?_set_ne (by omega),List.getElem?_append_right (by simp)];simp
 have I:1*128≤2 ^ 47:=by decide
 have t:((0:Nat):Int) < ((1:Nat):Int):=by decide
 simp only[a0J,rA,rE,hc,ho,u,C,C1,Ab,x,l,v,I,t,Nat.zero_mul];rw[b7p y,b4N _ _ _ _ e];rw[c5h];rfl
theorem c95 (u:G[j*2+1]?=some (.sl fo 0 m 7)) (v:st[fo]?=some (.cells X)) (t:fo≠o) (l:c≠fo) (e:X.length=m*7) (x:(m+1)*128≤2 ^ 47) (call:d8) (N:Nat) :
 j1 call N (.either [5,6,7] a2d a0o) [.ptr c 0,.agg [.int .u8 k,.str al,.str nm,.str on,.list false A,.list false D,.list false S],.box [.int .u8 k,.str al,.str nm,.str on,.list false A,.list false D,.list false S],.ptr p 0,.int .i64 j,v5,v6,v7] st=some (.normal,[.ptr c 0,.agg [.int .u8 k,.str al,.str nm,.str on,.list false A,.list false D,.list false S],.box [.int .u8 k,.str al,.str nm,.str on,.list false A,.list false D,.list false S],.ptr p 0,.int .i64 j,.undef,.undef,.undef],stN st o fo (G.set (j*2+1) (.sl st.length 0 (m+1) 7)) (X++[.int .u8 k,.str al,.str nm,.str on,.list false A,.list false D,.list false S])):=by
 rw[a6I,c9a k al nm on A D S hc ho hj u v t l e x,c96 k al nm on A D S hc ho hj u v t l e x];exact(a4K rfl).trans rfl
theorem c7c (e:G[j*2+1]?=some (.list true [])) (call:d8) (N:Nat) :
 j1 call N (.either [5,6,7] a2d a0o) [.ptr c 0,.agg [.int .u8 k,.str al,.str nm,.str on,.list false A,.list false D,.list false S],.box [.int .u8 k,.str al,.str nm,.str on,.list false A,.list false D,.list false S],.ptr p 0,.int .i64 j,v5,v6,v7] st=some (.normal,[.ptr c 0,.agg [.int .u8 k,.str al,.str nm,.str on,.list false A,.list false D,.list false S],.box [.int .u8 k,.str al,.str nm,.str on,.list false A,.list false D,.list false S],.ptr p 0,.int .i64 j,.undef,.undef,.undef],stM st o (G.set (j*2+1) (.sl st.length 0 1 7)) [.int .u8 k,.str al,.str nm,.str on,.list false A,.list false D,.list false S]):=by
 rw[a6I,c64 k al nm on A D S hc ho hj e,c8n k al nm on A D S hc ho hj e];exact(a4K rfl).trans rfl
end
end Go.Cb.CodeA
