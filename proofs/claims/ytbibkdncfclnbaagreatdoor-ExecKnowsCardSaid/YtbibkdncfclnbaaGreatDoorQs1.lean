import Derived.Test.YtbibkdncfclnbaaGreatDoorChV
import Derived.Test.YtbibkdncfclnbaaGreatDoorXAms3
set_option maxRecDepth 20000
set_option linter.all false
namespace Go.Cb.CodeA
open Go Go.Cb
open Nat renaming reduceAdd→rA,reduceSub→rS,reduceLeDiff→rL,reduceEqDiff→rE
attribute [local congr] g9 j3 j4 j5 i8 j0 j8 j9 V.runR_congr
def L4 (c:Int):Bool:=!ltI c 97 && !ltI 122 c || !ltI c 65 && !ltI 90 c || eqI c 95
def S1 (c:Int):Bool:=!ltI c 48 && !ltI 57 c
theorem a7e (c:Int) (st:St):EvQ tbl 139 [.int .u8 c] st (fun a st'=>st'=st∧a=.bool (L4 c)):=by refine wj (fn:=a139) rfl rfl rfl ?_;simp +contextual only [d4n,rS,rE];exact wc ⟨_,_,rfl,rfl,rfl⟩
theorem a9q (c:Int) (st:St):EvQ tbl 140 [.int .u8 c] st (fun a st'=>st'=st∧a=.bool (S1 c)):=by refine wj (fn:=a140) rfl rfl rfl ?_;simp +contextual only [d4o,rS,rE];exact wc ⟨_,_,rfl,rfl,rfl⟩
def a0B (p:Nat→Bool):List Nat→List Nat→List Nat×List Nat
 | acc,[]=>(acc,[])
 | acc,c::r=>if p c then a0B p (acc++[c]) r else(acc,c::r)
def X5 (c:Nat):Bool:=L4 (c:Int) || S1 (c:Int)
def NN (n:Int) (x:Nat):Int:=n7 .i64 (a3i (n7 .i64 (n*10)) (n7 .i64 (n7 .u8 (a1F (x:Int) 48))))
def a2H:Nat→Int→List Nat→List Nat→Nat×Int×List Nat×List Nat
 | c,n,acc,[]=>(c,n,acc,[])
 | c,n,acc,x::r=>if S1 (x:Int)then a2H (c+1) (if c < 18 then NN n x else n) (acc++[x]) r else(c,n,acc,x::r)
abbrev a3f:=Option (Int×List Nat×Int×List Nat)
def a0P (p:Nat→Bool):List Nat→Bool
 | []=>false
 | x::_=>p x
def a2E (m:Bool) (pre:List Nat) (c:Nat) (n:Int) (e r:List Nat):a3f :=
 if c=0 then none else(if a0P (fun x=>eqI (x:Int) 48) e && decide (1 < c)then none else(if a0P (fun x=>L4 (x:Int) || eqI (x:Int) 46) r then none else(if 18 < c then none else some (2,pre++e,if m then n7 .i64 (0 - n)else n,r))))
def a8H (m:Bool) (pre:List Nat) (x:Nat×Int×List Nat×List Nat):a3f:=a2E m pre x.1 x.2.1 x.2.2.1 x.2.2.2
def a3N:List Nat→a3f
 | []=>none
 | b::r=>if eqI (b:Int) 45 then a8H true [45] (a2H 0 0 [] r)else a8H false [] (a2H 0 0 [] (b::r))
def a3h (b:Nat):Option (List Nat):=if eqI (b:Int) 110 then some [10]else(if eqI (b:Int) 116 then some [9]else(if eqI (b:Int) 34 || eqI (b:Int) 47 || eqI (b:Int) 92 then some [b]else none))
def M6:List Nat→List Nat→a3f
 | _,[]=>none
 | t,[b]=>if eqI (b:Int) 34 then(if 200 < t.length then none else some (3,t,0,[]))else none
 | t,b::x::r=>if eqI (b:Int) 34 then(if 200 < t.length then none else some (3,t,0,x::r))else(if eqI (b:Int) 10 then none else(if eqI (b:Int) 92 then(match a3h x with|none=>none|some y=>M6 (t++y) r)else M6 (t++[b]) (x::r)))
def b6b (b:Nat):Bool:=eqI (b:Int) 33 || eqI (b:Int) 36 || eqI (b:Int) 40 || eqI (b:Int) 41 || eqI (b:Int) 58 || eqI (b:Int) 61 || eqI (b:Int) 64 || eqI (b:Int) 91 || eqI (b:Int) 93 || eqI (b:Int) 123 || eqI (b:Int) 124 || eqI (b:Int) 125 || eqI (b:Int) 38
def b0C (l:List Nat):a3f:=if 32 < (a0B X5 [] l).1.length then none else some (1,(a0B X5 [] l).1,0,(a0B X5 [] l).2)
def a4d:List Nat→a3f
 | 46::46::r=>some (4,[46,46,46],0,r)
 | _=>none
def a4G:List Nat→a3f
 | []=>none
 | b::r=>if L4 (b:Int)then b0C (b::r)else(if eqI (b:Int) 45 || S1 (b:Int)then a3N (b::r)else(if eqI (b:Int) 34 then M6 [] r else(if eqI (b:Int) 46 then a4d r else(if b6b b then some (4,[b],0,r)else none))))
theorem C5 {s:List Nat} {k b:Nat} (h:s[k]?=some b):s.drop k=b::s.drop (k+1):=by obtain⟨l,e⟩:=AB.1 h;rw[List.drop_eq_getElem_cons l,e]
theorem U7 {s:List Nat} {k:Nat} (h:s.length≤k):s.drop k=[]:=List.drop_of_length_le h
theorem Y7 {s:List Nat} {i k b:Nat} (l:i≤k) (h:s[k]?=some b):(s.take (k+1)).drop i=(s.take k).drop i++[b]:=by obtain⟨t,e⟩:=AB.1 h;rw[List.take_succ_eq_append_getElem t,List.drop_append_of_le_length (by rw[AP]; omega),e]
theorem U8 (s:List Nat) (i:Nat):(s.take i).drop i=[]:=List.drop_of_length_le (by rw[AP]; omega)
theorem b81 {s:List Nat} {i k:Nat} (e:k≤s.length):((s.take k).drop i).length=k - i:=by rw[List.length_drop,AP]; omega
theorem b70 {s:List Nat} {i f k:Nat} (u:i≤f) (t:f≤k):(s.take k).drop i=(s.take f).drop i++(s.take k).drop f:=by
 have e:s.take k=s.take f++(s.take k).drop f:=by
  have:=(List.take_append_drop f (s.take k)).symm
  rwa [List.take_take,Nat.min_eq_left t]at this
 by_cases l:i≤(s.take f).length
 · conv=>lhs; rw[e,List.drop_append_of_le_length l]
 · rw[AP]at l;have:s.length < i:=by omega
   rw[List.drop_of_length_le (by rw[AP]; omega),List.drop_of_length_le (by rw[AP]; omega),List.drop_of_length_le (by rw[AP]; omega)];rfl
def OneOK (s:List Nat) (i:Nat) (X:a3f) (a:AV):Prop:=∃ (k:Int) (t:List Nat) (n at':Int) (en:Nat) (bad e:Int),
 a=.tuple [.agg [.int .u8 k,.str t,.int .i64 n,.int .i64 at'],.int .i64 en,.int .i64 bad,.int .i64 e]∧(e=0→k≠0∧i < en∧en≤s.length)∧X=if e=0 then some (k,t,n,s.drop en)else none
theorem OneOK.bad {s:List Nat} {i:Nat} {X:a3f} {k:Int} {t:List Nat} {n at':Int} {en:Nat} {bad e:Int} (l:e≠0) (u:X=none) :
 OneOK s i X (.tuple [.agg [.int .u8 k,.str t,.int .i64 n,.int .i64 at'],.int .i64 en,.int .i64 bad,.int .i64 e]):=⟨_,_,_,_,_,_,_,rfl,fun h=>absurd h l,by rw[u,if_neg l]⟩
theorem OneOK.good {s:List Nat} {i:Nat} {X:a3f} {k:Int} {t:List Nat} {n at':Int} {en:Nat} {bad:Int} (v:k≠0) (e:i < en) (l:en≤s.length) (u:X=some (k,t,n,s.drop en)) :
 OneOK s i X (.tuple [.agg [.int .u8 k,.str t,.int .i64 n,.int .i64 at'],.int .i64 en,.int .i64 bad,.int .i64 0]):=⟨_,_,_,_,_,_,_,rfl,fun _=>⟨v,e,l⟩,by rw[u,if_pos rfl]⟩
theorem b2q {c:Nat} {n:Int} {e l:List Nat} (h:a0P (fun x=>S1 (x:Int)) l=false):a2H c n e l=(c,n,e,l):=by
 cases l with
 | nil=>rfl
 | cons x r=>rw[a2H,if_neg (by simpa[a0P]using h)]
theorem c0o {f k:Nat} (h:f≤k) (e:k < 2 ^ 60):n7 .i64 (a1F (k:Int) (f:Int))=((k - f:Nat):Int):=by rw[subI_eq,S2 (by omega) (by omega)]; omega
theorem a6D (s:List Nat) (i f:Nat) (m:Bool) (T:s.length≤2000) (N:i≤f) (M:f≤s.length) (st:St) {Q:Out→Prop} {K:Nat→Out→Option Out}
 (C:∀ (k:Nat) (n:Int),f≤k→k≤s.length→a2H 0 0 [] (s.drop f)=(k - f,n,(s.take k).drop f,s.drop k)→WC (fun O=>K O (.exit 0,[.str s,.int .i64 i,.box [.int .u8 0,.str [],.int .i64 0,.int .i64 0],.int .i64 0,.int .i64 0,.int .i64 0,.int .i64 k,.bool m,.int .i64 f,.int .i64 n],st)) Q) :
 WC (fun n=>obind (a8h (k8 tbl n) n (a141s15.seq (ACode.blk 1 (a141s19.seq a8W))) [.str s,.int .i64 i,.box [.int .u8 0,.str [],.int .i64 0,.int .i64 0],.int .i64 0,.int .i64 0,.int .i64 0,.int .i64 f,.bool m,.int .i64 f,.int .i64 0] st) (K n)) Q:=by
 refine wg (fun I fr st'=>st'=st∧∃ (k:Nat) (n:Int),f≤k∧k≤s.length∧I=s.length - k∧a2H 0 0 [] (s.drop f)=a2H (k - f) n ((s.take k).drop f) (s.drop k)∧fr=[.str s,.int .i64 i,.box [.int .u8 0,.str [],.int .i64 0,.int .i64 0],.int .i64 0,.int .i64 0,.int .i64 0,.int .i64 k,.bool m,.int .i64 f,.int .i64 n]) (m:=s.length - f) ⟨rfl,f,0,AK _,M,rfl,by rw[U8,Nat.sub_self],rfl⟩ ?_;rintro I fr st' ⟨rfl,k,n,v,z,rfl,l,rfl⟩;simp only[M9,rE];by_cases u:k < s.length
 · have t:s[k]?=some s[k]:=AE u;revert t;generalize s[k]=b;intro t;simp only[SS,u,t];refine wa (a9q _ _) rfl rfl ?_;rintro _ _ ⟨rfl,rfl⟩;simp only[SS];refine wi (fun x=>?_) (fun x=>?_)
   · have y:S1 (b:Int)=true:=x;rw[C5 t,a2H,if_pos y,← Y7 v t]at l;have J:=c0o v (show k < 2 ^ 60 by omega);have e2:ltI ((k - f:Nat):Int) 18=decide (k - f < 18):=ltN _ 18;have L:k - f+1=k+1 - f:=by omega
     rw[L]at l;simp only[M9,rE,J,e2];by_cases e:k - f < 18
     · rw[if_pos e]at l;simp only[M9,rE,t,e,k7 (show k+1 < 2 ^ 63 by omega)];exact wd (m':=s.length - (k+1)) (by omega) ⟨rfl,k+1,_,by omega,u,rfl,l,rfl⟩
     · rw[if_neg e]at l;simp only[M9,rE,e,k7 (show k+1 < 2 ^ 63 by omega)];exact wd (m':=s.length - (k+1)) (by omega) ⟨rfl,k+1,_,by omega,u,rfl,l,rfl⟩
   · simp only[SS];exact we (C k n v z (l.trans (b2q (by rw[C5 t]; exact x))))
 · simp only[SS,u];exact we (C k n v z (l.trans (b2q (by rw[U7 (by omega)]; rfl))))
theorem a7F (s:List Nat) (i f k:Nat) (n:Int) (m:Bool) (hs:s.length≤2000) (T:i≤f) (Y:f≤k) (M:k≤s.length) (st:St) (hi:i < s.length) :
 WC (fun Z=>j1 (k8 tbl Z) Z ((ACode.blk 2 a8U).seq (a141s51.seq (a141s53.seq ACode.ret))) [.str s,.int .i64 i,.box [.int .u8 0,.str [],.int .i64 0,.int .i64 0],.int .i64 0,.int .i64 0,.int .i64 0,.int .i64 k,.bool m,.int .i64 f,.int .i64 n] st)
  (fun o=>∃ r st',finK [ResK.bx 2 true 4,ResK.v 3,ResK.v 4,ResK.v 5] (some o)=some (r,st')∧st'=st∧OneOK s i (a2E m ((s.take f).drop i) (k - f) n ((s.take k).drop f) (s.drop k)) r):=by
 have eN:eqI (k:Int) (f:Int)=decide (k=f):=c98 _ _;by_cases h:k=f
 · simp only[M9,rA,rE,h];exact wc ⟨_,_,rfl,rfl,OneOK.bad (en:=0) (by decide) (by rw[a2E,if_pos (Nat.sub_self _)])⟩
 simp only[M9,rE,eN,h];have N:f < k:=by omega
 have O:f < s.length:=by omega
 have u:s[f]?=some s[f]:=AE O;revert u;generalize s[f]=b;intro u;have i1:=k7 (show f+1 < 2 ^ 63 by omega);have J:¬ (k - f=0):=by omega
 have C:(s.take k).drop f=b::(s.take k).drop (f+1):=C5 (by rw[List.getElem?_take_of_lt N]; exact u);have eL:ltI ((f+1:Nat):Int) (k:Int)=decide (f+1 < k):=ltN _ _;have W:=c0o Y (show k < 2 ^ 60 by omega);have e2:ltI 18 ((k - f:Nat):Int)=decide (18 < k - f):=ltN 18 _;have I:=b70 T Y (s:=s);have e:a0P (fun x=>eqI (x:Int) 48) ((s.take k).drop f)=eqI (b:Int) 48:=by rw[C]; rfl
 have l:decide (1 < k - f)=decide (f+1 < k):=by apply decide_eq_decide.2; omega
 simp +contextual only [SS,u,i1,eL];refine wi (fun h=>?_) (fun h=>?_)
 · simp only[M9,rA,rE,i1];exact wc ⟨_,_,rfl,rfl,OneOK.bad (en:=0) (by decide) (by rw[a2E,if_neg J,e,l,if_pos h])⟩
 have U:¬ ((eqI (b:Int) 48 && decide (f+1 < k))=true):=by rw[h]; simp
 have fin:a0P (fun x=>L4 (x:Int) || eqI (x:Int) 46) (s.drop k)=false→¬ 18 < k - f→WC (fun y=>seqK (some (.normal,[.str s,.int .i64 i,.box [.int .u8 0,.str [],.int .i64 0,.int .i64 0],.int .i64 0,.int .i64 0,.int .i64 0,.int .i64 k,.bool m,.int .i64 f,.int .i64 n],st)) (j1 (k8 tbl y) y (a141s51.seq (a141s53.seq ACode.ret)))) (fun o=>∃ r st',finK [ResK.bx 2 true 4,ResK.v 3,ResK.v 4,ResK.v 5] (some o)=some (r,st')∧st'=st∧OneOK s i (a2E m ((s.take f).drop i) (k - f) n ((s.take k).drop f) (s.drop k)) r):=by
  intro L t;have hE:a2E m ((s.take f).drop i) (k - f) n ((s.take k).drop f) (s.drop k)=some (2,(s.take k).drop i,if m then n7 .i64 (0 - n)else n,s.drop k):=by rw[a2E,if_neg J,e,l,if_neg U,L,if_neg (by decide),if_neg t,I]
  rw[hE];cases m with
  | true =>simp only[M9,rA,rL,rE,M,show i≤k by omega];exact wc ⟨_,_,rfl,rfl,OneOK.good (by decide) (by omega) M rfl⟩
  | false =>simp only[M9,rA,rL,rE,M,show i≤k by omega];exact wc ⟨_,_,rfl,rfl,OneOK.good (by decide) (by omega) M rfl⟩
 have tail:a0P (fun x=>L4 (x:Int) || eqI (x:Int) 46) (s.drop k)=false→WC (fun y=>j1 (k8 tbl y) y ((ACode.blk 2 a8S).seq (a141s51.seq (a141s53.seq ACode.ret))) [.str s,.int .i64 i,.box [.int .u8 0,.str [],.int .i64 0,.int .i64 0],.int .i64 0,.int .i64 0,.int .i64 0,.int .i64 k,.bool m,.int .i64 f,.int .i64 n] st) (fun o=>∃ r st',finK [ResK.bx 2 true 4,ResK.v 3,ResK.v 4,ResK.v 5] (some o)=some (r,st')∧st'=st∧OneOK s i (a2E m ((s.take f).drop i) (k - f) n ((s.take k).drop f) (s.drop k)) r):=by
  intro L;by_cases t:18 < k - f
  · simp only[M9,rA,rE,W,e2,t];exact wc ⟨_,_,rfl,rfl,OneOK.bad (en:=0) (by decide) (by rw[a2E,if_neg J,e,l,if_neg U,L,if_neg (by decide),if_pos t])⟩
  · have fin:=fin L t;simp only[M9,rE,W,e2,t];simp only[M9]at fin;exact fin
 simp only[M9,rE];by_cases z:k < s.length
 · have u:s[k]?=some s[k]:=AE z;revert u;generalize s[k]=b;intro u;simp only[SS,z,u];refine wa (a7e _ _) rfl rfl ?_;rintro _ _ ⟨rfl,rfl⟩;simp +contextual only [SS,u];refine wi (fun h=>?_) (fun h=>?_)
   · simp only[M9,rA,rE];exact wc ⟨_,_,rfl,rfl,OneOK.bad (en:=0) (by decide) (by rw[a2E,if_neg J,e,l,if_neg U,C5 u,if_pos (show a0P (fun x=>L4 (x:Int) || eqI (x:Int) 46) (b::s.drop (k+1))=true from h)])⟩
   · have tail:=tail (by rw[C5 u]; exact h);simp only[M9,rE];simp only[M9,rE]at tail;exact tail
 · have tail:=tail (by rw[U7 (by omega)]; rfl);simp only[M9,rE,z];simp only[M9,rE]at tail;exact tail
theorem c0G (s:List Nat) (i:Nat) (t:s.length≤2000) (hi:i < s.length) (st:St):EvQ tbl 141 [.str s,.int .i64 i] st (fun a st'=>st'=st∧OneOK s i (a3N (s.drop i)) a):=by
 have e:s[i]?=some s[i]:=AE hi;revert e;generalize s[i]=b;intro e;refine wj (fn:=a141) rfl rfl rfl ?_;rw[C5 e];by_cases h:eqI (b:Int) 45=true
 · rw[a3N,if_pos h];have x:(s.take (i+1)).drop i=[45]:=by rw[Y7 (AK _) e,U8];rw[eqI_eq]at h;simp at h;simp; omega
   simp only[M9,rS,rE,e,h,k7 (show i+1 < 2 ^ 63 by omega)];refine a6D s i (i+1) _ t (by omega) hi st fun k n u v l=>?_
   have:=a7F s i (i+1) k n true t (by omega) u v st hi;rw[l,a8H,← x];simp only[M9,rE]at this ⊢;exact this
 · rw[a3N,if_neg h];simp only[Bool.not_eq_true]at h;simp only[M9,rS,rE,e,h];refine a6D s i i _ t (by omega) (by omega) st fun k n u v l=>?_
   have:=a7F s i i k n false t (by omega) u v st hi;rw[C5 e]at l;rw[U8]at this;rw[l,a8H];simp only[M9,rE]at this ⊢;exact this
theorem b4W (t:List Nat) (b:Nat) (r:List Nat):M6 t (b::r)=if eqI (b:Int) 34 then(if 200 < t.length then none else some (3,t,0,r))else(if eqI (b:Int) 10 then none else(if eqI (b:Int) 92 then(match r with|[]=>none|x::r'=>match a3h x with|none=>none|some y=>M6 (t++y) r')else M6 (t++[b]) r)):=by
 cases r with
 | nil=>rw[M6]; simp only[M6]; split<;>(try rfl)<;>split<;>(try rfl)<;>split<;>rfl
 | cons x r=>rw[M6]
theorem c6T (s:List Nat) (i:Nat) (hs:s.length≤2000) (hi:i < s.length) (st:St):EvQ tbl 142 [.str s,.int .i64 i] st (fun a st'=>st'=st∧OneOK s i (M6 [] (s.drop (i+1))) a):=by
 refine wj (fn:=a142) rfl rfl rfl ?_;simp only[M0,rS,rE,k7 (show i+1 < 2 ^ 63 by omega)];refine wg (fun Y fr st'=>st'=st∧∃ (t:List Nat) (k:Nat) (Z v9 O:AV),i+1≤k∧k≤s.length∧t.length≤k∧Y=s.length - k∧M6 [] (s.drop (i+1))=M6 t (s.drop k)∧fr=[.str s,.int .i64 i,.box [.int .u8 0,.str [],.int .i64 0,.int .i64 0],.int .i64 0,.int .i64 0,.int .i64 0,.str t,.int .i64 k,Z,v9,O]) (m:=s.length - (i+1)) ⟨rfl,[],i+1,_,_,_,AK _,hi,by simp,rfl,rfl,rfl⟩ ?_;rintro Y fr st' ⟨rfl,t,k,Z,v9,O,h1,h2,ht,rfl,hX,rfl⟩;rw[hX];simp only[M0,rE];by_cases J:k < s.length
 case neg =>simp only[SS,J];refine we ?_;simp only[M0,rA,rE];exact wc ⟨_,_,rfl,rfl,OneOK.bad (en:=0) (by decide) (by rw[U7 (by omega),M6])⟩
 have I:s[k]?=some s[k]:=AE J;revert I;generalize s[k]=b;intro I;have i1:=k7 (show k+1 < 2 ^ 63 by omega);have i2:=k7 (show k+1+1 < 2 ^ 63 by omega);have W:ltI 200 (t.length:Int)=decide (200 < t.length):=ltN 200 _;have e:=b4W t b (s.drop (k+1));rw[← C5 I]at e;simp only[M0,rE,J,I];by_cases v:eqI (b:Int) 34=true
 · rw[if_pos v]at e;by_cases u:200 < t.length
   · rw[if_pos u]at e;simp only[M0,rA,rE,v,W,u];refine wh ?_;simp only[SS];exact wc ⟨_,_,rfl,rfl,OneOK.bad (en:=0) (by decide) e⟩
   · rw[if_neg u]at e;simp only[M0,rA,rL,rE,i1,v,W,u];refine wh ?_;simp only[SS];exact wc ⟨_,_,rfl,rfl,OneOK.good (by decide) (by omega) J e⟩
 rw[if_neg v]at e;simp only[Bool.not_eq_true]at v;simp only[M0,rE,v];refine wi (fun h=>?_) (fun h=>?_)
 · rw[if_pos h]at e;simp only[M0,rA,rE];refine wh ?_;simp only[SS];exact wc ⟨_,_,rfl,rfl,OneOK.bad (en:=0) (by decide) e⟩
 rw[h,if_neg (by decide)]at e;simp only[M0,rE];refine wi (fun h=>?_) (fun h=>?_)
 case refine_2 =>
  rw[h,if_neg (by decide)]at e;have l1:(s.take (k+1)).drop k=[b]:=by rw[Y7 (AK _) I,U8]; rfl
  have l2:t.length+1≤2 ^ 62:=by omega
  simp only[M0,rE,i1,show k+1≤s.length by omega,show k≤k+1 by omega,l1,l2];exact wd (m':=s.length - (k+1)) (by omega) ⟨rfl,_,k+1,_,_,_,by omega,J,by simp only[AF,AY,List.length_nil]; omega,rfl,e,rfl⟩
 rw[if_pos h]at e;simp only[M0,rE,i1];by_cases L:k+1=s.length
 · rw[U7 (show s.length≤k+1 by omega)]at e;simp only[M0,rA,rE,L];refine wh ?_;simp only[SS];exact wc ⟨_,_,rfl,rfl,OneOK.bad (en:=0) (by decide) e⟩
 have x:k+1 < s.length:=by omega
 have y:s[k+1]?=some s[k+1]:=AE x;revert y;generalize s[k+1]=l;intro y;have N:t.length+1≤2 ^ 62:=by omega
 rw[C5 y]at e;dsimp only at e;simp only[M0,rE,L,y];refine wi (fun h=>?_) (fun h=>?_)
 · have z:a3h l=some [10]:=by rw[a3h,if_pos h]
   rw[z]at e;simp only[M0,rE,i2,N];exact wd (m':=s.length - (k+1+1)) (by omega) ⟨rfl,_,k+1+1,_,_,_,by omega,x,by simp only[AF,AY,List.length_nil]; omega,rfl,e,rfl⟩
 have C:=h;simp only[M0,rE];refine wi (fun h=>?_) (fun h=>?_)
 · have z:a3h l=some [9]:=by rw[a3h,C,if_neg (by decide),if_pos h]
   rw[z]at e;simp only[M0,rE,i2,N];exact wd (m':=s.length - (k+1+1)) (by omega) ⟨rfl,_,k+1+1,_,_,_,by omega,x,by simp only[AF,AY,List.length_nil]; omega,rfl,e,rfl⟩
 have M:=h;have l1:(s.take (k+1+1)).drop (k+1)=[l]:=by rw[Y7 (AK _) y,U8]; rfl
 have good:(eqI (l:Int) 34 || eqI (l:Int) 47 || eqI (l:Int) 92)=true→M6 t (s.drop k)=M6 (t++[l]) (s.drop (k+1+1)):=by
  intro h;have z:a3h l=some [l]:=by rw[a3h,C,if_neg (by decide),M,if_neg (by decide),if_pos h]
  rw[z]at e;exact e
 simp only[M0];refine wi (fun h=>?_) (fun h=>?_)
 · simp only[h,M0,SS,rE,i2,show k+1+1≤s.length by omega,show k+1≤k+1+1 by omega,l1,N];exact wd (m':=s.length - (k+1+1)) (by omega) ⟨rfl,_,k+1+1,_,_,_,by omega,x,by simp only[AF,AY,List.length_nil]; omega,rfl,(good (by rw[show eqI (l:Int) 34=true from h]; rfl)),rfl⟩
 have T:=h;simp only[M0];refine wi (fun h=>?_) (fun h=>?_)
 · simp only[h,M0,SS,rE,i2,show k+1+1≤s.length by omega,show k+1≤k+1+1 by omega,l1,N];exact wd (m':=s.length - (k+1+1)) (by omega) ⟨rfl,_,k+1+1,_,_,_,by omega,x,by simp only[AF,AY,List.length_nil]; omega,rfl,(good (by rw[show eqI (l:Int) 47=true from h]; simp)),rfl⟩
 have U:=h;simp only[M0];refine wi (fun h=>?_) (fun h=>?_)
 · simp only[h,M0,SS,rE,i2,show k+1+1≤s.length by omega,show k+1≤k+1+1 by omega,l1,N];exact wd (m':=s.length - (k+1+1)) (by omega) ⟨rfl,_,k+1+1,_,_,_,by omega,x,by simp only[AF,AY,List.length_nil]; omega,rfl,(good (by rw[show eqI (l:Int) 92=true from h]; simp)),rfl⟩
 have z:a3h l=none:=by rw[a3h,C,if_neg (by decide),M,if_neg (by decide),show eqI (l:Int) 34=false from T,show eqI (l:Int) 47=false from U,show eqI (l:Int) 92=false from h,if_neg (by decide)]
 rw[z]at e;simp only[M0,rA,rE];refine wh ?_;simp only[SS];exact wc ⟨_,_,rfl,rfl,OneOK.bad (en:=0) (by decide) e⟩
theorem b8Z {p:Nat→Bool} {e l:List Nat} (h:a0P p l=false):a0B p e l=(e,l):=by
 cases l with
 | nil=>rfl
 | cons x r=>rw[a0B,if_neg (by simpa[a0P]using h)]
theorem d23 (s:List Nat) (i:Nat) (hs:s.length≤2000) (hi:i < s.length) (Y:St):EvQ tbl 94 [.str s,.int .i64 i] Y (fun a st'=>st'=Y∧OneOK s i (a4G (s.drop i)) a):=by
 have L:s[i]?=some s[i]:=AE hi;revert L;generalize s[i]=b;intro L;have i1:=k7 (show i+1 < 2 ^ 63 by omega);have l:a4G (s.drop i)=a4G (b::s.drop (i+1)):=by rw[C5 L]
 rw[a4G]at l;refine wj (fn:=a94) rfl rfl rfl ?_;simp only[K94,rS,rE,L];refine wa (a7e _ _) rfl rfl ?_;rintro _ st ⟨rfl,rfl⟩;simp only[SS];refine wi (fun z=>?_) (fun z=>?_)
 · rw[if_pos (show L4 (b:Int)=true from z),← C5 L]at l;simp only[SS];refine wg (fun mm fr st'=>st'=st∧∃ (k:Nat),i≤k∧k≤s.length∧mm=s.length - k∧a0B X5 [] (s.drop i)=a0B X5 ((s.take k).drop i) (s.drop k)∧fr=[.str s,.int .i64 i,.box [.int .u8 0,.str [],.int .i64 0,.int .i64 0],.int .i64 0,.int .i64 0,.int .i64 0,.int .u8 b,.int .i64 k]) (m:=s.length - i) ⟨rfl,i,AK _,by omega,rfl,by rw[U8],rfl⟩ ?_;rintro mm fr st' ⟨rfl,k,O,T,rfl,hX,rfl⟩;have leave:i < k→a0P X5 (s.drop k)=false→WC (fun n=>H7 (U3 0 (H7 (U3 1 some) (j1 (k8 tbl n) n (a94s19.seq (a94s21.seq ACode.ret))))) (j1 (k8 tbl n) n (a94s54.seq ACode.ret)) (Ex.exit 1,[.str s,.int .i64 i,.box [.int .u8 0,.str [],.int .i64 0,.int .i64 0],.int .i64 0,.int .i64 0,.int .i64 0,.int .u8 b,.int .i64 k],st')) (fun o=>∃ r y,finK [ResK.bx 2 true 4,ResK.v 3,ResK.v 4,ResK.v 5] (some o)=some (r,y)∧y=st'∧OneOK s i (a4G (s.drop i)) r):=by
    intro a0 hh;rw[b8Z hh]at hX;have N:=c0o O (show k < 2 ^ 60 by omega);have e2:ltI 32 ((k - i:Nat):Int)=decide (32 < k - i):=ltN 32 _;have hN:b0C (s.drop i)=if 32 < k - i then none else some (1,(s.take k).drop i,0,s.drop k):=by rw[b0C,hX,b81 T]
    rw[l,hN];by_cases U:32 < k - i
    · simp only[K94,rA,rE,N,e2,U];exact wc ⟨_,_,rfl,rfl,OneOK.bad (en:=0) (by decide) rfl⟩
    · simp only[K94,rA,rL,rE,T,O,N,e2,U];exact wc ⟨_,_,rfl,rfl,OneOK.good (by decide) a0 T rfl⟩
   simp only[K94,rE];by_cases W:k < s.length
   case neg =>simp only[SS,W];exact we (leave (by omega) (by rw[U7 (by omega)]; rfl))
   have u:s[k]?=some s[k]:=AE W;revert u;generalize s[k]=M;intro u;have i2:=k7 (show k+1 < 2 ^ 63 by omega);have go:X5 M=true→a0B X5 [] (s.drop i)=a0B X5 ((s.take (k+1)).drop i) (s.drop (k+1)):=by intro h;rw[hX,C5 u,a0B,if_pos h,Y7 O u]
   simp only[SS,W,u];refine wa (a7e _ _) rfl rfl ?_;rintro _ _ ⟨rfl,rfl⟩;simp +contextual only [SS,u];refine wo (fun h=>?_) (fun h=>?_)
   · simp only[SS,h];refine wa (a9q _ _) rfl rfl ?_;rintro _ _ ⟨rfl,rfl⟩;simp only[SS];refine wi (fun h'=>?_) (fun h'=>?_)
     · simp only[K94,rE,i2];exact wd (m':=s.length - (k+1)) (by omega) ⟨rfl,k+1,by omega,W,rfl,go (by rw[X5,show S1 (M:Int)=true from h',Bool.or_true]),rfl⟩
     · simp only[SS];have a1:k≠i:=by rintro rfl;rw[L]at u;obtain rfl:=Option.some.inj u;rw[z]at h;cases h
       exact we (leave (by omega) (by rw[C5 u]; show X5 M=false; rw[X5,show L4 (M:Int)=false from h,show S1 (M:Int)=false from h']; rfl))
   · simp only[K94,rE,show L4 (M:Int)=true from h,i2];exact wd (m':=s.length - (k+1)) (by omega) ⟨rfl,k+1,by omega,W,rfl,go (by rw[X5,show L4 (M:Int)=true from h,Bool.true_or]),rfl⟩
 · rw[if_neg (show ¬ L4 (b:Int)=true by rw[show L4 (b:Int)=false from z]; decide)]at l;simp only[K94,rE];have num:(eqI (b:Int) 45 || S1 (b:Int))=true→WC (fun n=>j1 (k8 tbl n) n ((ACode.blk 0 b1W).seq (a94s54.seq ACode.ret)) [.str s,.int .i64 i,.box [.int .u8 0,.str [],.int .i64 0,.int .i64 0],.int .i64 0,.int .i64 0,.int .i64 0,.int .u8 b,.int .i64 i] st) (fun o=>∃ r y,finK [ResK.bx 2 true 4,ResK.v 3,ResK.v 4,ResK.v 5] (some o)=some (r,y)∧y=st∧OneOK s i (a4G (s.drop i)) r):=by intro hm;rw[if_pos hm,← C5 L]at l;rw[l];simp only[K94,rA,rE];refine wa (c0G s i hs hi _) rfl rfl ?_;rintro _ _ ⟨rfl,k,t,n,at',en,bad,e,rfl,hg⟩;simp only[SS,rA];exact wc ⟨_,_,rfl,rfl,_,_,_,_,_,_,_,rfl,hg⟩
   refine wo (fun h=>?_) (fun h=>?_)
   rotate_left
   · have h:eqI (b:Int) 45=true:=h;simp only[K94,rA,rE,h]at num ⊢;exact num trivial
   simp only[SS,h];refine wa (a9q _ _) rfl rfl ?_;rintro _ _ ⟨rfl,rfl⟩;simp only[SS];refine wi (fun C=>?_) (fun C=>?_)
   · have num:=num (by rw[show S1 (b:Int)=true from C,Bool.or_true]);simp only[K94,rA,rE]at num ⊢;exact num
   rw[if_neg (show ¬ (eqI (b:Int) 45 || S1 (b:Int))=true by rw[show eqI (b:Int) 45=false from h,show S1 (b:Int)=false from C]; decide)]at l;simp only[K94,rE];refine wi (fun h=>?_) (fun h=>?_)
   · rw[if_pos h]at l;rw[l];simp only[K94,rA,rE];refine wa (c6T s i hs hi _) rfl rfl ?_;rintro _ _ ⟨rfl,k,t,n,at',en,bad,e,rfl,hg⟩;simp only[SS,rA];exact wc ⟨_,_,rfl,rfl,_,_,_,_,_,_,_,rfl,hg⟩
   rw[h,if_neg (by decide)]at l;simp only[K94,rE];refine wi (fun h=>?_) (fun h=>?_)
   · rw[if_pos h]at l;have N:n7 .i64 (a1F (s.length:Int) (i:Int))=((s.length - i:Nat):Int):=by rw[subI_eq,S2 (by omega) (by omega)]; omega
     have e3:n7 .i64 (a3i (i:Int) 2)=((i+2:Nat):Int):=by rw[addI_eq,S2 (by omega) (by omega)]; omega
     have e4:n7 .i64 (a3i (i:Int) 3)=((i+3:Nat):Int):=by rw[addI_eq,S2 (by omega) (by omega)]; omega
     have e5:ltI ((s.length - i:Nat):Int) 3=decide (s.length - i < 3):=ltN _ 3;by_cases h3:s.length - i < 3
     · simp only[K94,rA,rE,N,e5,h3];refine wc ⟨_,_,rfl,rfl,OneOK.bad (en:=0) (by decide) (l.trans ?_)⟩;have hl:(s.drop (i+1)).length < 2:=by rw[List.length_drop]; omega
       revert hl;generalize s.drop (i+1)=r;intro hl;match r,hl with
       | [],_=>rfl
       | [x],_=>unfold a4d; split<;>simp_all
       | _::_::_,h=>exact absurd h (by simp)
     have I:s[i+1]?=some s[i+1]:=AE (by omega);have J:s[i+2]?=some s[i+2]:=AE (by omega);revert I J;generalize s[i+1]=Z;generalize s[i+2]=b2;intro I J;rw[C5 I,C5 J]at l;have hD:∀ r,a4d (Z::b2::r)=if(eqI (Z:Int) 46 && eqI (b2:Int) 46)=true then some (4,[46,46,46],0,r)else none:=by
      intro r;rw[eqI_eq,eqI_eq];by_cases O:Z=46<;>by_cases T:b2=46
      · subst O T; rfl
      · unfold a4d; split<;>simp_all<;>omega
      · unfold a4d; split<;>simp_all<;>omega
      · unfold a4d; split<;>simp_all<;>omega
     rw[hD]at l;simp +contextual only [K94,rE,N,e3,i1,e5,h3,I,J];refine wi (fun h=>?_) (fun h=>?_)
     · rw[if_pos h]at l;simp only[K94,rA,rL,rE,e4];exact wc ⟨_,_,rfl,rfl,OneOK.good (by decide) (by omega) (by omega) l⟩
     · rw[h,if_neg (by decide)]at l;simp only[K94,rA,rE];exact wc ⟨_,_,rfl,rfl,OneOK.bad (en:=0) (by decide) l⟩
   rw[h,if_neg (by decide)]at l;simp (config:={ maxSteps:=1000000 }) +contextual only [K94,rE];refine wi (fun h=>?_) (fun h=>?_)
   · rw[if_pos (show b6b b=true from h)]at l;have l1:(s.take (i+1)).drop i=[b]:=by rw[Y7 (AK _) L,U8]; rfl
     simp only[K94,rA,rL,rE,i1,show i+1≤s.length by omega,show i≤i+1 by omega,l1];exact wc ⟨_,_,rfl,rfl,OneOK.good (by decide) (by omega) hi l⟩
   · rw[show b6b b=false from h,if_neg (by decide)]at l;simp only[K94,rA,rE];exact wc ⟨_,_,rfl,rfl,OneOK.bad (en:=0) (by decide) l⟩
structure Tok where
 k:Int
 t:List Nat
 n:Int
 a:Int
def Tok.row (t:Tok):List AV:=[.int .u8 t.k,.str t.t,.int .i64 t.n,.int .i64 t.a]
def c02 (L:List Tok):Prop:=∃ e a,L=e++[⟨0,[],0,a⟩]∧∀ t∈e,t.k≠0
def b02 (b:Nat):Bool:=eqI (b:Int) 32 || eqI (b:Int) 10 || eqI (b:Int) 9 || eqI (b:Int) 13 || eqI (b:Int) 44
def skipC:List Nat→List Nat
 | []=>[]
 | b::r=>if eqI (b:Int) 10 then b::r else skipC r
def a03:Nat→Nat→List Nat→List Tok→Option (List Tok)
 | 0,_,_,_=>none
 | _+1,i,[],acc=>some (acc++[⟨0,[],0,(i:Int)⟩])
 | f+1,i,b::r,acc=>if b02 b then a03 f (i+1) r acc else(if eqI (b:Int) 35 then a03 f (i+((b::r).length - (skipC (b::r)).length)) (skipC (b::r)) acc else(match a4G (b::r)with
  | none=>none
  | some (k,t,n,e)=>a03 f (i+((b::r).length - e.length)) e (acc++[⟨k,t,n,(i:Int)⟩])))
def P4 (s:List Nat):Option (List Tok):=if 2000 < s.length then none else a03 2002 0 s []
def c0Y (s:List Nat) (a:AV):Prop:=∃ (L:List Tok) (at' e:Int),a=.tuple [.list false (L.map Tok.row),.int .i64 at',.int .i64 e]∧(e=0→c02 L∧L.length≤2001)∧P4 s=if e=0 then some L else none
theorem b4t (L:List Tok):l5 4 (L.map Tok.row)=true:=B3 (by intro r e;obtain⟨t,_,rfl⟩:=List.mem_map.1 e;rfl)
theorem b1q (s:List Nat) (J:St):EvQ tbl 50 [.str s] J (fun a st'=>st'=J∧c0Y s a):=by
 refine wj (fn:=a50) rfl rfl rfl ?_;have e0:ltI 2000 (s.length:Int)=decide (2000 < s.length):=ltN 2000 _;by_cases T:2000 < s.length
 · simp only[K50,rS,rE,e0,T];exact wc ⟨_,_,rfl,rfl,[],_,_,rfl,(fun h=>by cases h),by rw[P4,if_pos T]; rfl⟩
 simp only[K50,rS,rE,e0,T];have a4:¬ 2000 < s.length:=T;have T:s.length≤2000:=by omega
 refine wg (fun Y fr st'=>st'=J∧∃ (i:Nat) (L:List Tok) (v6 v7 v8 v9 M:AV),i≤s.length∧L.length≤i∧(∀ t∈L,t.k≠0)∧Y=s.length - i∧(∃ c,c≤i∧P4 s=a03 (2002 - c) i (s.drop i) L)∧fr=[.str s,.list true [],.int .i64 0,.int .i64 0,.list true (L.map Tok.row),.int .i64 i,v6,v7,v8,v9,M]) (m:=s.length) ⟨rfl,0,[],_,_,_,_,_,Aa _,AK _,by simp,rfl,⟨0,AK _,by rw[P4,if_neg a4]; rfl⟩,rfl⟩ ?_;rintro Y fr st ⟨rfl,i,L,v6,v7,v8,v9,M,hi,hL,W,rfl,⟨c,hc,v⟩,rfl⟩;have a1:2002 - c=(2002 - (c+1))+1:=by omega
 rw[a1]at v;simp only[K50,rE];by_cases x:i < s.length
 case neg =>rw[U7 (show s.length≤i by omega),a03]at v;simp only[SS,x];refine we ?_;simp only[K50,rA,rE,b4t,AG,show(L.length+1)*40≤2 ^ 47 by omega];exact wc ⟨_,_,rfl,rfl,L++[⟨0,[],0,i⟩],0,0,by simp only[AW]; rfl,fun _=>⟨⟨L,i,rfl,W⟩,by simp only[AF,AY,List.length_nil]; omega⟩,by rw[v]; rfl⟩
 have N:s[i]?=some s[i]:=AE x;revert N;generalize s[i]=b;intro N;have i1:=k7 (show i+1 < 2 ^ 63 by omega);rw[C5 N,a03,← C5 N]at v;simp +contextual only [K50,rE,x,N];refine wi (fun h=>?_) (fun h=>?_)
 · rw[if_pos (show b02 b=true from h)]at v;simp only[K50,rE,i1];exact wd (m':=s.length - (i+1)) (by omega) ⟨rfl,i+1,L,_,_,_,_,_,x,by omega,W,rfl,⟨c+1,by omega,v⟩,rfl⟩
 rw[show b02 b=false from h,if_neg (by decide)]at v;simp only[K50,rE];refine wi (fun h=>?_) (fun h=>?_)
 · have U:b=35:=by rw[eqI_eq]at h; simp at h; omega
   rw[if_pos h]at v;have l:∀ j,i≤j→j≤s.length→skipC (s.drop i)=s.drop j→P4 s=a03 (2002 - (c+1)) j (s.drop j) L:=by intro j Z y O;rw[v,O,List.length_drop,List.length_drop];congr 1;omega
   simp only[SS];refine wg (fun Y fr st'=>st'=st∧∃ (j:Nat),i≤j∧j≤s.length∧Y=s.length - j∧skipC (s.drop i)=skipC (s.drop j)∧fr=[.str s,.list true [],.int .i64 0,.int .i64 0,.list true (L.map Tok.row),.int .i64 j,.int .u8 b,v7,v8,v9,M]) (m:=s.length - i) ⟨rfl,i,AK _,hi,rfl,rfl,rfl⟩ ?_;rintro Y fr st' ⟨rfl,j,Z,y,rfl,z,rfl⟩;simp only[K50,rE];by_cases O:j < s.length
   case neg =>rw[U7 (show s.length≤j by omega),skipC]at z;simp only[SS,O];refine we ?_;simp only[SS,rE];exact wd (m':=s.length - j) (by omega) ⟨rfl,j,L,_,_,_,_,_,y,by omega,W,rfl,⟨c+1,by omega,l j Z y (by rw[z,U7 (by omega)])⟩,rfl⟩
   have u:s[j]?=some s[j]:=AE O;revert u;generalize s[j]=bj;intro u;rw[C5 u,skipC,← C5 u]at z;simp only[SS,O,u];rcases e8 (eqI (bj:Int) 10)with h'|h'
   · rw[if_pos h']at z;have a5:i≠j:=by rintro rfl;rw[N]at u;obtain rfl:=Option.some.inj u;subst U;cases h'
     simp only[SS,h'];refine we ?_;simp only[SS,rE];exact wd (m':=s.length - j) (by omega) ⟨rfl,j,L,_,_,_,_,_,y,by omega,W,rfl,⟨c+1,by omega,l j Z y z⟩,rfl⟩
   · rw[h',if_neg (by decide)]at z;simp only[K50,rE,h',k7 (show j+1 < 2 ^ 63 by omega)];exact wd (m':=s.length - (j+1)) (by omega) ⟨rfl,j+1,by omega,O,rfl,z,rfl⟩
 · rw[h,if_neg (by decide)]at v;simp only[K50,rA,rE];refine wa (d23 s i T x _) rfl rfl ?_;rintro _ _ ⟨rfl,k,t,n,at',en,bad,e,rfl,hg,hO⟩;simp only[K50,rA,rE];refine wi (fun C=>?_) (fun C=>?_)
   · simp only[K50,rE];refine wh ?_;simp only[SS];have I:e≠0:=by intro h0; subst h0; cases C
     rw[if_neg I]at hO;rw[hO]at v;refine wc ⟨_,_,rfl,rfl,[],_,_,rfl,fun h=>absurd h I,?_⟩;rw[if_neg I];exact v
   · have C:e=0:=by rw[eqI_eq]at C; simpa using C
     obtain⟨a2,Z,y⟩:=hg C;rw[if_pos C]at hO;rw[hO]at v;have a0:P4 s=a03 (2002 - (c+1)) en (s.drop en) (L++[⟨k,t,n,(i:Int)⟩]):=by rw[v];show a03 _ (i+((s.drop i).length - (s.drop en).length)) _ _=_;rw[List.length_drop,List.length_drop];congr 1;omega
     simp only[K50,rA,rE,b4t,AG,show(L.length+1)*40≤2 ^ 47 by omega];exact wd (m':=s.length - en) (by omega) ⟨rfl,en,L++[⟨k,t,n,i⟩],_,_,_,_,_,y,by simp only[AF,AY,List.length_nil]; omega,fun t' ht=>by
      rcases AQ.1 ht with h|h
      · exact W _ h
      · simp at h; subst h; exact a2,rfl,⟨c+1,by omega,a0⟩,by simp only[AW]; rfl⟩
end Go.Cb.CodeA
namespace Go.Cb.CodeA
open Go Go.Cb
open Nat renaming reduceAdd→rA,reduceSub→rS,reduceLeDiff→rL,reduceEqDiff→rE
attribute [local congr] g9 j3 j4 j5 i8 j0 j8 j9 V.runR_congr
variable {B:St}
def rdC (L:List Tok) (i:Nat) (d bad e:Int):List AV:=[.list false (L.map Tok.row),.int .i64 i,.int .i64 d,.int .i64 bad,.int .i64 e]
def Gr (st st':St):Prop:=∀ (o:Nat) (x:Obj),st[o]?=some x→st'[o]?=some x
structure Rd (B:St) (L:List Tok) (o:Nat) (st:St) (i:Nat) (d e:Int):Prop where
 hL:c02 L∧L.length≤2001
 hi:i < L.length
 sh:∃ bad,st=B++[.cells (rdC L i d bad e)]
 oB:o=B.length
theorem Rd.ob {B:St} {L:List Tok} {o:Nat} {st:St} {i:Nat} {d e:Int} (h:Rd B L o st i d e):∃ bad,st[o]?=some (.cells (rdC L i d bad e)):=by obtain⟨bad,l⟩:=h.sh;exact⟨bad,by rw[l,h.oB,List.getElem?_append_right (AK _),Nat.sub_self]; rfl⟩
theorem r7 {st:St} {o:Nat} {x y:Obj} (h:st[o]?=some x):(st.set o y)[o]?=some y:=by rw[List.getElem?_set_self];exact(AB.1 h).1
theorem a2n {L:List Tok} {i:Nat} (h:i < L.length):(L.map Tok.row)[i]?=some (Tok.row L[i]):=by rw[AU,AE h]; rfl
theorem N9 {L:List Tok} (hL:c02 L) {i:Nat} (hi:i < L.length) (t:(L[i]).k≠0):i+1 < L.length:=by
 obtain⟨l,a,rfl,h⟩:=hL;rw[AF,AY,List.length_nil]at hi ⊢;by_cases e:i=l.length
 · subst e;simp at t
 · omega
theorem Rd.put {L:List Tok} {o:Nat} {st:St} {i:Nat} {d e:Int} (h:Rd B L o st i d e) {j:Nat} {d' bad' e':Int} (t:j < L.length):Rd B L o (st.set o (.cells (rdC L j d' bad' e'))) j d' e':=by obtain⟨bad,l⟩:=h.sh;refine⟨h.hL,t,⟨bad',?_⟩,h.oB⟩;rw[l,h.oB,List.set_append_right _ _ (AK _),Nat.sub_self];rfl
def a4y (L:List Tok) (i:Nat) (s:List Nat):Bool:=match L[i]? with
 | some t=>eqI t.k 1 && eqN t.t s
 | none=>false
def a2a (L:List Tok) (i:Nat) (s:List Nat):Bool:=match L[i]? with
 | some t=>eqI t.k 4 && eqN t.t s
 | none=>false
def C0 (L:List Tok) (i:Nat) (s:List Nat):Bool:=a2a L i s || a4y L i s
def a2s (L:List Tok) (i:Nat) (k:Int):Bool:=match L[i]? with
 | some t=>eqI t.k k
 | none=>false
def E6 (L:List Tok) (i:Nat):Option (List Nat×Nat):=match L[i]? with
 | some t=>if eqI t.k 1 then some (t.t,i+1)else none
 | none=>none
def R7 (L:List Tok) (s:List Nat) (i:Nat):Option Nat:=if C0 L i s then some (i+1)else none
theorem a7S {L:List Tok} {o:Nat} {st:St} {i:Nat} {d e:Int} (h:Rd B L o st i d e) (s:List Nat):EvQ tbl 68 [.ptr o 0,.str s] st (fun a st'=>st'=st∧∃ b,a=.bool b∧(b=true→e=0∧(L[i]'h.hi).k=4)∧(e=0→b=a2a L i s)):=by
 obtain⟨bad,u⟩:=h.ob;have v:=a2n h.hi;refine wj (fn:=a68) rfl rfl rfl ?_;simp (config:={ maxSteps:=1000000 }) +contextual only [K68,rA,rS,rE,u,v,rdC,Tok.row];refine wc ⟨_,_,rfl,rfl,_,rfl,fun l=>?_,fun t=>?_⟩
 · simp[eqI_eq]at l;exact l.1
 · subst t;rw[a2a,AE h.hi];simp[eqI_eq]
theorem a8f {L:List Tok} {o:Nat} {st:St} {i:Nat} {d e:Int} (h:Rd B L o st i d e) (s:List Nat):EvQ tbl 63 [.ptr o 0,.str s] st (fun a st'=>st'=st∧∃ b,a=.bool b∧(b=true→e=0∧(L[i]'h.hi).k=1)∧(e=0→b=a4y L i s)):=by
 obtain⟨bad,u⟩:=h.ob;have v:=a2n h.hi;refine wj (fn:=a63) rfl rfl rfl ?_;simp (config:={ maxSteps:=1000000 }) +contextual only [K63,rA,rS,rE,u,v,rdC,Tok.row];refine wc ⟨_,_,rfl,rfl,_,rfl,fun l=>?_,fun t=>?_⟩
 · simp[eqI_eq]at l;exact l.1
 · subst t;rw[a4y,AE h.hi];simp[eqI_eq]
theorem a7U {L:List Tok} {o:Nat} {st:St} {i:Nat} {d e:Int} (h:Rd B L o st i d e) (k:Int):EvQ tbl 51 [.ptr o 0,.int .u8 k] st (fun a st'=>st'=st∧∃ b,a=.bool b∧(b=true↔e=0∧(L[i]'h.hi).k=k)):=by obtain⟨bad,l⟩:=h.ob;have t:=a2n h.hi;refine wj (fn:=a51) rfl rfl rfl ?_;simp +contextual only [K51,rA,rS,rE,l,t,rdC,Tok.row];refine wc ⟨_,_,rfl,rfl,_,rfl,?_⟩;simp[eqI_eq]
theorem a2k {L:List Tok} {o:Nat} {st:St} {i:Nat} {d e:Int} (h:Rd B L o st i d e) (k:Int) (u:k≠0):EvQ tbl 64 [.ptr o 0,.int .i64 k] st (fun a st'=>∃ e',Rd B L o st' i d e'∧e'≠0):=by
 obtain⟨bad,t⟩:=h.ob;have x:=a2n h.hi;refine wj (fn:=a64) rfl rfl rfl ?_;simp only[K64,rS,rE,t,rdC];have v:∀ y:Obj,(st.set o y)[o]?=some y:=fun y=>r7 t
 refine wi (fun l=>?_) (fun l=>?_)
 · simp only[K64,rA,rL,rE,t,x,rdC,Tok.row,v,List.set_set];exact wc ⟨_,_,rfl,k,h.put h.hi,u⟩
 · simp only[SS];exact wc ⟨_,_,rfl,e,h,by rw[eqI_eq]at l; simpa using l⟩
def a4j {α:Type} (B:St) (L:List Tok) (o i:Nat) (d e:Int) (p:Option (α×Nat)) (x:α) (st':St):Prop:=∃ l e',Rd B L o st' l d e'∧i≤l∧(e'=0→e=0∧i < l)∧(e=0→p=if e'=0 then some (x,l)else none)
theorem E9 {L:List Tok} {o:Nat} {st:St} {i:Nat} {d e:Int} (h:Rd B L o st i d e) (s:List Nat):EvQ tbl 69 [.ptr o 0,.str s] st (fun a st'=>(a=.bool false∧st'=st∧(e=0→C0 L i s=false))∨(a=.bool true∧e=0∧Rd B L o st' (i+1) d 0∧C0 L i s=true)):=by
 obtain⟨bad,x⟩:=h.ob;have M:∀ y:Obj,(st.set o y)[o]?=some y:=fun y=>r7 x
 have J:=h.hL.2;have hi:=h.hi;have i1:=k7 (show i+1 < 2 ^ 63 by omega);refine wj (fn:=a69) rfl rfl rfl ?_;simp only[K69,rS,rE];refine wa (a7S h s) rfl rfl ?_;rintro _ _ ⟨rfl,b,rfl,v,C⟩;simp only[SS];refine wo (fun l=>?_) (fun l=>?_)
 · subst l;simp only[SS];refine wa (a8f h s) rfl rfl ?_;rintro _ _ ⟨rfl,b,rfl,v,I⟩;simp only[SS];refine wi (fun l=>?_) (fun l=>?_)
   · obtain⟨t,u⟩:=v l;subst t;have l:b=true:=l;simp only[K69,rA,rL,rE,x,rdC,i1];exact wc ⟨_,_,rfl,Or.inr ⟨rfl,h.put (N9 h.hL.1 h.hi (by rw[u]; decide)),by rw[C0,← I rfl,l,Bool.or_true]⟩⟩
   · have l:b=false:=l;simp only[K69];exact wc ⟨_,_,rfl,Or.inl ⟨rfl,rfl,fun z=>by rw[C0,← C z,← I z,l]; rfl⟩⟩
 · subst l;obtain⟨t,u⟩:=v rfl;subst t;simp only[K69,rA,rL,rE,x,rdC,i1];exact wc ⟨_,_,rfl,Or.inr ⟨rfl,h.put (N9 h.hL.1 h.hi (by rw[u]; decide)),by rw[C0,← C rfl]; rfl⟩⟩
theorem a2w {L:List Tok} {o:Nat} {st:St} {i:Nat} {d e:Int} (h:Rd B L o st i d e) (s:List Nat):EvQ tbl 66 [.ptr o 0,.str s] st (fun a st'=>∃ v e',Rd B L o st' v d e'∧i≤v∧(e'=0→e=0∧i < v)∧(e=0→R7 L s i=if e'=0 then some v else none)):=by
 obtain⟨bad,I⟩:=h.ob;refine wj (fn:=a66) rfl rfl rfl ?_;simp only[K66,rS,rE,I,rdC];refine wo (fun l=>?_) (fun l=>?_)
 · have u:e=0:=by rw[eqI_eq]at l; simpa using l
   simp only[SS,l];refine wa (E9 h s) rfl rfl ?_;rintro a st' (⟨rfl,rfl,y⟩|⟨rfl,_,x,y⟩)
   · simp only[K66];refine wa (a2k h 4 (by decide)) rfl rfl ?_;rintro a st' ⟨e',x,t⟩;simp only[];exact wc ⟨_,_,rfl,i,e',x,AK _,(fun h=>absurd h t),fun _=>by rw[R7,y u,if_neg t]; rfl⟩
   · simp only[SS];exact wc ⟨_,_,rfl,i+1,0,x,by omega,(fun _=>⟨u,by omega⟩),fun _=>by rw[R7,y]; rfl⟩
 · have z:e≠0:=by rw[eqI_eq]at l; simpa using l
   simp only[SS,show eqI e 0=false from l];exact wc ⟨_,_,rfl,i,e,h,AK _,(fun h=>absurd h z),fun C=>absurd C z⟩
theorem O9 {L:List Tok} {o:Nat} {st:St} {i:Nat} {d e:Int} (h:Rd B L o st i d e):EvQ tbl 65 [.ptr o 0] st (fun a st'=>∃ t,a=.str t∧a4j B L o i d e (E6 L i) t st'):=by
 obtain⟨bad,I⟩:=h.ob;have M:∀ y:Obj,(st.set o y)[o]?=some y:=fun y=>r7 I
 have O:=h.hL.2;have hi:=h.hi;have N:=a2n h.hi;have i1:=k7 (show i+1 < 2 ^ 63 by omega);have i2:n7 .i64 (a1F ((i+1:Nat):Int) 1)=(i:Int):=by rw[subI_eq,S2 (by omega) (by omega)]; omega
 have z:E6 L i=if eqI (L[i]).k 1 then some ((L[i]).t,i+1)else none:=by rw[E6,AE h.hi]
 refine wj (fn:=a65) rfl rfl rfl ?_;simp only[K65,rS,rE];refine wa (a7U h 1) rfl rfl ?_;rintro _ _ ⟨rfl,b,rfl,C⟩;simp only[SS];refine wi (fun l=>?_) (fun l=>?_)
 · have l:b=false:=by simpa using l
   simp only[K65];refine wa (a2k h 4 (by decide)) rfl rfl ?_;rintro a st' ⟨e',J,u⟩;simp only[K65];refine wc ⟨_,_,rfl,_,rfl,i,e',J,AK _,(fun h=>absurd h u),fun x=>?_⟩;rw[z,if_neg u,if_neg];intro v;rw[eqI_eq]at v;rw[C.2 ⟨x,by simpa using v⟩]at l;cases l
 · obtain⟨x,v⟩:=C.1 (by simpa using l);simp only[K65,rA,rL,rE,I,rdC,M,i1,i2,N,Tok.row];subst x;exact wc ⟨_,_,rfl,_,rfl,i+1,0,h.put (N9 h.hL.1 h.hi (by rw[v]; decide)),by omega,(fun _=>⟨rfl,by omega⟩),fun _=>by rw[z,v]; rfl⟩
theorem a3I {L:List Tok} {o:Nat} {st:St} {i:Nat} {d e:Int} (h:Rd B L o st i d e) (I:0≤d) (C:d≤24):EvQ tbl 117 [.ptr o 0] st (fun a st'=>∃ e',a=.bool (eqI e' 0)∧Rd B L o st' i (d+1) e'∧(e'=0↔e=0∧d+1≤24)):=by
 obtain⟨bad,v⟩:=h.ob;have z:∀ y:Obj,(st.set o y)[o]?=some y:=fun y=>r7 v
 have d1:n7 .i64 (a3i d 1)=d+1:=by rw[addI_eq,S2 (by omega) (by omega)]
 refine wj (fn:=a117) rfl rfl rfl ?_;simp only[b5B,rA,rS,rL,rE,v,rdC,z,d1];refine wi (fun l=>?_) (fun l=>?_)
 · simp only[b5B];rw[ltI_eq]at l;have l:24 < d+1:=by simpa using l
   refine wa (a2k (h.put (d':=d+1) (bad':=bad) (e':=e) h.hi) 5 (by decide)) rfl rfl ?_;rintro a st' ⟨e',x,t⟩;obtain⟨bad',u⟩:=x.ob;simp only[b5B,rE,u,rdC];exact wc ⟨_,_,rfl,e',rfl,x,fun h=>absurd h t,fun h=>by omega⟩
 · simp only[b5B,rE,z];rw[ltI_eq]at l;have l:¬ 24 < d+1:=by simpa using l
   exact wc ⟨_,_,rfl,e,rfl,h.put h.hi,fun h=>⟨h,by omega⟩,fun h=>h.1⟩
def C7 {α:Type} (step:Nat→α→Option (Bool×Nat×α)):Nat→Nat→α→Option (α×Nat)
 | 0,_,_=>none
 | f+1,i,a=>match step i a with
  | none=>none
  | some (true,j,b)=>some (b,j)
  | some (false,j,b)=>C7 step f j b
def LoopAt {α:Type} (step:Nat→α→Option (Bool×Nat×α)) (w:Option (α×Nat)) (i:Nat) (a:α) (e:Int):Prop:=if e=0 then ∃ c,c≤i∧w=C7 step (2002 - c) i a else w=none
theorem LoopAt.start {α:Type} (step:Nat→α→Option (Bool×Nat×α)) (i:Nat) (a:α) {e:Int} (w:Option (α×Nat)) (h:w=if e=0 then C7 step 2002 i a else none):LoopAt step w i a e:=by
 unfold LoopAt;split
 · rename_i l;rw[if_pos l]at h;exact⟨0,Aa _,h⟩
 · rename_i l;rw[if_neg l]at h;exact h
theorem LoopAt.unroll {α:Type} {step:Nat→α→Option (Bool×Nat×α)} {w:Option (α×Nat)} {i:Nat} {a:α} (hi:i≤2001) (h:LoopAt step w i a 0):∃ c,c≤i∧w=match step i a with
 | none=>none
 | some (true,j,b)=>some (b,j)
 | some (false,j,b)=>C7 step (2002 - (c+1)) j b:=by
 obtain⟨c,l,e⟩:=h;refine⟨c,l,?_⟩;rw[e,show 2002 - c=(2002 - (c+1))+1 by omega,C7]
theorem LoopAt.exit {α:Type} {step:Nat→α→Option (Bool×Nat×α)} {w:Option (α×Nat)} {i:Nat} {a:α} (hi:i≤2001) (h:LoopAt step w i a 0) {j:Nat} {b:α} (l:step i a=some (true,j,b)):w=some (b,j):=by obtain⟨c,_,e⟩:=h.unroll hi;rw[e,l]
theorem LoopAt.next {α:Type} {step:Nat→α→Option (Bool×Nat×α)} {w:Option (α×Nat)} {i:Nat} {a:α} (hi:i≤2001) (h:LoopAt step w i a 0) {j:Nat} {b:α} {e:Int} (v:e=0→i < j) (u:step i a=if e=0 then some (false,j,b)else none):LoopAt step w j b e:=by
 obtain⟨c,x,l⟩:=h.unroll hi;unfold LoopAt;split
 · rename_i t;rw[if_pos t]at u;rw[u]at l;exact⟨c+1,by have:=v t; omega,l⟩
 · rename_i t;rw[if_neg t]at u;rw[u]at l;exact l
theorem LoopAt.bad {α:Type} {step:Nat→α→Option (Bool×Nat×α)} {w:Option (α×Nat)} {i:Nat} {a:α} {e:Int} (h:LoopAt step w i a e) (l:e≠0):w=none:=by
 unfold LoopAt at h
 rwa [if_neg l]at h
def rem (L:List Tok) (i:Nat) (e:Int):Nat:=if e=0 then L.length - i else 0
theorem b2j (L:List Tok) (i:Nat):rem L i 0=L.length - i:=if_pos rfl
theorem a1r {L:List Tok} {i l:Nat} {e e':Int} (u:e=0) (hi:i < L.length) (h:e'=0→i < l):rem L l e' < rem L i e:=by
 subst u;unfold rem;rw[if_pos rfl];split
 · rename_i t; have:=h t; omega
 · omega
theorem a2o (L:List Tok) (i:Nat) (e:Int):rem L i e≤L.length:=by unfold rem; split<;>omega
abbrev LQ {β:Type} (I:Nat→List AV→St→Prop) (mm:Nat) (K:Nat→Out→Option β) (Q:β→Prop):Out→Prop:=fun o=>(∃ m' fr' st',o=(Ex.normal,fr',st')∧m' < mm∧I m' fr' st')∨(o.1≠Ex.normal∧WC (fun n=>K n o) Q)
inductive TRef where
 | base (n:List Nat) (b:Bool)
 | wrap (t:TRef) (b:Bool)
def TRef.row:TRef→List AV
 | .base n b=>[.str n,.list false [],.bool b]
 | .wrap t b=>[.str [],.list false [t.row],.bool b]
theorem TRef.row_cells (t:TRef):∃ n xs b,t.row=[.str n,.list false xs,.bool b]:=by cases t<;>exact⟨_,_,_,rfl⟩
theorem a7T {d:Int} (e:0≤d) (l:d≤100):n7 .i64 (a1F (d+1) 1)=d:=by rw[subI_eq,S2 (by omega) (by omega)]; omega
def Y6 (L:List Tok):Nat→Nat→Option (TRef×Nat)
 | 0,_=>none
 | f+1,i=>if C0 L i [91]then(match Y6 L f (i+1)with
  | none=>none
  | some (u,i2)=>match R7 L [93] i2 with
   | none=>none
   | some i3=>if C0 L i3 [33]then some (.wrap u true,i3+1)else some (.wrap u false,i3))
  else(match E6 L i with
   | none=>none
   | some (n,i2)=>if C0 L i2 [33]then some (.base n true,i2+1)else some (.base n false,i2))
theorem d0u (L:List Tok) (o:Nat):∀ (f:Nat) {st:St} {i:Nat} {d e:Int},Rd B L o st i d e→0≤d→d+f=24 →
 EvQ tbl 97 [.ptr o 0] st (fun a st'=>∃ t:TRef,a=.agg t.row∧a4j B L o i d e (Y6 L f i) t st'):=by
 intro f;induction f with
 | zero =>
  intro st i d e h W a1;obtain rfl:d=24:=by omega
  refine wj (fn:=a97) rfl rfl rfl ?_;simp only[K97,rS,rE];refine wa (a3I h W (by omega)) rfl rfl ?_;rintro _ st1 ⟨x,rfl,u,z⟩;have M:x≠0:=fun l=>by have:=z.1 l; omega
  have N:eqI x 0=false:=by rw[eqI_eq]; simpa using M
  obtain⟨bad,Y⟩:=u.ob;have hs:∀ y:Obj,(st1.set o y)[o]?=some y:=fun y=>r7 Y
  simp only[K97,rA,rL,rE,N,Y,rdC,a7T W (show(24:Int)≤100 by omega)];exact wc ⟨_,_,rfl,.base [] false,rfl,i,x,u.put u.hi,AK _,(fun h=>absurd h M),fun _=>by rw[if_neg M,Y6]⟩
 | succ f ih =>
  intro st i d e h W a1;have a7:d≤23:=by omega
  -- the end: one thing less is open
  have fin:∀ (t:TRef) (tn:List Nat) (w:Bool) (xs:List (List AV)) (tb:Bool) (v3:AV) (st1:St) (i1:Nat) (x:Int),t.row=[.str tn,.list false xs,.bool tb]→Rd B L o st1 i1 (d+1) x→i≤i1→(x=0→e=0∧i < i1)→(e=0→Y6 L (f+1) i=if x=0 then some (t,i1)else none) →
   WC (fun n=>j1 (k8 tbl n) n (a97s22.seq (a97s24.seq ACode.ret)) [.ptr o 0,.box [.str [],.list true [],.bool false],.box [.str tn,.list w xs,.bool tb],v3] st1)
    (fun a4=>∃ r st',finK [ResK.bx 1 true 3] (some a4)=some (r,st')∧∃ t:TRef,r=.agg t.row∧a4j B L o i d e (Y6 L (f+1) i) t st'):=by
   intro t tn w xs tb v3 st1 i1 x C u a2 z I;obtain⟨bad,Y⟩:=u.ob;have hs:∀ y:Obj,(st1.set o y)[o]?=some y:=fun y=>r7 Y
   simp only[K97,rA,rL,rE,Y,rdC,a7T W (show d≤100 by omega)];refine wc ⟨_,_,rfl,t,?_,i1,x,u.put u.hi,a2,z,I⟩;rw[C];rfl
  refine wj (fn:=a97) rfl rfl rfl ?_;simp only[K97,rS,rE];refine wa (a3I h W (by omega)) rfl rfl ?_;rintro _ st1 ⟨x,rfl,u,z⟩;simp only[SS];refine wi (fun N=>?_) (fun N=>?_)
  rotate_left
  · have M:x≠0:=by rw[eqI_eq]at N; simpa using N
    have:=fin (.base [] false) [] true [] false .undef st1 i x rfl u (AK _) (fun h=>absurd h M) (fun l=>absurd (z.2 ⟨l,by omega⟩) M);simp only[K97,rA,rE]at this ⊢;exact this
  · have M:x=0:=by rw[eqI_eq]at N; simpa using N
    subst M;obtain⟨rfl,b0⟩:=z.1 rfl;simp only[K97,rE];refine wa (E9 u _) rfl rfl ?_;rintro _ st2 (⟨rfl,rfl,O⟩|⟨rfl,_,h2,O⟩)
    · have O:=O rfl;simp only[K97,rA,rL,rE];refine wa (O9 u) rfl rfl ?_;rintro _ a5 ⟨t,rfl,i3,Z,h3,T,U,I⟩;have I:=I rfl;simp only[K97,rA,rE];refine wa (E9 h3 _) rfl rfl ?_;rintro _ a6 (⟨rfl,rfl,v⟩|⟨rfl,rfl,h4,v⟩)
      · have:=fin (.base t false) t true [] false .undef _ i3 Z rfl h3 T U (fun _=>by
         rw[Y6,O,I];by_cases l:Z=0
         · rw[if_pos l,if_pos l]; dsimp only; rw[v l]; rfl
         · rw[if_neg l,if_neg l]; rfl)
        simp only[K97,rA,rE]at this ⊢;exact this
      · have:=fin (.base t true) t true [] true .undef _ (i3+1) 0 rfl h4 (by omega) (fun _=>⟨rfl,by omega⟩) (fun _=>by rw[Y6,O,I];rw[if_pos rfl,if_pos rfl]; dsimp only; rw[v]; rfl);simp only[K97,rA,rE]at this ⊢;exact this
    · simp only[K97,rA,rE];refine wa (ih h2 (by omega) (by omega)) rfl rfl ?_;rintro _ a5 ⟨t,rfl,i3,Z,h3,T,U,I⟩;have I:=I rfl;obtain⟨tn,J,tb,C⟩:=t.row_cells;simp only[K97,rA,rL,rE,C];refine wa (a2w h3 _) rfl rfl ?_;rintro _ a6 ⟨i4,e4,h4,a9,a0,hM⟩;simp only[K97,rA,rE];refine wa (E9 h4 _) rfl rfl ?_;have hT:Y6 L (f+1) i=if e4=0 then(if C0 L i4 [33]then some (.wrap t true,i4+1)else some (.wrap t false,i4))else none:=by
       rw[Y6,O,if_pos rfl,I];by_cases l:Z=0
       · rw[if_pos l]; dsimp only; rw[hM l];by_cases u:e4=0
         · rw[if_pos u,if_pos u]
         · rw[if_neg u,if_neg u]
       · rw[if_neg l,if_neg (fun h=>l (a0 h).1)]
      rintro _ b1 (⟨rfl,rfl,v⟩|⟨rfl,rfl,h5,v⟩)
      · have:=fin (.wrap t false) [] true [[.str tn,.list false J,.bool tb]] false (.box [.str tn,.list false J,.bool tb]) _ i4 e4 (by rw[TRef.row,C]) h4 (by omega) (fun h=>⟨rfl,by omega⟩) (fun _=>by
         rw[hT];by_cases l:e4=0
         · rw[if_pos l,if_pos l,v l]; rfl
         · rw[if_neg l,if_neg l])
        simp only[K97,rA,rE]at this ⊢;exact this
      · have:=fin (.wrap t true) [] true [[.str tn,.list false J,.bool tb]] true (.box [.str tn,.list false J,.bool tb]) _ (i4+1) 0 (by rw[TRef.row,C]) h5 (by omega) (fun _=>⟨rfl,by omega⟩) (fun _=>by rw[hT,if_pos rfl,if_pos rfl,v,if_pos rfl]);simp only[K97,rA,rE]at this ⊢;exact this
end Go.Cb.CodeA
namespace Go.Cb.CodeA
open Go Go.Cb
open Nat renaming reduceAdd→rA,reduceSub→rS,reduceLeDiff→rL,reduceEqDiff→rE
attribute [local congr] g9 j3 j4 j5 i8 j0 j8 j9 V.runR_congr
variable {B:St}
inductive Val where
 | mk (k n:Int) (s:List Nat) (ks:List (List Nat)) (ls:List Val)
def b9 (x:List Nat):List AV:=[.str x]
mutual
def Val.row:Val→List AV
 | .mk k n s ks ls=>[.int .u8 k,.int .i64 n,.str s,.list false (ks.map b9),.list false (Val.rows ls)]
def Val.rows:List Val→List (List AV)
 | []=>[]
 | v::vs=>v.row::Val.rows vs
end
theorem Val.rows_map:∀ vs:List Val,Val.rows vs=vs.map Val.row
 | []=>by simp[Val.rows]
 | v::vs=>by simp[Val.rows,Val.rows_map vs]
inductive Val.OK:Val→Prop
 | mk (k n:Int) (s:List Nat) (ks:List (List Nat)) (ls:List Val) (h6:k=6→ks.length=ls.length) (hk:ks.length≤3000) (hl:ls.length≤3000) (h:∀ v∈ls,Val.OK v):Val.OK (.mk k n s ks ls)
theorem Val.row_eq (k n:Int) (s:List Nat) (ks:List (List Nat)) (ls:List Val):(Val.mk k n s ks ls).row=[.int .u8 k,.int .i64 n,.str s,.list false (ks.map b9),.list false (ls.map Val.row)]:=by rw[Val.row,Val.rows_map]
theorem Val.row_cells (v:Val):∃ k n s xs ys,v.row=[.int .u8 k,.int .i64 n,.str s,.list false xs,.list false ys]:=by cases v; exact⟨_,_,_,_,_,Val.row_eq _ _ _ _ _⟩
theorem Val.simple (k n:Int) (s:List Nat) (h:k≠6):(Val.mk k n s [] []).OK∧(Val.mk k n s [] []).row=[.int .u8 k,.int .i64 n,.str s,.list false [],.list false []] :=
 ⟨.mk _ _ _ _ _ (fun e=>absurd e h) (by simp) (by simp) (by simp),by rw[Val.row_eq]; rfl⟩
def a2Q (L:List Tok) (e:Nat→Option (Val×Nat)) (i:Nat) (l:List Val):Option (Bool×Nat×List Val):=if C0 L i [93]then some (true,i+1,l)else(match e i with
 | none=>none
 | some (v,j)=>some (false,j,l++[v]))
def a2P (L:List Tok) (e:Nat→Option (Val×Nat)) (i:Nat) (x:List (List Nat)×List Val):Option (Bool×Nat×(List (List Nat)×List Val)):=if C0 L i [125]then some (true,i+1,x)else(match E6 L i with
 | none=>none
 | some (n,i2)=>match R7 L [58] i2 with
  | none=>none
  | some i3=>match e i3 with
   | none=>none
   | some (v,j)=>some (false,j,(x.1++[n],x.2++[v])))
def b0L (w:Option (List Val×Nat)):Option (Val×Nat):=match w with
 | none=>none
 | some (l,j)=>some (.mk 5 0 [] [] l,j)
def b4V (w:Option ((List (List Nat)×List Val)×Nat)):Option (Val×Nat):=match w with
 | none=>none
 | some (x,j)=>some (.mk 6 0 [] x.1 x.2,j)
def b6a (w:Option (List Nat×Nat)):Option (Val×Nat):=match w with
 | none=>none
 | some (n,j)=>some (.mk 7 0 n [] [],j)
def value1P (L:List Tok) (l:Bool) (e:Nat→Option (Val×Nat)) (i:Nat):Option (Val×Nat):=match L[i]? with
 | none=>none
 | some t=>if eqI t.k 2 then some (.mk 1 t.n [] [] [],i+1)else(if eqI t.k 3 then some (.mk 2 0 t.t [] [],i+1)
  else(if C0 L i [116,114,117,101]then some (.mk 3 1 [] [] [],i+1)else(if C0 L i [102,97,108,115,101]then some (.mk 3 0 [] [] [],i+1)
  else(if C0 L i [110,117,108,108]then some (.mk 0 0 [] [] [],i+1)else(if eqI t.k 1 then some (.mk 4 0 t.t [] [],i+1)
  else(if a2a L i [36] && !l then b6a (E6 L (i+1))else(if C0 L i [91]then b0L (C7 (a2Q L e) 2002 (i+1) [])else(if C0 L i [123]then b4V (C7 (a2P L e) 2002 (i+1) ([],[]))else none))))))))
def B7 (L:List Tok) (e:Bool):Nat→Nat→Option (Val×Nat)
 | 0,_=>none
 | f+1,i=>value1P L e (B7 L e f) i
def d0A (B:St) (L:List Tok) (l:Bool) (o:Nat) (f:Nat):Prop:=∀ {st:St} {i:Nat} {d e:Int},Rd B L o st i d e→0≤d→d+f=24 →
 EvQ tbl 119 [.ptr o 0,.bool l] st (fun a st'=>∃ v:Val,v.OK∧a=.agg v.row∧a4j B L o i d e (B7 L l f i) v st')
theorem a0n (l:List Val):l5 5 (l.map Val.row)=true:=B3 (by intro r t;obtain⟨v,_,rfl⟩:=List.mem_map.1 t;obtain⟨_,_,_,_,_,e⟩:=v.row_cells;rw[e];rfl)
theorem X1 (l:List (List Nat)):l5 1 (l.map b9)=true:=B3 (by intro r e;obtain⟨v,_,rfl⟩:=List.mem_map.1 e;rfl)
theorem b9E {L:List Tok} {I:Bool} {o f:Nat} (ih:d0A B L I o f) {st:St} {i:Nat} {d:Int} (h:Rd B L o st i d 0) (hd:0≤d) (b6:d+f=24) :
 EvQ tbl 158 [.ptr o 0,.bool I] st (fun a st'=>∃ v:Val,v.OK∧a=.agg v.row∧a4j B L o i d 0 (value1P L I (B7 L I f) i) v st'):=by
 obtain⟨bad,ho⟩:=h.ob;have hs:∀ y:Obj,(st.set o y)[o]?=some y:=fun y=>r7 ho
 have hl:=h.hL.2;have hi:=h.hi;have ht:=a2n h.hi;have i1:=k7 (show i+1 < 2 ^ 63 by omega);have e:=value1P.eq_1 L I (B7 L I f) i;rw[AE h.hi]at e;dsimp only at e;refine wj (fn:=a158) rfl rfl rfl ?_;simp only[E7,rA,rS,rE,ho,rdC,ht,Tok.row];refine wi (fun z=>?_) (fun z=>?_)
 · rw[if_pos z]at e;have W:(L[i]).k≠0:=by rw[eqI_eq]at z; simp at z; rw[z]; decide
   simp only[E7,rA,rL,rE,ho,rdC,i1];obtain⟨M,ev⟩:=Val.simple 1 (L[i]).n [] (by decide);exact wc ⟨_,_,rfl,_,M,by rw[ev]; rfl,i+1,0,h.put (N9 h.hL.1 h.hi W),by omega,(fun _=>⟨rfl,by omega⟩),fun _=>by rw[e]; rfl⟩
 rw[z,if_neg (by decide)]at e;simp only[E7,rE];refine wi (fun z=>?_) (fun z=>?_)
 · rw[if_pos z]at e;have W:(L[i]).k≠0:=by rw[eqI_eq]at z; simp at z; rw[z]; decide
   simp only[E7,rA,rL,rE,ho,rdC,i1];obtain⟨M,ev⟩:=Val.simple 2 0 (L[i]).t (by decide);exact wc ⟨_,_,rfl,_,M,by rw[ev]; rfl,i+1,0,h.put (N9 h.hL.1 h.hi W),by omega,(fun _=>⟨rfl,by omega⟩),fun _=>by rw[e]; rfl⟩
 rw[z,if_neg (by decide)]at e;simp only[E7,rE];refine wa (E9 h _) rfl rfl ?_;rintro _ st2 (⟨rfl,rfl,J⟩|⟨rfl,_,Y,J⟩)
 rotate_left
 · rw[J,if_pos rfl]at e;simp only[E7,rA,rL];obtain⟨M,ev⟩:=Val.simple 3 1 [] (by decide);exact wc ⟨_,_,rfl,_,M,by rw[ev]; rfl,i+1,0,Y,by omega,(fun _=>⟨rfl,by omega⟩),fun _=>by rw[e]; rfl⟩
 rw[J rfl,if_neg (by decide)]at e;simp only[E7,rE];refine wa (E9 h _) rfl rfl ?_;rintro _ st2 (⟨rfl,rfl,J⟩|⟨rfl,_,Y,J⟩)
 rotate_left
 · rw[J,if_pos rfl]at e;simp only[E7,rA,rL];obtain⟨M,ev⟩:=Val.simple 3 0 [] (by decide);exact wc ⟨_,_,rfl,_,M,by rw[ev]; rfl,i+1,0,Y,by omega,(fun _=>⟨rfl,by omega⟩),fun _=>by rw[e]; rfl⟩
 rw[J rfl,if_neg (by decide)]at e;simp only[E7,rE];refine wa (E9 h _) rfl rfl ?_;rintro _ st2 (⟨rfl,rfl,J⟩|⟨rfl,_,Y,J⟩)
 rotate_left
 · rw[J,if_pos rfl]at e;simp only[E7,rA];obtain⟨M,ev⟩:=Val.simple 0 0 [] (by decide);exact wc ⟨_,_,rfl,_,M,by rw[ev]; rfl,i+1,0,Y,by omega,(fun _=>⟨rfl,by omega⟩),fun _=>by rw[e]; rfl⟩
 rw[J rfl,if_neg (by decide)]at e;simp only[E7,rE];refine wi (fun z=>?_) (fun z=>?_)
 · rw[if_pos z]at e;have W:(L[i]).k≠0:=by rw[eqI_eq]at z; simp at z; rw[z]; decide
   simp only[E7,rA,rL,rE,ho,rdC,i1];obtain⟨M,ev⟩:=Val.simple 4 0 (L[i]).t (by decide);exact wc ⟨_,_,rfl,_,M,by rw[ev]; rfl,i+1,0,h.put (N9 h.hL.1 h.hi W),by omega,(fun _=>⟨rfl,by omega⟩),fun _=>by rw[e]; rfl⟩
 rw[z,if_neg (by decide)]at e;simp only[E7,rE];refine wa (a7S h _) rfl rfl ?_;rintro _ st2 ⟨rfl,b,rfl,hb,a5⟩;have a5:=a5 rfl;simp +contextual only [SS];refine wi (fun z=>?_) (fun z=>?_)
 · have c7:b=true:=by
    cases b
    · cases I<;>cases z
    · rfl
   have W:(L[i]).k≠0:=by rw[(hb c7).2]; decide
   rw[if_pos (by rw[← a5]; exact z)]at e;simp only[E7,rA,rL,rE,ho,rdC,i1];refine wa (O9 (h.put (bad':=bad) (d':=d) (e':=0) (N9 h.hL.1 h.hi W))) rfl rfl ?_;rintro _ u ⟨n,rfl,i3,O,h3,d3,c0,hX⟩;simp only[SS,rA];obtain⟨M,ev⟩:=Val.simple 7 0 n (by decide);refine wc ⟨_,_,rfl,_,M,by rw[ev]; rfl,i3,O,h3,by omega,(fun h=>⟨rfl,by have:=(c0 h).2; omega⟩),fun _=>?_⟩;rw[e,hX rfl];by_cases h0:O=0
   · rw[if_pos h0,if_pos h0]; rfl
   · rw[if_neg h0,if_neg h0]; rfl
 rw[if_neg (by rw[← a5]; intro h0; rw[h0]at z; cases z)]at e;simp only[E7,rE];refine wa (E9 h _) rfl rfl ?_;rintro _ st2 (⟨rfl,rfl,J⟩|⟨rfl,_,Y,J⟩)
 rotate_left
 · -- a list
   rw[J,if_pos rfl]at e;simp only[E7,rA,rL];revert e;generalize hw:C7 (a2Q L (B7 L I f)) 2002 (i+1) []=w;intro e;refine wg (fun mm fr st'=>∃ (T:Nat) (e':Int) (l:List Val) (v5:AV),Rd B L o st' T d e'∧i+1≤T∧(∀ v∈l,v.OK)∧mm=rem L T e'∧l.length+mm≤L.length∧LoopAt (a2Q L (B7 L I f)) w T l e' ∧
    fr=[.ptr o 0,.bool I,.box [.int .u8 0,.int .i64 0,.str [],.list true [],.list true []],.box [.int .u8 (L[i]).k,.str (L[i]).t,.int .i64 (L[i]).n,.int .i64 (L[i]).a],.box [.int .u8 5,.int .i64 0,.str [],.list true [],.list true (l.map Val.row)],v5,.undef,.undef]) (m:=rem L (i+1) 0) ⟨i+1,0,[],_,Y,AK _,by simp,rfl,by simpa using a2o L (i+1) 0,LoopAt.start _ _ _ _ (by rw[if_pos rfl,hw]),rfl⟩ ?_
   rintro mm fr st' ⟨T,e',l,v5,hr,b0,a2,d1,b8,U,rfl⟩;obtain⟨bad',b2⟩:=hr.ob;have c4:=hr.hi;have N:∀ (u:St) (i3:Nat) (O:Int),Rd B L o u i3 d O→i+1≤i3→(w=if O=0 then some (l,i3)else none)→WC (fun n=>H7 (U3 0 (H7 (U3 1 some) (j1 (k8 tbl n) n (a158s59.seq ACode.ret)))) (j1 (k8 tbl n) n (a158s99.seq (a158s101.seq ACode.ret))) (Ex.exit 1,[.ptr o 0,.bool I,.box [.int .u8 0,.int .i64 0,.str [],.list true [],.list true []],.box [.int .u8 (L[i]).k,.str (L[i]).t,.int .i64 (L[i]).n,.int .i64 (L[i]).a],.box [.int .u8 5,.int .i64 0,.str [],.list true [],.list true (l.map Val.row)],v5,.undef,.undef],u))
    (fun b4=>∃ r st',finK [ResK.bx 2 true 5] (some b4)=some (r,st')∧∃ v:Val,v.OK∧r=.agg v.row∧a4j B L o i d 0 (value1P L I (B7 L I f) i) v st'):=by
    intro u i3 O h3 c6 b3;simp only[E7,rA];refine wc ⟨_,_,rfl,.mk 5 0 [] [] l,.mk _ _ _ _ _ (fun h=>absurd h (by decide)) (by simp) (by omega) a2,?_,i3,O,h3,by omega,(fun _=>⟨rfl,by omega⟩),fun _=>?_⟩
    · rw[Val.row_eq];rfl
    · rw[e,b3];by_cases h0:O=0
      · rw[if_pos h0,if_pos h0]; rfl
      · rw[if_neg h0,if_neg h0]; rfl
   simp only[E7,rE,b2,rdC];refine wo (fun Z=>?_) (fun Z=>?_)
   rotate_left
   · simp only[SS,show eqI e' 0=false from Z];have a1:e'≠0:=by intro h0; subst h0; cases Z
     exact we (N st' T e' hr b0 (by rw[if_neg a1]; exact U.bad a1))
   have a9:e'=0:=by rw[eqI_eq]at Z; simpa using Z
   subst a9;simp only[SS,Z];refine wa (E9 hr _) rfl rfl ?_;rintro _ u (⟨rfl,rfl,C⟩|⟨rfl,_,h3,C⟩)
   rotate_left
   · simp only[SS];exact we (N u (T+1) 0 h3 (by omega) (by rw[if_pos rfl]; exact U.exit (by omega) (by rw[a2Q,C]; rfl)))
   · have C:=C rfl;simp only[E7,rA,rE];refine wa (ih hr hd b6) rfl rfl ?_;rintro _ d2 ⟨v,M,rfl,i4,e4,h4,c1,a6,a0⟩;have a0:=a0 rfl;obtain⟨vk,vn,vs,vx,vy,ev⟩:=v.row_cells;have hh:=h4.hi;have d0:=a1r rfl hr.hi (fun h0=>(a6 h0).2);have b1:(l.length+1)*80≤2 ^ 47:=by omega
     simp only[E7,rA,rE,ev,a0n,AG,b1];refine wd (m':=rem L i4 e4) (by omega) ⟨i4,e4,l++[v],.box [.int .u8 vk,.int .i64 vn,.str vs,.list false vx,.list false vy],h4,by omega,fun x hx=>?_,rfl,by simp only[AF,AY,List.length_nil]; omega,U.next (by omega) (fun h0=>(a6 h0).2) ?_,?_⟩
     · rcases AQ.1 hx with h0|h0
       · exact a2 x h0
       · simp at h0; subst h0; exact M
     · rw[a2Q,C,if_neg (by decide),a0];by_cases h0:e4=0
       · rw[if_pos h0,if_pos h0]
       · rw[if_neg h0,if_neg h0]
     · simp only[AW,AH,AM,ev]
 rw[J rfl,if_neg (by decide)]at e;simp only[E7,rE];refine wa (E9 h _) rfl rfl ?_;rintro _ st2 (⟨rfl,rfl,J⟩|⟨rfl,_,Y,J⟩)
 · rw[J rfl,if_neg (by decide)]at e;simp only[E7];refine wa (a2k h 4 (by decide)) rfl rfl ?_;rintro _ u ⟨O,h3,b5⟩;simp only[E7,rA];obtain⟨M,ev⟩:=Val.simple 0 0 [] (by decide);exact wc ⟨_,_,rfl,_,M,by rw[ev]; rfl,i,O,h3,by omega,(fun h=>absurd h b5),fun _=>by rw[e,if_neg b5]⟩
 · -- an object
   rw[J,if_pos rfl]at e;simp only[E7,rA,rL];revert e;generalize hw:C7 (a2P L (B7 L I f)) 2002 (i+1) ([],[])=w;intro e;refine wg (fun mm fr st'=>∃ (T:Nat) (e':Int) (l:List Val) (ks:List (List Nat)) (v7:AV),Rd B L o st' T d e'∧i+1≤T∧(∀ v∈l,v.OK)∧ks.length=l.length∧mm=rem L T e'∧l.length+mm≤L.length∧LoopAt (a2P L (B7 L I f)) w T (ks,l) e' ∧
    fr=[.ptr o 0,.bool I,.box [.int .u8 0,.int .i64 0,.str [],.list true [],.list true []],.box [.int .u8 (L[i]).k,.str (L[i]).t,.int .i64 (L[i]).n,.int .i64 (L[i]).a],.undef,.undef,.box [.int .u8 6,.int .i64 0,.str [],.list true (ks.map b9),.list true (l.map Val.row)],v7]) (m:=rem L (i+1) 0) ⟨i+1,0,[],[],_,Y,AK _,by simp,rfl,rfl,by simpa using a2o L (i+1) 0,LoopAt.start _ _ _ _ (by rw[if_pos rfl,hw]),rfl⟩ ?_
   rintro mm fr st' ⟨T,e',l,ks,v7,hr,b0,a2,b7,d1,b8,U,rfl⟩;obtain⟨bad',b2⟩:=hr.ob;have c4:=hr.hi;have N:∀ (u:St) (i3:Nat) (O:Int),Rd B L o u i3 d O→i+1≤i3→(w=if O=0 then some ((ks,l),i3)else none)→WC (fun n=>H7 (U3 0 (H7 (U3 3 some) (j1 (k8 tbl n) n (a158s84.seq ACode.ret)))) (j1 (k8 tbl n) n (a158s99.seq (a158s101.seq ACode.ret))) (Ex.exit 3,[.ptr o 0,.bool I,.box [.int .u8 0,.int .i64 0,.str [],.list true [],.list true []],.box [.int .u8 (L[i]).k,.str (L[i]).t,.int .i64 (L[i]).n,.int .i64 (L[i]).a],.undef,.undef,.box [.int .u8 6,.int .i64 0,.str [],.list true (ks.map b9),.list true (l.map Val.row)],v7],u))
    (fun b4=>∃ r st',finK [ResK.bx 2 true 5] (some b4)=some (r,st')∧∃ v:Val,v.OK∧r=.agg v.row∧a4j B L o i d 0 (value1P L I (B7 L I f) i) v st'):=by
    intro u i3 O h3 c6 b3;simp only[E7,rA];refine wc ⟨_,_,rfl,.mk 6 0 [] ks l,.mk _ _ _ _ _ (fun _=>b7) (by omega) (by omega) a2,?_,i3,O,h3,by omega,(fun _=>⟨rfl,by omega⟩),fun _=>?_⟩
    · rw[Val.row_eq];rfl
    · rw[e,b3];by_cases h0:O=0
      · rw[if_pos h0,if_pos h0]; rfl
      · rw[if_neg h0,if_neg h0]; rfl
   simp only[E7,rE,b2,rdC];refine wo (fun Z=>?_) (fun Z=>?_)
   rotate_left
   · simp only[SS,show eqI e' 0=false from Z];have a1:e'≠0:=by intro h0; subst h0; cases Z
     exact we (N st' T e' hr b0 (by rw[if_neg a1]; exact U.bad a1))
   have a9:e'=0:=by rw[eqI_eq]at Z; simpa using Z
   subst a9;simp only[SS,Z];refine wa (E9 hr _) rfl rfl ?_;rintro _ u (⟨rfl,rfl,C⟩|⟨rfl,_,h3,C⟩)
   rotate_left
   · simp only[SS];exact we (N u (T+1) 0 h3 (by omega) (by rw[if_pos rfl]; exact U.exit (by omega) (by rw[a2P,C]; rfl)))
   · have C:=C rfl;simp only[E7,rA,rL,rE];refine wa (O9 hr) rfl rfl ?_;rintro _ d2 ⟨t,rfl,i4,e4,h4,c1,a6,a0⟩;have c8:(ks.length+1)*16≤2 ^ 47:=by omega
     simp only[E7,rA,X1,AG,c8];refine wa (a2w h4 _) rfl rfl ?_;rintro _ d6 ⟨i5,e5,h5,d4,a7,c2⟩;simp only[E7,rA,rE];refine wa (ih h5 hd b6) rfl rfl ?_;rintro _ d7 ⟨v,M,rfl,i6,e6,h6,d5,a4,c3⟩;obtain⟨vk,vn,vs,vx,vy,ev⟩:=v.row_cells;have d0:rem L i6 e6 < rem L T 0:=a1r rfl hr.hi (fun h0=>by have:=a4 h0; have:=a7 this.1; omega);have b1:(l.length+1)*80≤2 ^ 47:=by omega
     simp only[E7,rA,rE,ev,a0n,AG,b1];refine wd (m':=rem L i6 e6) (by omega) ⟨i6,e6,l++[v],ks++[t],.box [.int .u8 vk,.int .i64 vn,.str vs,.list false vx,.list false vy],h6,by omega,fun x hx=>?_,by simp only[AF,b7]; rfl,rfl,by simp only[AF,AY,List.length_nil]; omega,U.next (by omega) (fun h0=>by have:=a4 h0; have:=a7 this.1; omega) ?_,?_⟩
     · rcases AQ.1 hx with h0|h0
       · exact a2 x h0
       · simp at h0; subst h0; exact M
     · rw[a2P,C,if_neg (by decide),a0 rfl];by_cases h0:e4=0
       · rw[if_pos h0]; dsimp only; rw[c2 h0];by_cases h1:e5=0
         · rw[if_pos h1]; dsimp only; rw[c3 h1];by_cases Y:e6=0
           · rw[if_pos Y,if_pos Y]
           · rw[if_neg Y,if_neg Y]
         · rw[if_neg h1,if_neg (fun h=>h1 (a4 h).1)]
       · rw[if_neg h0,if_neg (fun h=>h0 (a7 (a4 h).1).1)]
     · simp only[AW,AH,AM,ev,b9]
theorem b4s (L:List Tok) (M:Bool) (o:Nat):∀ f,d0A B L M o f:=by
 intro f;induction f with
 | zero =>
  intro st i d e h I W;obtain rfl:d=24:=by omega
  refine wj (fn:=a119) rfl rfl rfl ?_;simp only[a5z,rS,rE];refine wa (a3I h I (by omega)) rfl rfl ?_;rintro _ st1 ⟨l,rfl,u,t⟩;have x:l≠0:=fun N=>by have:=t.1 N; omega
  have z:eqI l 0=false:=by rw[eqI_eq]; simpa using x
  obtain⟨bad,J⟩:=u.ob;have hs:∀ y:Obj,(st1.set o y)[o]?=some y:=fun y=>r7 J
  simp only[a5z,rA,rL,rE,z,J,rdC,a7T I (show(24:Int)≤100 by omega)];obtain⟨C,ev⟩:=Val.simple 0 0 [] (by decide);exact wc ⟨_,_,rfl,_,C,by rw[ev]; rfl,i,l,u.put u.hi,AK _,(fun h=>absurd h x),fun _=>by rw[if_neg x,B7]⟩
 | succ f ih =>
  intro st i d e h I W;have a1:d≤23:=by omega
  have fin:∀ (v:Val) (k n:Int) (s:List Nat) (w w':Bool) (xs ys:List (List AV)) (st1:St) (i1:Nat) (l:Int),v.OK→v.row=[.int .u8 k,.int .i64 n,.str s,.list false xs,.list false ys]→Rd B L o st1 i1 (d+1) l→i≤i1→(l=0→e=0∧i < i1)→(e=0→B7 L M (f+1) i=if l=0 then some (v,i1)else none) →
   WC (fun n'=>j1 (k8 tbl n') n' (a119s9.seq (a119s11.seq ACode.ret)) [.ptr o 0,.bool M,.box [.int .u8 0,.int .i64 0,.str [],.list true [],.list true []],.box [.int .u8 k,.int .i64 n,.str s,.list w xs,.list w' ys]] st1)
    (fun Z=>∃ r st',finK [ResK.bx 2 true 5] (some Z)=some (r,st')∧∃ v:Val,v.OK∧r=.agg v.row∧a4j B L o i d e (B7 L M (f+1) i) v st'):=by
   intro v k n s w w' xs ys st1 i1 l C ev u Y t U;obtain⟨bad,J⟩:=u.ob;have hs:∀ y:Obj,(st1.set o y)[o]?=some y:=fun y=>r7 J
   simp only[a5z,rA,rL,rE,J,rdC,a7T I (show d≤100 by omega)];refine wc ⟨_,_,rfl,v,C,?_,i1,l,u.put u.hi,Y,t,U⟩;rw[ev];rfl
  refine wj (fn:=a119) rfl rfl rfl ?_;simp only[a5z,rS,rE];refine wa (a3I h I (by omega)) rfl rfl ?_;rintro _ st1 ⟨l,rfl,u,t⟩;simp only[SS];refine wi (fun z=>?_) (fun z=>?_)
  rotate_left
  · have x:l≠0:=by rw[eqI_eq]at z; simpa using z
    obtain⟨C,ev⟩:=Val.simple 0 0 [] (by decide);have:=fin _ 0 0 [] true true [] [] st1 i l C ev u (AK _) (fun h=>absurd h x) (fun N=>absurd (t.2 ⟨N,by omega⟩) x);simp only[a5z,rA,rE]at this ⊢;exact this
  · have x:l=0:=by rw[eqI_eq]at z; simpa using z
    subst x;obtain⟨rfl,a2⟩:=t.1 rfl;simp only[a5z,rA,rE];refine wa (b9E ih u (by omega) (by omega)) rfl rfl ?_;rintro _ a0 ⟨v,C,rfl,i4,e4,h4,O,T,U⟩;obtain⟨vk,vn,vs,vx,vy,ev⟩:=v.row_cells;simp only[a5z,rA,rE,ev];have:=fin v vk vn vs false false vx vy a0 i4 e4 C ev h4 O T (fun _=>by rw[B7]; exact U rfl);simp only[a5z,rA,rE]at this ⊢;exact this
end Go.Cb.CodeA
