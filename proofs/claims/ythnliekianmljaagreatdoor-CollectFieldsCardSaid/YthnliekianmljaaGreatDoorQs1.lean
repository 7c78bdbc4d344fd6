import Derived.Test.YthnliekianmljaaGreatDoorChV
import Derived.Test.YthnliekianmljaaGreatDoorXAms3
set_option maxRecDepth 20000
set_option linter.unusedSimpArgs false
set_option linter.unusedVariables false
namespace Go.Cb.CodeA
open Go Go.Cb
open Nat renaming reduceAdd → rA,reduceSub → rS,reduceLeDiff → rL,reduceEqDiff → rE
attribute [local congr] i8 k4 k6 k7 j4 j3 l8 l7 V.runR_congr

def F4 (c:Int):Bool:=!ltI c 97 && !ltI 122 c || !ltI c 65 && !ltI 90 c || eqI c 95
def K5 (c:Int):Bool:=!ltI c 48 && !ltI 57 c
theorem a4t (c:Int) (st:St):EvQ tbl 64 [.int .u8 c] st (fun a st'=>st'=st∧a=.bool (F4 c)):=by
 refine EvQ.body (fn:=a64) rfl rfl rfl ?_
 simp +contextual -implicitDefEqProofs only [K64,SS,rA,rS,rL,rE,reduceCtorEq]
 exact WC.ret ⟨_,_,rfl,rfl,rfl⟩
theorem a7a (c:Int) (st:St):EvQ tbl 65 [.int .u8 c] st (fun a st'=>st'=st∧a=.bool (K5 c)):=by
 refine EvQ.body (fn:=a65) rfl rfl rfl ?_
 simp +contextual -implicitDefEqProofs only [K65,SS,rA,rS,rL,rE,reduceCtorEq]
 exact WC.ret ⟨_,_,rfl,rfl,rfl⟩

/-- a stretch of bytes that are of a kind -/
def S8 (p:Nat→Bool):List Nat→List Nat→List Nat×List Nat
 | acc,[]=>(acc,[])
 | acc,c::r=>if p c then S8 p (acc++[c]) r else (acc,c::r)
def N6 (c:Nat):Bool:=F4 (c:Int) || K5 (c:Int)
/-- one digit more -/
def NN (n:Int) (x:Nat):Int:=l9 .i64 (P4 (l9 .i64 (n*10)) (l9 .i64 (l9 .u8 (P6 (x:Int) 48))))
def Y0:Nat→Int→List Nat→List Nat→Nat×Int×List Nat×List Nat
 | c,n,acc,[]=>(c,n,acc,[])
 | c,n,acc,x::r=>if K5 (x:Int) then Y0 (c+1) (if c < 18 then NN n x else n) (acc++[x]) r else (c,n,acc,x::r)
/-- a token's kind, text and number, and what stands behind it -/
abbrev a0T:=Option (Int×List Nat×Int×List Nat)
def T1 (p:Nat→Bool):List Nat→Bool
 | []=>false
 | x::_=>p x
def Y2 (m:Bool) (pre:List Nat) (c:Nat) (n:Int) (acc r:List Nat):a0T :=
 if c=0 then none else (if T1 (fun x=>eqI (x:Int) 48) acc && decide (1 < c) then none else (if T1 (fun x=>F4 (x:Int) || eqI (x:Int) 46) r then none else (if 18 < c then none else some (2,pre++acc,if m then l9 .i64 (0 - n) else n,r))))
def b3P (m:Bool) (pre:List Nat) (x:Nat×Int×List Nat×List Nat):a0T:=Y2 m pre x.1 x.2.1 x.2.2.1 x.2.2.2
def a1p:List Nat→a0T
 | []=>none
 | b::r=>if eqI (b:Int) 45 then b3P true [45] (Y0 0 0 [] r) else b3P false [] (Y0 0 0 [] (b::r))
def a0V (b:Nat):Option (List Nat):=if eqI (b:Int) 110 then some [10] else (if eqI (b:Int) 116 then some [9] else (if eqI (b:Int) 34 || eqI (b:Int) 47 || eqI (b:Int) 92 then some [b] else none))
def D2:List Nat→List Nat→a0T
 | _,[]=>none
 | t,[b]=>if eqI (b:Int) 34 then (if 200 < t.length then none else some (3,t,0,[])) else none
 | t,b::x::r=>if eqI (b:Int) 34 then (if 200 < t.length then none else some (3,t,0,x::r)) else (if eqI (b:Int) 10 then none else (if eqI (b:Int) 92 then (match a0V x with|none=>none|some y=>D2 (t++y) r) else D2 (t++[b]) (x::r)))
def b3e (b:Nat):Bool:=eqI (b:Int) 33 || eqI (b:Int) 36 || eqI (b:Int) 40 || eqI (b:Int) 41 || eqI (b:Int) 58 || eqI (b:Int) 61 || eqI (b:Int) 64 || eqI (b:Int) 91 || eqI (b:Int) 93 || eqI (b:Int) 123 || eqI (b:Int) 124 || eqI (b:Int) 125 || eqI (b:Int) 38
def a8O (l:List Nat):a0T:=if 32 < (S8 N6 [] l).1.length then none else some (1,(S8 N6 [] l).1,0,(S8 N6 [] l).2)
def a1H:List Nat→a0T
 | 46::46::r=>some (4,[46,46,46],0,r)
 | _=>none
def a0Y:List Nat→a0T
 | []=>none
 | b::r=>if F4 (b:Int) then a8O (b::r) else (if eqI (b:Int) 45 || K5 (b:Int) then a1p (b::r) else (if eqI (b:Int) 34 then D2 [] r else (if eqI (b:Int) 46 then a1H r else (if b3e b then some (4,[b],0,r) else none))))

theorem t6 {s:List Nat} {k b:Nat} (h:s[k]?=some b):s.drop k=b::s.drop (k+1):=by
 obtain ⟨hk,e⟩:=List.getElem?_eq_some_iff.1 h
 rw [List.drop_eq_getElem_cons hk,e]
theorem N1 {s:List Nat} {k:Nat} (h:s.length≤k):s.drop k=[]:=List.drop_of_length_le h
theorem O8 {s:List Nat} {i k b:Nat} (hik:i≤k) (h:s[k]?=some b):(s.take (k+1)).drop i=(s.take k).drop i++[b]:=by
 obtain ⟨hk,e⟩:=List.getElem?_eq_some_iff.1 h
 rw [List.take_succ_eq_append_getElem hk,List.drop_append_of_le_length (by rw [List.length_take]; omega),e]
theorem N0 (s:List Nat) (i:Nat):(s.take i).drop i=[]:=List.drop_of_length_le (by rw [List.length_take]; omega)
theorem b4V {s:List Nat} {i k:Nat} (hk:k≤s.length):((s.take k).drop i).length=k - i:=by rw [List.length_drop,List.length_take]; omega
theorem b6o {s:List Nat} {i f k:Nat} (h1:i≤f) (h2:f≤k):(s.take k).drop i=(s.take f).drop i++(s.take k).drop f:=by
 have e:s.take k=s.take f++(s.take k).drop f:=by
  have:=(List.take_append_drop f (s.take k)).symm
  rwa [List.take_take,Nat.min_eq_left h2] at this
 by_cases hf:i≤(s.take f).length
 · conv=>lhs; rw [e,List.drop_append_of_le_length hf]
 · rw [List.length_take] at hf
   have:s.length < i:=by omega
   rw [List.drop_of_length_le (by rw [List.length_take]; omega),List.drop_of_length_le (by rw [List.length_take]; omega),List.drop_of_length_le (by rw [List.length_take]; omega)]
   rfl

/-- what a token's reader answers: a fault, or a token that ends further on -/
def OneOK (s:List Nat) (i:Nat) (X:a0T) (a:AV):Prop:=∃ (k:Int) (t:List Nat) (n at':Int) (en:Nat) (bad e:Int),
 a=.tuple [.agg [.int .u8 k,.str t,.int .i64 n,.int .i64 at'],.int .i64 en,.int .i64 bad,.int .i64 e]∧(e=0→k≠0∧i < en∧en≤s.length)∧X=if e=0 then some (k,t,n,s.drop en) else none
theorem OneOK.bad {s:List Nat} {i:Nat} {X:a0T} {k:Int} {t:List Nat} {n at':Int} {en:Nat} {bad e:Int} (he:e≠0) (hX:X=none) :
 OneOK s i X (.tuple [.agg [.int .u8 k,.str t,.int .i64 n,.int .i64 at'],.int .i64 en,.int .i64 bad,.int .i64 e]):=⟨_,_,_,_,_,_,_,rfl,fun h=>absurd h he,by rw [hX,if_neg he]⟩
theorem OneOK.good {s:List Nat} {i:Nat} {X:a0T} {k:Int} {t:List Nat} {n at':Int} {en:Nat} {bad:Int} (hk:k≠0) (h1:i < en) (h2:en≤s.length) (hX:X=some (k,t,n,s.drop en)) :
 OneOK s i X (.tuple [.agg [.int .u8 k,.str t,.int .i64 n,.int .i64 at'],.int .i64 en,.int .i64 bad,.int .i64 0]):=⟨_,_,_,_,_,_,_,rfl,fun _=>⟨hk,h1,h2⟩,by rw [hX,if_pos rfl]⟩
theorem a9L {c:Nat} {n:Int} {acc l:List Nat} (h:T1 (fun x=>K5 (x:Int)) l=false):Y0 c n acc l=(c,n,acc,l):=by
 cases l with
 | nil=>rfl
 | cons x r=>rw [Y0,if_neg (by simpa [T1] using h)]
theorem b6K {f k:Nat} (h:f≤k) (hk:k < 2 ^ 60):l9 .i64 (P6 (k:Int) (f:Int))=((k - f:Nat):Int):=by
 rw [subI_eq,J0 (by omega) (by omega)]; omega
theorem a3I (s:List Nat) (i f:Nat) (m:Bool) (hs:s.length≤2000) (hif:i≤f) (hf:f≤s.length) (st:St) {Q:Out→Prop} {K:Nat→Out→Option Out}
 (hK:∀ (k:Nat) (n:Int),f≤k→k≤s.length→Y0 0 0 [] (s.drop f)=(k - f,n,(s.take k).drop f,s.drop k)→WC (fun n'=>K n' (.exit 0,[.str s,.int .i64 i,.box [.int .u8 0,.str [],.int .i64 0,.int .i64 0],.int .i64 0,.int .i64 0,.int .i64 0,.int .i64 k,.bool m,.int .i64 f,.int .i64 n],st)) Q) :
 WC (fun n=>obind (a8T (e8 tbl n) n (a66s15.seq (ACode.blk 1 (a66s19.seq a66s21))) [.str s,.int .i64 i,.box [.int .u8 0,.str [],.int .i64 0,.int .i64 0],.int .i64 0,.int .i64 0,.int .i64 0,.int .i64 f,.bool m,.int .i64 f,.int .i64 0] st) (K n)) Q:=by
 refine WC.loopR (fun mm fr st'=>st'=st∧∃ (k:Nat) (n:Int),f≤k∧k≤s.length∧mm=s.length - k∧Y0 0 0 [] (s.drop f)=Y0 (k - f) n ((s.take k).drop f) (s.drop k)∧fr=[.str s,.int .i64 i,.box [.int .u8 0,.str [],.int .i64 0,.int .i64 0],.int .i64 0,.int .i64 0,.int .i64 0,.int .i64 k,.bool m,.int .i64 f,.int .i64 n]) (m:=s.length - f) ⟨rfl,f,0,Nat.le_refl _,hf,rfl,by rw [N0,Nat.sub_self],rfl⟩ ?_
 rintro mm fr st' ⟨rfl,k,n,h1,h2,rfl,hX,rfl⟩
 simp +contextual -implicitDefEqProofs only [K66,SS,rA,rS,rL,rE,reduceCtorEq]
 by_cases hk:k < s.length
 · have hb:s[k]?=some s[k]:=List.getElem?_eq_getElem hk
   revert hb
   generalize s[k]=b
   intro hb
   simp +contextual -implicitDefEqProofs only [K66,SS,rA,rS,rL,rE,reduceCtorEq,hk,hb]
   refine WC.call (a7a _ _) rfl rfl ?_
   rintro _ _ ⟨rfl,rfl⟩
   simp +contextual -implicitDefEqProofs only [K66,SS,rA,rS,rL,rE,reduceCtorEq,hk,hb]
   refine WC.br (fun hd=>?_) (fun hd=>?_)
   · have hd':K5 (b:Int)=true:=hd
     rw [t6 hb,Y0,if_pos hd',← O8 h1 hb] at hX
     have e1:=b6K h1 (show k < 2 ^ 60 by omega)
     have e2:ltI ((k - f:Nat):Int) 18=decide (k - f < 18):=ltN _ 18
     have e3:k - f+1=k+1 - f:=by omega
     rw [e3] at hX
     simp +contextual -implicitDefEqProofs only [K66,SS,rA,rS,rL,rE,reduceCtorEq,hk,hb,e1,e2]
     by_cases h18:k - f < 18
     · rw [if_pos h18] at hX
       simp +contextual -implicitDefEqProofs only [K66,SS,rA,rS,rL,rE,reduceCtorEq,hk,hb,h18,l5 (show k+1 < 2 ^ 63 by omega)]
       exact WC.next (m':=s.length - (k+1)) (by omega) ⟨rfl,k+1,_,by omega,hk,rfl,hX,rfl⟩
     · rw [if_neg h18] at hX
       simp +contextual -implicitDefEqProofs only [K66,SS,rA,rS,rL,rE,reduceCtorEq,hk,hb,h18,l5 (show k+1 < 2 ^ 63 by omega)]
       exact WC.next (m':=s.length - (k+1)) (by omega) ⟨rfl,k+1,_,by omega,hk,rfl,hX,rfl⟩
   · simp +contextual -implicitDefEqProofs only [K66,SS,rA,rS,rL,rE,reduceCtorEq]
     exact WC.leave (hK k n h1 h2 (hX.trans (a9L (by rw [t6 hb]; exact hd))))
 · simp +contextual -implicitDefEqProofs only [K66,SS,rA,rS,rL,rE,reduceCtorEq,hk]
   exact WC.leave (hK k n h1 h2 (hX.trans (a9L (by rw [N1 (by omega)]; rfl))))

theorem a6l (s:List Nat) (i f k:Nat) (n:Int) (m:Bool) (hs:s.length≤2000) (hif:i≤f) (hf:f≤k) (hk:k≤s.length) (st:St) (hi:i < s.length) :
 WC (fun n'=>d8 (e8 tbl n') n' ((ACode.blk 2 a66s46).seq (a66s51.seq (a66s53.seq ACode.ret))) [.str s,.int .i64 i,.box [.int .u8 0,.str [],.int .i64 0,.int .i64 0],.int .i64 0,.int .i64 0,.int .i64 0,.int .i64 k,.bool m,.int .i64 f,.int .i64 n] st)
  (fun o=>∃ r st',finK [ResK.bx 2 true 4,ResK.v 3,ResK.v 4,ResK.v 5] (some o)=some (r,st')∧st'=st∧OneOK s i (Y2 m ((s.take f).drop i) (k - f) n ((s.take k).drop f) (s.drop k)) r):=by
 have eN:eqI (k:Int) (f:Int)=decide (k=f):=d0l _ _
 by_cases h:k=f
 · simp +contextual -implicitDefEqProofs only [K66,SS,rA,rS,rL,rE,reduceCtorEq,eN,h]
   exact WC.ret ⟨_,_,rfl,rfl,OneOK.bad (en:=0) (by decide) (by rw [Y2,if_pos (Nat.sub_self _)])⟩
 simp +contextual -implicitDefEqProofs only [K66,SS,rA,rS,rL,rE,reduceCtorEq,eN,h]
 have hfk:f < k:=by omega
 have hfs:f < s.length:=by omega
 have hb:s[f]?=some s[f]:=List.getElem?_eq_getElem hfs
 revert hb
 generalize s[f]=b
 intro hb
 have i1:=l5 (show f+1 < 2 ^ 63 by omega)
 have hc:¬ (k - f=0):=by omega
 have hacc:(s.take k).drop f=b::(s.take k).drop (f+1):=t6 (by rw [List.getElem?_take_of_lt hfk]; exact hb)
 have eL:ltI ((f+1:Nat):Int) (k:Int)=decide (f+1 < k):=ltN _ _
 have e1:=b6K hf (show k < 2 ^ 60 by omega)
 have e2:ltI 18 ((k - f:Nat):Int)=decide (18 < k - f):=ltN 18 _
 have hcat:=b6o hif hf (s:=s)
 have hstart:T1 (fun x=>eqI (x:Int) 48) ((s.take k).drop f)=eqI (b:Int) 48:=by rw [hacc]; rfl
 have hlen1:decide (1 < k - f)=decide (f+1 < k):=by apply decide_eq_decide.2; omega
 simp +contextual -implicitDefEqProofs only [K66,SS,rA,rS,rL,rE,reduceCtorEq,hb,i1,eL]
 refine WC.br (fun h=>?_) (fun h=>?_)
 · simp +contextual -implicitDefEqProofs only [K66,SS,rA,rS,rL,rE,reduceCtorEq,i1]
   exact WC.ret ⟨_,_,rfl,rfl,OneOK.bad (en:=0) (by decide) (by rw [Y2,if_neg hc,hstart,hlen1,if_pos h])⟩
 have hz:¬ ((eqI (b:Int) 48 && decide (f+1 < k))=true):=by rw [h]; simp
 have fin:T1 (fun x=>F4 (x:Int) || eqI (x:Int) 46) (s.drop k)=false→¬ 18 < k - f→WC (fun n_1=>seqK (some (.normal,[.str s,.int .i64 i,.box [.int .u8 0,.str [],.int .i64 0,.int .i64 0],.int .i64 0,.int .i64 0,.int .i64 0,.int .i64 k,.bool m,.int .i64 f,.int .i64 n],st)) (d8 (e8 tbl n_1) n_1 (a66s51.seq (a66s53.seq ACode.ret)))) (fun o=>∃ r st',finK [ResK.bx 2 true 4,ResK.v 3,ResK.v 4,ResK.v 5] (some o)=some (r,st')∧st'=st∧OneOK s i (Y2 m ((s.take f).drop i) (k - f) n ((s.take k).drop f) (s.drop k)) r):=by
  intro hh h18
  have hE:Y2 m ((s.take f).drop i) (k - f) n ((s.take k).drop f) (s.drop k)=some (2,(s.take k).drop i,if m then l9 .i64 (0 - n) else n,s.drop k):=by
   rw [Y2,if_neg hc,hstart,hlen1,if_neg hz,hh,if_neg (by decide),if_neg h18,hcat]
  rw [hE]
  cases m with
  | true =>
   simp +contextual -implicitDefEqProofs only [K66,SS,rA,rS,rL,rE,reduceCtorEq,hk,show i≤k by omega]
   exact WC.ret ⟨_,_,rfl,rfl,OneOK.good (by decide) (by omega) hk rfl⟩
  | false =>
   simp +contextual -implicitDefEqProofs only [K66,SS,rA,rS,rL,rE,reduceCtorEq,hk,show i≤k by omega]
   exact WC.ret ⟨_,_,rfl,rfl,OneOK.good (by decide) (by omega) hk rfl⟩
 have tail:T1 (fun x=>F4 (x:Int) || eqI (x:Int) 46) (s.drop k)=false→WC (fun n_1=>d8 (e8 tbl n_1) n_1 ((ACode.blk 2 a66s43).seq (a66s51.seq (a66s53.seq ACode.ret))) [.str s,.int .i64 i,.box [.int .u8 0,.str [],.int .i64 0,.int .i64 0],.int .i64 0,.int .i64 0,.int .i64 0,.int .i64 k,.bool m,.int .i64 f,.int .i64 n] st) (fun o=>∃ r st',finK [ResK.bx 2 true 4,ResK.v 3,ResK.v 4,ResK.v 5] (some o)=some (r,st')∧st'=st∧OneOK s i (Y2 m ((s.take f).drop i) (k - f) n ((s.take k).drop f) (s.drop k)) r):=by
  intro hh
  by_cases h18:18 < k - f
  · simp +contextual -implicitDefEqProofs only [K66,SS,rA,rS,rL,rE,reduceCtorEq,e1,e2,h18]
    exact WC.ret ⟨_,_,rfl,rfl,OneOK.bad (en:=0) (by decide) (by rw [Y2,if_neg hc,hstart,hlen1,if_neg hz,hh,if_neg (by decide),if_pos h18])⟩
  · have fin:=fin hh h18
    simp +contextual -implicitDefEqProofs only [K66,SS,rA,rS,rL,rE,reduceCtorEq,e1,e2,h18]
    simp +contextual -implicitDefEqProofs only [K66,SS,rA,rS,rL,rE,reduceCtorEq] at fin
    exact fin
 simp +contextual -implicitDefEqProofs only [K66,SS,rA,rS,rL,rE,reduceCtorEq]
 by_cases hks:k < s.length
 · have hb:s[k]?=some s[k]:=List.getElem?_eq_getElem hks
   revert hb
   generalize s[k]=b
   intro hb
   simp +contextual -implicitDefEqProofs only [K66,SS,rA,rS,rL,rE,reduceCtorEq,hks,hb]
   refine WC.call (a4t _ _) rfl rfl ?_
   rintro _ _ ⟨rfl,rfl⟩
   simp +contextual -implicitDefEqProofs only [K66,SS,rA,rS,rL,rE,reduceCtorEq,hks,hb]
   refine WC.br (fun h=>?_) (fun h=>?_)
   · simp +contextual -implicitDefEqProofs only [K66,SS,rA,rS,rL,rE,reduceCtorEq]
     exact WC.ret ⟨_,_,rfl,rfl,OneOK.bad (en:=0) (by decide) (by rw [Y2,if_neg hc,hstart,hlen1,if_neg hz,t6 hb,if_pos (show T1 (fun x=>F4 (x:Int) || eqI (x:Int) 46) (b::s.drop (k+1))=true from h)])⟩
   · have tail:=tail (by rw [t6 hb]; exact h)
     simp +contextual -implicitDefEqProofs only [K66,SS,rA,rS,rL,rE,reduceCtorEq]
     simp +contextual -implicitDefEqProofs only [K66,SS,rA,rS,rL,rE,reduceCtorEq] at tail
     exact tail
 · have tail:=tail (by rw [N1 (by omega)]; rfl)
   simp +contextual -implicitDefEqProofs only [K66,SS,rA,rS,rL,rE,reduceCtorEq,hks]
   simp +contextual -implicitDefEqProofs only [K66,SS,rA,rS,rL,rE,reduceCtorEq] at tail
   exact tail
theorem b61 (s:List Nat) (i:Nat) (hs:s.length≤2000) (hi:i < s.length) (st:St):EvQ tbl 66 [.str s,.int .i64 i] st (fun a st'=>st'=st∧OneOK s i (a1p (s.drop i)) a):=by
 have hb:s[i]?=some s[i]:=List.getElem?_eq_getElem hi
 revert hb
 generalize s[i]=b
 intro hb
 refine EvQ.body (fn:=a66) rfl rfl rfl ?_
 rw [t6 hb]
 by_cases h:eqI (b:Int) 45=true
 · rw [a1p,if_pos h]
   have e1:(s.take (i+1)).drop i=[45]:=by
    rw [O8 (Nat.le_refl _) hb,N0]
    rw [eqI_eq] at h
    simp at h
    simp; omega
   simp +contextual -implicitDefEqProofs only [K66,SS,rA,rS,rL,rE,reduceCtorEq,hb,h,l5 (show i+1 < 2 ^ 63 by omega)]
   refine a3I s i (i+1) _ hs (by omega) hi st fun k n h1 h2 hX=>?_
   have:=a6l s i (i+1) k n true hs (by omega) h1 h2 st hi
   rw [hX,b3P,← e1]
   simp +contextual -implicitDefEqProofs only [K66,SS,rA,rS,rL,rE,reduceCtorEq] at this ⊢
   exact this
 · rw [a1p,if_neg h]
   simp only [Bool.not_eq_true] at h
   simp +contextual -implicitDefEqProofs only [K66,SS,rA,rS,rL,rE,reduceCtorEq,hb,h]
   refine a3I s i i _ hs (by omega) (by omega) st fun k n h1 h2 hX=>?_
   have:=a6l s i i k n false hs (by omega) h1 h2 st hi
   rw [t6 hb] at hX
   rw [N0] at this
   rw [hX,b3P]
   simp +contextual -implicitDefEqProofs only [K66,SS,rA,rS,rL,rE,reduceCtorEq] at this ⊢
   exact this

theorem b3W (t:List Nat) (b:Nat) (r:List Nat):D2 t (b::r)=if eqI (b:Int) 34 then (if 200 < t.length then none else some (3,t,0,r)) else (if eqI (b:Int) 10 then none else (if eqI (b:Int) 92 then (match r with|[]=>none|x::r'=>match a0V x with|none=>none|some y=>D2 (t++y) r') else D2 (t++[b]) r)):=by
 cases r with
 | nil=>rw [D2]; simp only [D2]; split <;> (try rfl) <;> split <;> (try rfl) <;> split <;> rfl
 | cons x r=>rw [D2]
theorem c3I (s:List Nat) (i:Nat) (hs:s.length≤2000) (hi:i < s.length) (st:St):EvQ tbl 67 [.str s,.int .i64 i] st (fun a st'=>st'=st∧OneOK s i (D2 [] (s.drop (i+1))) a):=by
 refine EvQ.body (fn:=a67) rfl rfl rfl ?_
 simp +contextual -implicitDefEqProofs only [K67,SS,rA,rS,rL,rE,reduceCtorEq,l5 (show i+1 < 2 ^ 63 by omega)]
 refine WC.loopR (fun mm fr st'=>st'=st∧∃ (t:List Nat) (k:Nat) (v8 v9 v10:AV),i+1≤k∧k≤s.length∧t.length≤k∧mm=s.length - k∧D2 [] (s.drop (i+1))=D2 t (s.drop k)∧fr=[.str s,.int .i64 i,.box [.int .u8 0,.str [],.int .i64 0,.int .i64 0],.int .i64 0,.int .i64 0,.int .i64 0,.str t,.int .i64 k,v8,v9,v10]) (m:=s.length - (i+1)) ⟨rfl,[],i+1,_,_,_,Nat.le_refl _,hi,by simp,rfl,rfl,rfl⟩ ?_
 rintro mm fr st' ⟨rfl,t,k,v8,v9,v10,h1,h2,ht,rfl,hX,rfl⟩
 rw [hX]
 simp +contextual -implicitDefEqProofs only [K67,SS,rA,rS,rL,rE,reduceCtorEq]
 by_cases hk:k < s.length
 case neg =>
  simp +contextual -implicitDefEqProofs only [K67,SS,rA,rS,rL,rE,reduceCtorEq,hk]
  refine WC.leave ?_
  simp +contextual -implicitDefEqProofs only [K67,SS,rA,rS,rL,rE,reduceCtorEq]
  exact WC.ret ⟨_,_,rfl,rfl,OneOK.bad (en:=0) (by decide) (by rw [N1 (by omega),D2])⟩
 have hb:s[k]?=some s[k]:=List.getElem?_eq_getElem hk
 revert hb
 generalize s[k]=b
 intro hb
 have i1:=l5 (show k+1 < 2 ^ 63 by omega)
 have i2:=l5 (show k+1+1 < 2 ^ 63 by omega)
 have eT:ltI 200 (t.length:Int)=decide (200 < t.length):=ltN 200 _
 have hU:=b3W t b (s.drop (k+1))
 rw [← t6 hb] at hU
 simp +contextual -implicitDefEqProofs only [K67,SS,rA,rS,rL,rE,reduceCtorEq,hk,hb]
 by_cases h34:eqI (b:Int) 34=true
 · rw [if_pos h34] at hU
   by_cases h200:200 < t.length
   · rw [if_pos h200] at hU
     simp +contextual -implicitDefEqProofs only [K67,SS,rA,rS,rL,rE,reduceCtorEq,i1,h34,eT,h200]
     refine WC.leaveR ?_
     simp +contextual -implicitDefEqProofs only [K67,SS,rA,rS,rL,rE,reduceCtorEq]
     exact WC.ret ⟨_,_,rfl,rfl,OneOK.bad (en:=0) (by decide) hU⟩
   · rw [if_neg h200] at hU
     simp +contextual -implicitDefEqProofs only [K67,SS,rA,rS,rL,rE,reduceCtorEq,i1,h34,eT,h200]
     refine WC.leaveR ?_
     simp +contextual -implicitDefEqProofs only [K67,SS,rA,rS,rL,rE,reduceCtorEq]
     exact WC.ret ⟨_,_,rfl,rfl,OneOK.good (by decide) (by omega) hk hU⟩
 rw [if_neg h34] at hU
 simp only [Bool.not_eq_true] at h34
 simp +contextual -implicitDefEqProofs only [K67,SS,rA,rS,rL,rE,reduceCtorEq,h34]
 refine WC.br (fun h=>?_) (fun h=>?_)
 · rw [if_pos h] at hU
   simp +contextual -implicitDefEqProofs only [K67,SS,rA,rS,rL,rE,reduceCtorEq]
   refine WC.leaveR ?_
   simp +contextual -implicitDefEqProofs only [K67,SS,rA,rS,rL,rE,reduceCtorEq]
   exact WC.ret ⟨_,_,rfl,rfl,OneOK.bad (en:=0) (by decide) hU⟩
 rw [h,if_neg (by decide)] at hU
 simp +contextual -implicitDefEqProofs only [K67,SS,rA,rS,rL,rE,reduceCtorEq]
 refine WC.br (fun h=>?_) (fun h=>?_)
 case refine_2 =>
  rw [h,if_neg (by decide)] at hU
  have l1:(s.take (k+1)).drop k=[b]:=by rw [O8 (Nat.le_refl _) hb,N0]; rfl
  have l2:t.length+1≤2 ^ 62:=by omega
  simp +contextual -implicitDefEqProofs only [K67,SS,rA,rS,rL,rE,reduceCtorEq,i1,hk,show k+1≤s.length by omega,show k≤k+1 by omega,l1,l2,List.length_cons,List.length_nil]
  exact WC.next (m':=s.length - (k+1)) (by omega) ⟨rfl,_,k+1,_,_,_,by omega,hk,by simp only [List.length_append,List.length_cons,List.length_nil]; omega,rfl,hU,rfl⟩
 rw [if_pos h] at hU
 simp +contextual -implicitDefEqProofs only [K67,SS,rA,rS,rL,rE,reduceCtorEq,i1]
 by_cases hks:k+1=s.length
 · rw [N1 (show s.length≤k+1 by omega)] at hU
   simp +contextual -implicitDefEqProofs only [K67,SS,rA,rS,rL,rE,reduceCtorEq,hks]
   refine WC.leaveR ?_
   simp +contextual -implicitDefEqProofs only [K67,SS,rA,rS,rL,rE,reduceCtorEq]
   exact WC.ret ⟨_,_,rfl,rfl,OneOK.bad (en:=0) (by decide) hU⟩
 have hk1:k+1 < s.length:=by omega
 have hb1:s[k+1]?=some s[k+1]:=List.getElem?_eq_getElem hk1
 revert hb1
 generalize s[k+1]=b1
 intro hb1
 have l3:t.length+1≤2 ^ 62:=by omega
 rw [t6 hb1] at hU
 dsimp only at hU
 simp +contextual -implicitDefEqProofs only [K67,SS,rA,rS,rL,rE,reduceCtorEq,hks,hb1]
 refine WC.br (fun h=>?_) (fun h=>?_)
 · have hE:a0V b1=some [10]:=by rw [a0V,if_pos h]
   rw [hE] at hU
   simp +contextual -implicitDefEqProofs only [K67,SS,rA,rS,rL,rE,reduceCtorEq,i2,l3]
   exact WC.next (m':=s.length - (k+1+1)) (by omega) ⟨rfl,_,k+1+1,_,_,_,by omega,hk1,by simp only [List.length_append,List.length_cons,List.length_nil]; omega,rfl,hU,rfl⟩
 have hn1:=h
 simp +contextual -implicitDefEqProofs only [K67,SS,rA,rS,rL,rE,reduceCtorEq]
 refine WC.br (fun h=>?_) (fun h=>?_)
 · have hE:a0V b1=some [9]:=by rw [a0V,hn1,if_neg (by decide),if_pos h]
   rw [hE] at hU
   simp +contextual -implicitDefEqProofs only [K67,SS,rA,rS,rL,rE,reduceCtorEq,i2,l3]
   exact WC.next (m':=s.length - (k+1+1)) (by omega) ⟨rfl,_,k+1+1,_,_,_,by omega,hk1,by simp only [List.length_append,List.length_cons,List.length_nil]; omega,rfl,hU,rfl⟩
 have hn2:=h
 have l1:(s.take (k+1+1)).drop (k+1)=[b1]:=by rw [O8 (Nat.le_refl _) hb1,N0]; rfl
 have good:(eqI (b1:Int) 34 || eqI (b1:Int) 47 || eqI (b1:Int) 92)=true→D2 t (s.drop k)=D2 (t++[b1]) (s.drop (k+1+1)):=by
  intro h
  have hE:a0V b1=some [b1]:=by rw [a0V,hn1,if_neg (by decide),hn2,if_neg (by decide),if_pos h]
  rw [hE] at hU
  exact hU
 simp +contextual -implicitDefEqProofs only [K67,SS,rA,rS,rL,rE,reduceCtorEq]
 refine WC.br (fun h=>?_) (fun h=>?_)
 · simp +contextual -implicitDefEqProofs only [h,K67,SS,rA,rS,rL,rE,reduceCtorEq,i2,show k+1+1≤s.length by omega,show k+1≤k+1+1 by omega,l1,l3,List.length_cons,List.length_nil]
   exact WC.next (m':=s.length - (k+1+1)) (by omega) ⟨rfl,_,k+1+1,_,_,_,by omega,hk1,by simp only [List.length_append,List.length_cons,List.length_nil]; omega,rfl,(good (by rw [show eqI (b1:Int) 34=true from h]; rfl)),rfl⟩
 have hn3:=h
 simp +contextual -implicitDefEqProofs only [K67,SS,rA,rS,rL,rE,reduceCtorEq]
 refine WC.br (fun h=>?_) (fun h=>?_)
 · simp +contextual -implicitDefEqProofs only [h,K67,SS,rA,rS,rL,rE,reduceCtorEq,i2,show k+1+1≤s.length by omega,show k+1≤k+1+1 by omega,l1,l3,List.length_cons,List.length_nil]
   exact WC.next (m':=s.length - (k+1+1)) (by omega) ⟨rfl,_,k+1+1,_,_,_,by omega,hk1,by simp only [List.length_append,List.length_cons,List.length_nil]; omega,rfl,(good (by rw [show eqI (b1:Int) 47=true from h]; simp)),rfl⟩
 have hn4:=h
 simp +contextual -implicitDefEqProofs only [K67,SS,rA,rS,rL,rE,reduceCtorEq]
 refine WC.br (fun h=>?_) (fun h=>?_)
 · simp +contextual -implicitDefEqProofs only [h,K67,SS,rA,rS,rL,rE,reduceCtorEq,i2,show k+1+1≤s.length by omega,show k+1≤k+1+1 by omega,l1,l3,List.length_cons,List.length_nil]
   exact WC.next (m':=s.length - (k+1+1)) (by omega) ⟨rfl,_,k+1+1,_,_,_,by omega,hk1,by simp only [List.length_append,List.length_cons,List.length_nil]; omega,rfl,(good (by rw [show eqI (b1:Int) 92=true from h]; simp)),rfl⟩
 have hE:a0V b1=none:=by rw [a0V,hn1,if_neg (by decide),hn2,if_neg (by decide),show eqI (b1:Int) 34=false from hn3,show eqI (b1:Int) 47=false from hn4,show eqI (b1:Int) 92=false from h,if_neg (by decide)]
 rw [hE] at hU
 simp +contextual -implicitDefEqProofs only [K67,SS,rA,rS,rL,rE,reduceCtorEq]
 refine WC.leaveR ?_
 simp +contextual -implicitDefEqProofs only [K67,SS,rA,rS,rL,rE,reduceCtorEq]
 exact WC.ret ⟨_,_,rfl,rfl,OneOK.bad (en:=0) (by decide) hU⟩

theorem b5J {p:Nat→Bool} {acc l:List Nat} (h:T1 p l=false):S8 p acc l=(acc,l):=by
 cases l with
 | nil=>rfl
 | cons x r=>rw [S8,if_neg (by simpa [T1] using h)]
theorem d1W (s:List Nat) (i:Nat) (hs:s.length≤2000) (hi:i < s.length) (st0:St):EvQ tbl 38 [.str s,.int .i64 i] st0 (fun a st'=>st'=st0∧OneOK s i (a0Y (s.drop i)) a):=by
 have hb:s[i]?=some s[i]:=List.getElem?_eq_getElem hi
 revert hb
 generalize s[i]=b
 intro hb
 have i1:=l5 (show i+1 < 2 ^ 63 by omega)
 have hU:a0Y (s.drop i)=a0Y (b::s.drop (i+1)):=by rw [t6 hb]
 rw [a0Y] at hU
 refine EvQ.body (fn:=a38) rfl rfl rfl ?_
 simp +contextual -implicitDefEqProofs only [K38,SS,rA,rS,rL,rE,reduceCtorEq,hb]
 refine WC.call (a4t _ _) rfl rfl ?_
 rintro _ st ⟨rfl,rfl⟩
 simp +contextual -implicitDefEqProofs only [K38,SS,rA,rS,rL,rE,reduceCtorEq]
 refine WC.br (fun hlet=>?_) (fun hlet=>?_)
 · rw [if_pos (show F4 (b:Int)=true from hlet),← t6 hb] at hU
   simp +contextual -implicitDefEqProofs only [K38,SS,rA,rS,rL,rE,reduceCtorEq]
   refine WC.loopR (fun mm fr st'=>st'=st∧∃ (k:Nat),i≤k∧k≤s.length∧mm=s.length - k∧S8 N6 [] (s.drop i)=S8 N6 ((s.take k).drop i) (s.drop k)∧fr=[.str s,.int .i64 i,.box [.int .u8 0,.str [],.int .i64 0,.int .i64 0],.int .i64 0,.int .i64 0,.int .i64 0,.int .u8 b,.int .i64 k]) (m:=s.length - i) ⟨rfl,i,Nat.le_refl _,by omega,rfl,by rw [N0],rfl⟩ ?_
   rintro mm fr st' ⟨rfl,k,h1,h2,rfl,hX,rfl⟩
   have leave:i < k→T1 N6 (s.drop k)=false→WC (fun n=>C7 (P7 0 (C7 (P7 1 some) (d8 (e8 tbl n) n (a38s19.seq (a38s21.seq ACode.ret))))) (d8 (e8 tbl n) n (a38s54.seq ACode.ret)) (Ex.exit 1,[.str s,.int .i64 i,.box [.int .u8 0,.str [],.int .i64 0,.int .i64 0],.int .i64 0,.int .i64 0,.int .i64 0,.int .u8 b,.int .i64 k],st')) (fun o=>∃ r st'',finK [ResK.bx 2 true 4,ResK.v 3,ResK.v 4,ResK.v 5] (some o)=some (r,st'')∧st''=st'∧OneOK s i (a0Y (s.drop i)) r):=by
    intro hik hh
    rw [b5J hh] at hX
    have e1:=b6K h1 (show k < 2 ^ 60 by omega)
    have e2:ltI 32 ((k - i:Nat):Int)=decide (32 < k - i):=ltN 32 _
    have hN:a8O (s.drop i)=if 32 < k - i then none else some (1,(s.take k).drop i,0,s.drop k):=by
     rw [a8O,hX,b4V h2]
    rw [hU,hN]
    by_cases h32:32 < k - i
    · simp +contextual -implicitDefEqProofs only [K38,SS,rA,rS,rL,rE,reduceCtorEq,e1,e2,h32]
      exact WC.ret ⟨_,_,rfl,rfl,OneOK.bad (en:=0) (by decide) rfl⟩
    · simp +contextual -implicitDefEqProofs only [K38,SS,rA,rS,rL,rE,reduceCtorEq,h2,h1,e1,e2,h32]
      exact WC.ret ⟨_,_,rfl,rfl,OneOK.good (by decide) hik h2 rfl⟩
   simp +contextual -implicitDefEqProofs only [K38,SS,rA,rS,rL,rE,reduceCtorEq]
   by_cases hk:k < s.length
   case neg =>
    simp +contextual -implicitDefEqProofs only [K38,SS,rA,rS,rL,rE,reduceCtorEq,hk]
    exact WC.leave (leave (by omega) (by rw [N1 (by omega)]; rfl))
   have hbk:s[k]?=some s[k]:=List.getElem?_eq_getElem hk
   revert hbk
   generalize s[k]=bk
   intro hbk
   have i2:=l5 (show k+1 < 2 ^ 63 by omega)
   have go:N6 bk=true→S8 N6 [] (s.drop i)=S8 N6 ((s.take (k+1)).drop i) (s.drop (k+1)):=by
    intro h
    rw [hX,t6 hbk,S8,if_pos h,O8 h1 hbk]
   simp +contextual -implicitDefEqProofs only [K38,SS,rA,rS,rL,rE,reduceCtorEq,hk,hbk]
   refine WC.call (a4t _ _) rfl rfl ?_
   rintro _ _ ⟨rfl,rfl⟩
   simp +contextual -implicitDefEqProofs only [K38,SS,rA,rS,rL,rE,reduceCtorEq,hk,hbk]
   refine WC.g2 (fun h=>?_) (fun h=>?_)
   · simp +contextual -implicitDefEqProofs only [K38,SS,rA,rS,rL,rE,reduceCtorEq,h,hk,hbk]
     refine WC.call (a7a _ _) rfl rfl ?_
     rintro _ _ ⟨rfl,rfl⟩
     simp +contextual -implicitDefEqProofs only [K38,SS,rA,rS,rL,rE,reduceCtorEq,h]
     refine WC.br (fun h'=>?_) (fun h'=>?_)
     · simp +contextual -implicitDefEqProofs only [K38,SS,rA,rS,rL,rE,reduceCtorEq,i2]
       exact WC.next (m':=s.length - (k+1)) (by omega) ⟨rfl,k+1,by omega,hk,rfl,go (by rw [N6,show K5 (bk:Int)=true from h',Bool.or_true]),rfl⟩
     · simp +contextual -implicitDefEqProofs only [K38,SS,rA,rS,rL,rE,reduceCtorEq]
       have hne:k≠i:=by
        rintro rfl
        rw [hb] at hbk
        obtain rfl:=Option.some.inj hbk
        rw [hlet] at h
        cases h
       exact WC.leave (leave (by omega) (by rw [t6 hbk]; show N6 bk=false; rw [N6,show F4 (bk:Int)=false from h,show K5 (bk:Int)=false from h']; rfl))
   · simp +contextual -implicitDefEqProofs only [K38,SS,rA,rS,rL,rE,reduceCtorEq,show F4 (bk:Int)=true from h,i2]
     exact WC.next (m':=s.length - (k+1)) (by omega) ⟨rfl,k+1,by omega,hk,rfl,go (by rw [N6,show F4 (bk:Int)=true from h,Bool.true_or]),rfl⟩
 · rw [if_neg (show ¬ F4 (b:Int)=true by rw [show F4 (b:Int)=false from hlet]; decide)] at hU
   simp +contextual -implicitDefEqProofs only [K38,SS,rA,rS,rL,rE,reduceCtorEq]
   have num:(eqI (b:Int) 45 || K5 (b:Int))=true→WC (fun n=>d8 (e8 tbl n) n ((ACode.blk 0 a38s28).seq (a38s54.seq ACode.ret)) [.str s,.int .i64 i,.box [.int .u8 0,.str [],.int .i64 0,.int .i64 0],.int .i64 0,.int .i64 0,.int .i64 0,.int .u8 b,.int .i64 i] st) (fun o=>∃ r st'',finK [ResK.bx 2 true 4,ResK.v 3,ResK.v 4,ResK.v 5] (some o)=some (r,st'')∧st''=st∧OneOK s i (a0Y (s.drop i)) r):=by
    intro hm
    rw [if_pos hm,← t6 hb] at hU
    rw [hU]
    simp +contextual -implicitDefEqProofs only [K38,SS,rA,rS,rL,rE,reduceCtorEq]
    refine WC.call (b61 s i hs hi _) rfl rfl ?_
    rintro _ _ ⟨rfl,k,t,n,at',en,bad,e,rfl,hg⟩
    simp +contextual -implicitDefEqProofs only [K38,SS,rA,rS,rL,rE,reduceCtorEq]
    exact WC.ret ⟨_,_,rfl,rfl,_,_,_,_,_,_,_,rfl,hg⟩
   refine WC.g2 (fun h=>?_) (fun h=>?_)
   rotate_left
   · have h:eqI (b:Int) 45=true:=h
     simp +contextual -implicitDefEqProofs only [K38,SS,rA,rS,rL,rE,reduceCtorEq,h] at num ⊢
     exact num trivial
   simp +contextual -implicitDefEqProofs only [K38,SS,rA,rS,rL,rE,reduceCtorEq,h]
   refine WC.call (a7a _ _) rfl rfl ?_
   rintro _ _ ⟨rfl,rfl⟩
   simp +contextual -implicitDefEqProofs only [K38,SS,rA,rS,rL,rE,reduceCtorEq,h]
   refine WC.br (fun hdig=>?_) (fun hdig=>?_)
   · have num:=num (by rw [show K5 (b:Int)=true from hdig,Bool.or_true])
     simp +contextual -implicitDefEqProofs only [K38,SS,rA,rS,rL,rE,reduceCtorEq] at num ⊢
     exact num
   rw [if_neg (show ¬ (eqI (b:Int) 45 || K5 (b:Int))=true by rw [show eqI (b:Int) 45=false from h,show K5 (b:Int)=false from hdig]; decide)] at hU
   simp +contextual -implicitDefEqProofs only [K38,SS,rA,rS,rL,rE,reduceCtorEq]
   refine WC.br (fun h=>?_) (fun h=>?_)
   · rw [if_pos h] at hU
     rw [hU]
     simp +contextual -implicitDefEqProofs only [K38,SS,rA,rS,rL,rE,reduceCtorEq]
     refine WC.call (c3I s i hs hi _) rfl rfl ?_
     rintro _ _ ⟨rfl,k,t,n,at',en,bad,e,rfl,hg⟩
     simp +contextual -implicitDefEqProofs only [K38,SS,rA,rS,rL,rE,reduceCtorEq]
     exact WC.ret ⟨_,_,rfl,rfl,_,_,_,_,_,_,_,rfl,hg⟩
   rw [h,if_neg (by decide)] at hU
   simp +contextual -implicitDefEqProofs only [K38,SS,rA,rS,rL,rE,reduceCtorEq]
   refine WC.br (fun h=>?_) (fun h=>?_)
   · rw [if_pos h] at hU
     have e1:l9 .i64 (P6 (s.length:Int) (i:Int))=((s.length - i:Nat):Int):=by
      rw [subI_eq,J0 (by omega) (by omega)]; omega
     have e3:l9 .i64 (P4 (i:Int) 2)=((i+2:Nat):Int):=by
      rw [addI_eq,J0 (by omega) (by omega)]; omega
     have e4:l9 .i64 (P4 (i:Int) 3)=((i+3:Nat):Int):=by
      rw [addI_eq,J0 (by omega) (by omega)]; omega
     have e5:ltI ((s.length - i:Nat):Int) 3=decide (s.length - i < 3):=ltN _ 3
     by_cases h3:s.length - i < 3
     · simp +contextual -implicitDefEqProofs only [K38,SS,rA,rS,rL,rE,reduceCtorEq,e1,e5,h3]
       refine WC.ret ⟨_,_,rfl,rfl,OneOK.bad (en:=0) (by decide) (hU.trans ?_)⟩
       have hl:(s.drop (i+1)).length < 2:=by rw [List.length_drop]; omega
       revert hl
       generalize s.drop (i+1)=r
       intro hl
       match r,hl with
       | [],_=>rfl
       | [x],_=>unfold a1H; split <;> simp_all
       | _::_::_,h=>exact absurd h (by simp)
     have hb1:s[i+1]?=some s[i+1]:=List.getElem?_eq_getElem (by omega)
     have hb2:s[i+2]?=some s[i+2]:=List.getElem?_eq_getElem (by omega)
     revert hb1 hb2
     generalize s[i+1]=b1
     generalize s[i+2]=b2
     intro hb1 hb2
     rw [t6 hb1,t6 hb2] at hU
     have hD:∀ r,a1H (b1::b2::r)=if (eqI (b1:Int) 46 && eqI (b2:Int) 46)=true then some (4,[46,46,46],0,r) else none:=by
      intro r
      rw [eqI_eq,eqI_eq]
      by_cases h1:b1=46 <;> by_cases h2:b2=46
      · subst h1 h2; rfl
      · unfold a1H; split <;> simp_all <;> omega
      · unfold a1H; split <;> simp_all <;> omega
      · unfold a1H; split <;> simp_all <;> omega
     rw [hD] at hU
     simp +contextual -implicitDefEqProofs only [K38,SS,rA,rS,rL,rE,reduceCtorEq,e1,e3,i1,e5,h3,hb1,hb2]
     refine WC.br (fun h=>?_) (fun h=>?_)
     · rw [if_pos h] at hU
       simp +contextual -implicitDefEqProofs only [K38,SS,rA,rS,rL,rE,reduceCtorEq,e4]
       exact WC.ret ⟨_,_,rfl,rfl,OneOK.good (by decide) (by omega) (by omega) hU⟩
     · rw [h,if_neg (by decide)] at hU
       simp +contextual -implicitDefEqProofs only [K38,SS,rA,rS,rL,rE,reduceCtorEq]
       exact WC.ret ⟨_,_,rfl,rfl,OneOK.bad (en:=0) (by decide) hU⟩
   rw [h,if_neg (by decide)] at hU
   simp (config := { maxSteps := 1000000 }) +contextual -implicitDefEqProofs only [K38,SS,rA,rS,rL,rE,reduceCtorEq]
   refine WC.br (fun h=>?_) (fun h=>?_)
   · rw [if_pos (show b3e b=true from h)] at hU
     have l1:(s.take (i+1)).drop i=[b]:=by rw [O8 (Nat.le_refl _) hb,N0]; rfl
     simp +contextual -implicitDefEqProofs only [K38,SS,rA,rS,rL,rE,reduceCtorEq,i1,show i+1≤s.length by omega,show i≤i+1 by omega,l1]
     exact WC.ret ⟨_,_,rfl,rfl,OneOK.good (by decide) (by omega) hi hU⟩
   · rw [show b3e b=false from h,if_neg (by decide)] at hU
     simp +contextual -implicitDefEqProofs only [K38,SS,rA,rS,rL,rE,reduceCtorEq]
     exact WC.ret ⟨_,_,rfl,rfl,OneOK.bad (en:=0) (by decide) hU⟩
end Go.Cb.CodeA
set_option maxRecDepth 20000
set_option linter.unusedSimpArgs false
set_option linter.unusedVariables false
namespace Go.Cb.CodeA
open Go Go.Cb
open Nat renaming reduceAdd → rA,reduceSub → rS,reduceLeDiff → rL,reduceEqDiff → rE
attribute [local congr] i8 k4 k6 k7 j4 j3 l8 l7 V.runR_congr

structure Tok where
 k:Int
 t:List Nat
 n:Int
 a:Int
def Tok.row (t:Tok):List AV:=[.int .u8 t.k,.str t.t,.int .i64 t.n,.int .i64 t.a]
/-- tokens that end as they must -/
def b6M (L:List Tok):Prop:=∃ L' a,L=L'++[⟨0,[],0,a⟩]∧∀ t∈L',t.k≠0
def a9d (b:Nat):Bool:=eqI (b:Int) 32 || eqI (b:Int) 10 || eqI (b:Int) 9 || eqI (b:Int) 13 || eqI (b:Int) 44
/-- behind a remark -/
def skipC:List Nat→List Nat
 | []=>[]
 | b::r=>if eqI (b:Int) 10 then b::r else skipC r
def L6:Nat→Nat→List Nat→List Tok→Option (List Tok)
 | 0,_,_,_=>none
 | _+1,i,[],acc=>some (acc++[⟨0,[],0,(i:Int)⟩])
 | f+1,i,b::r,acc=>if a9d b then L6 f (i+1) r acc else (if eqI (b:Int) 35 then L6 f (i+((b::r).length - (skipC (b::r)).length)) (skipC (b::r)) acc else (match a0Y (b::r) with
  | none=>none
  | some (k,t,n,r')=>L6 f (i+((b::r).length - r'.length)) r' (acc++[⟨k,t,n,(i:Int)⟩])))
def I9 (s:List Nat):Option (List Tok):=if 2000 < s.length then none else L6 2002 0 s []
def b7v (s:List Nat) (a:AV):Prop:=∃ (L:List Tok) (at' e:Int),a=.tuple [.list false (L.map Tok.row),.int .i64 at',.int .i64 e]∧(e=0→b6M L∧L.length≤2001)∧I9 s=if e=0 then some L else none
theorem b2N (L:List Tok):m7 4 (L.map Tok.row)=true:=E3 (by
 intro r hr
 obtain ⟨t,_,rfl⟩:=List.mem_map.1 hr
 rfl)

theorem b65 (s:List Nat) (st0:St):EvQ tbl 17 [.str s] st0 (fun a st'=>st'=st0∧b7v s a):=by
 refine EvQ.body (fn:=a17) rfl rfl rfl ?_
 have e0:ltI 2000 (s.length:Int)=decide (2000 < s.length):=ltN 2000 _
 by_cases hs:2000 < s.length
 · simp +contextual -implicitDefEqProofs only [K17,SS,rA,rS,rL,rE,reduceCtorEq,e0,hs]
   exact WC.ret ⟨_,_,rfl,rfl,[],_,_,rfl,(fun h=>by cases h),by rw [I9,if_pos hs]; rfl⟩
 simp +contextual -implicitDefEqProofs only [K17,SS,rA,rS,rL,rE,reduceCtorEq,e0,hs]
 have hs':¬ 2000 < s.length:=hs
 have hs:s.length≤2000:=by omega
 refine WC.loopR (fun mm fr st'=>st'=st0∧∃ (i:Nat) (L:List Tok) (v6 v7 v8 v9 v10:AV),i≤s.length∧L.length≤i∧(∀ t∈L,t.k≠0)∧mm=s.length - i∧(∃ c,c≤i∧I9 s=L6 (2002 - c) i (s.drop i) L)∧fr=[.str s,.list true [],.int .i64 0,.int .i64 0,.list true (L.map Tok.row),.int .i64 i,v6,v7,v8,v9,v10]) (m:=s.length) ⟨rfl,0,[],_,_,_,_,_,Nat.zero_le _,Nat.le_refl _,by simp,rfl,⟨0,Nat.le_refl _,by rw [I9,if_neg hs']; rfl⟩,rfl⟩ ?_
 rintro mm fr st ⟨rfl,i,L,v6,v7,v8,v9,v10,hi,hL,hk,rfl,⟨c,hc,hX⟩,rfl⟩
 have hc1:2002 - c=(2002 - (c+1))+1:=by omega
 rw [hc1] at hX
 simp +contextual -implicitDefEqProofs only [K17,SS,rA,rS,rL,rE,reduceCtorEq]
 by_cases hil:i < s.length
 case neg =>
  rw [N1 (show s.length≤i by omega),L6] at hX
  simp +contextual -implicitDefEqProofs only [K17,SS,rA,rS,rL,rE,reduceCtorEq,hil]
  refine WC.leave ?_
  simp +contextual -implicitDefEqProofs only [K17,SS,rA,rS,rL,rE,reduceCtorEq,b2N,List.length_map,show (L.length+1)*40≤2 ^ 47 by omega]
  exact WC.ret ⟨_,_,rfl,rfl,L++[⟨0,[],0,i⟩],0,0,by simp only [List.map_append]; rfl,fun _=>⟨⟨L,i,rfl,hk⟩,by simp only [List.length_append,List.length_cons,List.length_nil]; omega⟩,by rw [hX]; rfl⟩
 have hb:s[i]?=some s[i]:=List.getElem?_eq_getElem hil
 revert hb
 generalize s[i]=b
 intro hb
 have i1:=l5 (show i+1 < 2 ^ 63 by omega)
 rw [t6 hb,L6,← t6 hb] at hX
 simp +contextual -implicitDefEqProofs only [K17,SS,rA,rS,rL,rE,reduceCtorEq,hil,hb]
 refine WC.br (fun h=>?_) (fun h=>?_)
 · rw [if_pos (show a9d b=true from h)] at hX
   simp +contextual -implicitDefEqProofs only [K17,SS,rA,rS,rL,rE,reduceCtorEq,i1]
   exact WC.next (m':=s.length - (i+1)) (by omega) ⟨rfl,i+1,L,_,_,_,_,_,hil,by omega,hk,rfl,⟨c+1,by omega,hX⟩,rfl⟩
 rw [show a9d b=false from h,if_neg (by decide)] at hX
 simp +contextual -implicitDefEqProofs only [K17,SS,rA,rS,rL,rE,reduceCtorEq]
 refine WC.br (fun h=>?_) (fun h=>?_)
 · have hb35:b=35:=by rw [eqI_eq] at h; simp at h; omega
   rw [if_pos h] at hX
   have skip_end:∀ j,i≤j→j≤s.length→skipC (s.drop i)=s.drop j→I9 s=L6 (2002 - (c+1)) j (s.drop j) L:=by
    intro j h1 h2 hj
    rw [hX,hj,List.length_drop,List.length_drop]
    congr 1
    omega
   simp +contextual -implicitDefEqProofs only [K17,SS,rA,rS,rL,rE,reduceCtorEq]
   refine WC.loopR (fun mm fr st'=>st'=st∧∃ (j:Nat),i≤j∧j≤s.length∧mm=s.length - j∧skipC (s.drop i)=skipC (s.drop j)∧fr=[.str s,.list true [],.int .i64 0,.int .i64 0,.list true (L.map Tok.row),.int .i64 j,.int .u8 b,v7,v8,v9,v10]) (m:=s.length - i) ⟨rfl,i,Nat.le_refl _,hi,rfl,rfl,rfl⟩ ?_
   rintro mm fr st' ⟨rfl,j,h1,h2,rfl,hS,rfl⟩
   simp +contextual -implicitDefEqProofs only [K17,SS,rA,rS,rL,rE,reduceCtorEq]
   by_cases hj:j < s.length
   case neg =>
    rw [N1 (show s.length≤j by omega),skipC] at hS
    simp +contextual -implicitDefEqProofs only [K17,SS,rA,rS,rL,rE,reduceCtorEq,hj]
    refine WC.leave ?_
    simp +contextual -implicitDefEqProofs only [K17,SS,rA,rS,rL,rE,reduceCtorEq]
    exact WC.next (m':=s.length - j) (by omega) ⟨rfl,j,L,_,_,_,_,_,h2,by omega,hk,rfl,⟨c+1,by omega,skip_end j h1 h2 (by rw [hS,N1 (by omega)])⟩,rfl⟩
   have hbj:s[j]?=some s[j]:=List.getElem?_eq_getElem hj
   revert hbj
   generalize s[j]=bj
   intro hbj
   rw [t6 hbj,skipC,← t6 hbj] at hS
   simp +contextual -implicitDefEqProofs only [K17,SS,rA,rS,rL,rE,reduceCtorEq,hj,hbj]
   rcases k8 (eqI (bj:Int) 10) with h'|h'
   · rw [if_pos h'] at hS
     have hne:i≠j:=by
      rintro rfl
      rw [hb] at hbj
      obtain rfl:=Option.some.inj hbj
      subst hb35
      cases h'
     simp +contextual -implicitDefEqProofs only [K17,SS,rA,rS,rL,rE,reduceCtorEq,h']
     refine WC.leave ?_
     simp +contextual -implicitDefEqProofs only [K17,SS,rA,rS,rL,rE,reduceCtorEq]
     exact WC.next (m':=s.length - j) (by omega) ⟨rfl,j,L,_,_,_,_,_,h2,by omega,hk,rfl,⟨c+1,by omega,skip_end j h1 h2 hS⟩,rfl⟩
   · rw [h',if_neg (by decide)] at hS
     simp +contextual -implicitDefEqProofs only [K17,SS,rA,rS,rL,rE,reduceCtorEq,h',l5 (show j+1 < 2 ^ 63 by omega)]
     exact WC.next (m':=s.length - (j+1)) (by omega) ⟨rfl,j+1,by omega,hj,rfl,hS,rfl⟩
 · rw [h,if_neg (by decide)] at hX
   simp +contextual -implicitDefEqProofs only [K17,SS,rA,rS,rL,rE,reduceCtorEq]
   refine WC.call (d1W s i hs hil _) rfl rfl ?_
   rintro _ _ ⟨rfl,k,t,n,at',en,bad,e,rfl,hg,hO⟩
   simp +contextual -implicitDefEqProofs only [K17,SS,rA,rS,rL,rE,reduceCtorEq]
   refine WC.br (fun he=>?_) (fun he=>?_)
   · simp +contextual -implicitDefEqProofs only [K17,SS,rA,rS,rL,rE,reduceCtorEq]
     refine WC.leaveR ?_
     simp +contextual -implicitDefEqProofs only [K17,SS,rA,rS,rL,rE,reduceCtorEq]
     have he':e≠0:=by intro h0; subst h0; cases he
     rw [if_neg he'] at hO
     rw [hO] at hX
     refine WC.ret ⟨_,_,rfl,rfl,[],_,_,rfl,fun h=>absurd h he',?_⟩
     rw [if_neg he']
     exact hX
   · have he:e=0:=by rw [eqI_eq] at he; simpa using he
     obtain ⟨hk0,h1,h2⟩:=hg he
     rw [if_pos he] at hO
     rw [hO] at hX
     have hX':I9 s=L6 (2002 - (c+1)) en (s.drop en) (L++[⟨k,t,n,(i:Int)⟩]):=by
      rw [hX]
      show L6 _ (i+((s.drop i).length - (s.drop en).length)) _ _=_
      rw [List.length_drop,List.length_drop]
      congr 1
      omega
     simp +contextual -implicitDefEqProofs only [K17,SS,rA,rS,rL,rE,reduceCtorEq,b2N,List.length_map,show (L.length+1)*40≤2 ^ 47 by omega]
     exact WC.next (m':=s.length - en) (by omega) ⟨rfl,en,L++[⟨k,t,n,i⟩],_,_,_,_,_,h2,by simp only [List.length_append,List.length_cons,List.length_nil]; omega,fun t' ht=>by
      rcases List.mem_append.1 ht with h|h
      · exact hk _ h
      · simp at h; subst h; exact hk0,rfl,⟨c+1,by omega,hX'⟩,by simp only [List.map_append]; rfl⟩
end Go.Cb.CodeA
set_option maxRecDepth 20000
set_option linter.unusedSimpArgs false
set_option linter.unusedVariables false
namespace Go.Cb.CodeA
open Go Go.Cb
open Nat renaming reduceAdd → rA,reduceSub → rS,reduceLeDiff → rL,reduceEqDiff → rE
attribute [local congr] i8 k4 k6 k7 j4 j3 l8 l7 V.runR_congr
variable {B:St}

/-- the reader's object -/
def rdC (L:List Tok) (i:Nat) (d bad e:Int):List AV:=[.list false (L.map Tok.row),.int .i64 i,.int .i64 d,.int .i64 bad,.int .i64 e]
/-- what stood there stands there still -/
def Gr (st st':St):Prop:=∀ (o:Nat) (x:Obj),st[o]?=some x→st'[o]?=some x
structure Rd (B:St) (L:List Tok) (o:Nat) (st:St) (i:Nat) (d e:Int):Prop where
 hL:b6M L∧L.length≤2001
 hi:i < L.length
 sh:∃ bad,st=B++[.cells (rdC L i d bad e)]
 oB:o=B.length
theorem Rd.ob {B:St} {L:List Tok} {o:Nat} {st:St} {i:Nat} {d e:Int} (h:Rd B L o st i d e):∃ bad,st[o]?=some (.cells (rdC L i d bad e)):=by
 obtain ⟨bad,e1⟩:=h.sh
 exact ⟨bad,by rw [e1,h.oB,List.getElem?_append_right (Nat.le_refl _),Nat.sub_self]; rfl⟩
theorem m9 {st:St} {o:Nat} {x y:Obj} (h:st[o]?=some x):(st.set o y)[o]?=some y:=by
 rw [List.getElem?_set_self]
 exact (List.getElem?_eq_some_iff.1 h).1
theorem Z8 {L:List Tok} {i:Nat} (h:i < L.length):(L.map Tok.row)[i]?=some (Tok.row L[i]):=by
 rw [List.getElem?_map,List.getElem?_eq_getElem h]; rfl
/-- behind a token that isn't the end there is one -/
theorem H0 {L:List Tok} (hL:b6M L) {i:Nat} (hi:i < L.length) (hk:(L[i]).k≠0):i+1 < L.length:=by
 obtain ⟨L',a,rfl,h⟩:=hL
 rw [List.length_append,List.length_cons,List.length_nil] at hi ⊢
 by_cases e:i=L'.length
 · subst e
   simp at hk
 · omega
theorem Rd.put {L:List Tok} {o:Nat} {st:St} {i:Nat} {d e:Int} (h:Rd B L o st i d e) {j:Nat} {d' bad' e':Int} (hj:j < L.length):Rd B L o (st.set o (.cells (rdC L j d' bad' e'))) j d' e':=by
 obtain ⟨bad,e1⟩:=h.sh
 refine ⟨h.hL,hj,⟨bad',?_⟩,h.oB⟩
 rw [e1,h.oB,List.set_append_right _ _ (Nat.le_refl _),Nat.sub_self]
 rfl

/-- what stands at a place -/
def a1E (L:List Tok) (i:Nat) (s:List Nat):Bool:=match L[i]? with
 | some t=>eqI t.k 1 && eqN t.t s
 | none=>false
def Z6 (L:List Tok) (i:Nat) (s:List Nat):Bool:=match L[i]? with
 | some t=>eqI t.k 4 && eqN t.t s
 | none=>false
def s8 (L:List Tok) (i:Nat) (s:List Nat):Bool:=Z6 L i s || a1E L i s
def a0j (L:List Tok) (i:Nat) (k:Int):Bool:=match L[i]? with
 | some t=>eqI t.k k
 | none=>false
def t7 (L:List Tok) (i:Nat):Option (List Nat×Nat):=match L[i]? with
 | some t=>if eqI t.k 1 then some (t.t,i+1) else none
 | none=>none
def K2 (L:List Tok) (s:List Nat) (i:Nat):Option Nat:=if s8 L i s then some (i+1) else none
theorem a5J {L:List Tok} {o:Nat} {st:St} {i:Nat} {d e:Int} (h:Rd B L o st i d e) (s:List Nat):EvQ tbl 24 [.ptr o 0,.str s] st (fun a st'=>st'=st∧∃ b,a=.bool b∧(b=true→e=0∧(L[i]'h.hi).k=4)∧(e=0→b=Z6 L i s)):=by
 obtain ⟨bad,ho⟩:=h.ob
 have ht:=Z8 h.hi
 refine EvQ.body (fn:=a24) rfl rfl rfl ?_
 simp (config := { maxSteps := 1000000 }) +contextual -implicitDefEqProofs only [K24,SS,rA,rS,rL,rE,reduceCtorEq,ho,ht,rdC,Tok.row]
 refine WC.ret ⟨_,_,rfl,rfl,_,rfl,fun hb=>?_,fun he=>?_⟩
 · simp [eqI_eq] at hb
   exact hb.1
 · subst he
   rw [Z6,List.getElem?_eq_getElem h.hi]
   simp [eqI_eq]
theorem a6G {L:List Tok} {o:Nat} {st:St} {i:Nat} {d e:Int} (h:Rd B L o st i d e) (s:List Nat):EvQ tbl 19 [.ptr o 0,.str s] st (fun a st'=>st'=st∧∃ b,a=.bool b∧(b=true→e=0∧(L[i]'h.hi).k=1)∧(e=0→b=a1E L i s)):=by
 obtain ⟨bad,ho⟩:=h.ob
 have ht:=Z8 h.hi
 refine EvQ.body (fn:=a19) rfl rfl rfl ?_
 simp (config := { maxSteps := 1000000 }) +contextual -implicitDefEqProofs only [K19,SS,rA,rS,rL,rE,reduceCtorEq,ho,ht,rdC,Tok.row]
 refine WC.ret ⟨_,_,rfl,rfl,_,rfl,fun hb=>?_,fun he=>?_⟩
 · simp [eqI_eq] at hb
   exact hb.1
 · subst he
   rw [a1E,List.getElem?_eq_getElem h.hi]
   simp [eqI_eq]
theorem a5b {L:List Tok} {o:Nat} {st:St} {i:Nat} {d e:Int} (h:Rd B L o st i d e) (k:Int):EvQ tbl 18 [.ptr o 0,.int .u8 k] st (fun a st'=>st'=st∧∃ b,a=.bool b∧(b=true ↔ e=0∧(L[i]'h.hi).k=k)):=by
 obtain ⟨bad,ho⟩:=h.ob
 have ht:=Z8 h.hi
 refine EvQ.body (fn:=a18) rfl rfl rfl ?_
 simp +contextual -implicitDefEqProofs only [K18,SS,rA,rS,rL,rE,reduceCtorEq,ho,ht,rdC,Tok.row]
 refine WC.ret ⟨_,_,rfl,rfl,_,rfl,?_⟩
 simp [eqI_eq]
theorem a0b {L:List Tok} {o:Nat} {st:St} {i:Nat} {d e:Int} (h:Rd B L o st i d e) (k:Int) (hk:k≠0):EvQ tbl 20 [.ptr o 0,.int .i64 k] st (fun a st'=>∃ e',Rd B L o st' i d e'∧e'≠0):=by
 obtain ⟨bad,ho⟩:=h.ob
 have ht:=Z8 h.hi
 refine EvQ.body (fn:=a20) rfl rfl rfl ?_
 simp +contextual -implicitDefEqProofs only [K20,SS,rA,rS,rL,rE,reduceCtorEq,ho,ht,rdC,Tok.row]
 have hs:∀ y:Obj,(st.set o y)[o]?=some y:=fun y=>m9 ho
 refine WC.br (fun he=>?_) (fun he=>?_)
 · simp +contextual -implicitDefEqProofs only [K20,SS,rA,rS,rL,rE,reduceCtorEq,ho,ht,rdC,Tok.row,hs,List.set_set]
   exact WC.ret ⟨_,_,rfl,k,h.put h.hi,hk⟩
 · simp +contextual -implicitDefEqProofs only [K20,SS,rA,rS,rL,rE,reduceCtorEq]
   exact WC.ret ⟨_,_,rfl,e,h,by rw [eqI_eq] at he; simpa using he⟩
/-- one step on, and what was read is what a plain reader tells -/
def a1P {α:Type} (B:St) (L:List Tok) (o i:Nat) (d e:Int) (p:Option (α×Nat)) (x:α) (st':St):Prop:=∃ i' e',Rd B L o st' i' d e'∧i≤i'∧(e'=0→e=0∧i < i')∧(e=0→p=if e'=0 then some (x,i') else none)
theorem z9 {L:List Tok} {o:Nat} {st:St} {i:Nat} {d e:Int} (h:Rd B L o st i d e) (s:List Nat):EvQ tbl 25 [.ptr o 0,.str s] st (fun a st'=>(a=.bool false∧st'=st∧(e=0→s8 L i s=false))∨(a=.bool true∧e=0∧Rd B L o st' (i+1) d 0∧s8 L i s=true)):=by
 obtain ⟨bad,ho⟩:=h.ob
 have hs:∀ y:Obj,(st.set o y)[o]?=some y:=fun y=>m9 ho
 have hl:=h.hL.2
 have hi:=h.hi
 have i1:=l5 (show i+1 < 2 ^ 63 by omega)
 refine EvQ.body (fn:=a25) rfl rfl rfl ?_
 simp +contextual -implicitDefEqProofs only [K25,SS,rA,rS,rL,rE,reduceCtorEq]
 refine WC.call (a5J h s) rfl rfl ?_
 rintro _ _ ⟨rfl,b,rfl,hb,hx⟩
 simp +contextual -implicitDefEqProofs only [K25,SS,rA,rS,rL,rE,reduceCtorEq]
 refine WC.g2 (fun hf=>?_) (fun hf=>?_)
 · subst hf
   simp +contextual -implicitDefEqProofs only [K25,SS,rA,rS,rL,rE,reduceCtorEq]
   refine WC.call (a6G h s) rfl rfl ?_
   rintro _ _ ⟨rfl,b,rfl,hb,hy⟩
   simp +contextual -implicitDefEqProofs only [K25,SS,rA,rS,rL,rE,reduceCtorEq]
   refine WC.br (fun hf=>?_) (fun hf=>?_)
   · obtain ⟨h1,h2⟩:=hb hf
     subst h1
     have hf:b=true:=hf
     simp +contextual -implicitDefEqProofs only [K25,SS,rA,rS,rL,rE,reduceCtorEq,ho,rdC,hs,i1]
     exact WC.ret ⟨_,_,rfl,Or.inr ⟨rfl,h.put (H0 h.hL.1 h.hi (by rw [h2]; decide)),by rw [s8,← hy rfl,hf,Bool.or_true]⟩⟩
   · have hf:b=false:=hf
     simp +contextual -implicitDefEqProofs only [K25,SS,rA,rS,rL,rE,reduceCtorEq]
     exact WC.ret ⟨_,_,rfl,Or.inl ⟨rfl,rfl,fun he=>by rw [s8,← hx he,← hy he,hf]; rfl⟩⟩
 · subst hf
   obtain ⟨h1,h2⟩:=hb rfl
   subst h1
   simp +contextual -implicitDefEqProofs only [K25,SS,rA,rS,rL,rE,reduceCtorEq,ho,rdC,hs,i1]
   exact WC.ret ⟨_,_,rfl,Or.inr ⟨rfl,h.put (H0 h.hL.1 h.hi (by rw [h2]; decide)),by rw [s8,← hx rfl]; rfl⟩⟩
theorem a0i {L:List Tok} {o:Nat} {st:St} {i:Nat} {d e:Int} (h:Rd B L o st i d e) (s:List Nat):EvQ tbl 22 [.ptr o 0,.str s] st (fun a st'=>∃ i' e',Rd B L o st' i' d e'∧i≤i'∧(e'=0→e=0∧i < i')∧(e=0→K2 L s i=if e'=0 then some i' else none)):=by
 obtain ⟨bad,ho⟩:=h.ob
 refine EvQ.body (fn:=a22) rfl rfl rfl ?_
 simp +contextual -implicitDefEqProofs only [K22,SS,rA,rS,rL,rE,reduceCtorEq,ho,rdC]
 refine WC.g2 (fun hf=>?_) (fun hf=>?_)
 · have he0:e=0:=by rw [eqI_eq] at hf; simpa using hf
   simp +contextual -implicitDefEqProofs only [K22,SS,rA,rS,rL,rE,reduceCtorEq,hf]
   refine WC.call (z9 h s) rfl rfl ?_
   rintro a st' (⟨rfl,rfl,hx⟩|⟨rfl,_,hr,hx⟩)
   · simp +contextual -implicitDefEqProofs only [K22,SS,rA,rS,rL,rE,reduceCtorEq,hf]
     refine WC.call (a0b h 4 (by decide)) rfl rfl ?_
     rintro a st' ⟨e',hr,he'⟩
     simp +contextual -implicitDefEqProofs only [K22,SS,rA,rS,rL,rE,reduceCtorEq,hf]
     exact WC.ret ⟨_,_,rfl,i,e',hr,Nat.le_refl _,(fun h=>absurd h he'),fun _=>by rw [K2,hx he0,if_neg he']; rfl⟩
   · simp +contextual -implicitDefEqProofs only [K22,SS,rA,rS,rL,rE,reduceCtorEq,hf]
     exact WC.ret ⟨_,_,rfl,i+1,0,hr,by omega,(fun _=>⟨he0,by omega⟩),fun _=>by rw [K2,hx]; rfl⟩
 · have he:e≠0:=by rw [eqI_eq] at hf; simpa using hf
   simp +contextual -implicitDefEqProofs only [K22,SS,rA,rS,rL,rE,reduceCtorEq,show eqI e 0=false from hf]
   exact WC.ret ⟨_,_,rfl,i,e,h,Nat.le_refl _,(fun h=>absurd h he),fun h0=>absurd h0 he⟩
theorem H8 {L:List Tok} {o:Nat} {st:St} {i:Nat} {d e:Int} (h:Rd B L o st i d e):EvQ tbl 21 [.ptr o 0] st (fun a st'=>∃ t,a=.str t∧a1P B L o i d e (t7 L i) t st'):=by
 obtain ⟨bad,ho⟩:=h.ob
 have hs:∀ y:Obj,(st.set o y)[o]?=some y:=fun y=>m9 ho
 have hl:=h.hL.2
 have hi:=h.hi
 have ht:=Z8 h.hi
 have i1:=l5 (show i+1 < 2 ^ 63 by omega)
 have i2:l9 .i64 (P6 ((i+1:Nat):Int) 1)=(i:Int):=by rw [subI_eq,J0 (by omega) (by omega)]; omega
 have hN:t7 L i=if eqI (L[i]).k 1 then some ((L[i]).t,i+1) else none:=by rw [t7,List.getElem?_eq_getElem h.hi]
 refine EvQ.body (fn:=a21) rfl rfl rfl ?_
 simp +contextual -implicitDefEqProofs only [K21,SS,rA,rS,rL,rE,reduceCtorEq]
 refine WC.call (a5b h 1) rfl rfl ?_
 rintro _ _ ⟨rfl,b,rfl,hb⟩
 simp +contextual -implicitDefEqProofs only [K21,SS,rA,rS,rL,rE,reduceCtorEq]
 refine WC.br (fun hf=>?_) (fun hf=>?_)
 · have hf:b=false:=by simpa using hf
   simp +contextual -implicitDefEqProofs only [K21,SS,rA,rS,rL,rE,reduceCtorEq]
   refine WC.call (a0b h 4 (by decide)) rfl rfl ?_
   rintro a st' ⟨e',hr,he'⟩
   simp +contextual -implicitDefEqProofs only [K21,SS,rA,rS,rL,rE,reduceCtorEq]
   refine WC.ret ⟨_,_,rfl,_,rfl,i,e',hr,Nat.le_refl _,(fun h=>absurd h he'),fun he=>?_⟩
   rw [hN,if_neg he',if_neg]
   intro hk
   rw [eqI_eq] at hk
   rw [hb.2 ⟨he,by simpa using hk⟩] at hf
   cases hf
 · obtain ⟨he,hk⟩:=hb.1 (by simpa using hf)
   simp +contextual -implicitDefEqProofs only [K21,SS,rA,rS,rL,rE,reduceCtorEq,ho,rdC,hs,i1,i2,ht,Tok.row]
   subst he
   exact WC.ret ⟨_,_,rfl,_,rfl,i+1,0,h.put (H0 h.hL.1 h.hi (by rw [hk]; decide)),by omega,(fun _=>⟨rfl,by omega⟩),fun _=>by rw [hN,hk]; rfl⟩
theorem a08 {L:List Tok} {o:Nat} {st:St} {i:Nat} {d e:Int} (h:Rd B L o st i d e) (hd:0≤d) (hd2:d≤24):EvQ tbl 39 [.ptr o 0] st (fun a st'=>∃ e',a=.bool (eqI e' 0)∧Rd B L o st' i (d+1) e'∧(e'=0 ↔ e=0∧d+1≤24)):=by
 obtain ⟨bad,ho⟩:=h.ob
 have hs:∀ y:Obj,(st.set o y)[o]?=some y:=fun y=>m9 ho
 have d1:l9 .i64 (P4 d 1)=d+1:=by rw [addI_eq,J0 (by omega) (by omega)]
 refine EvQ.body (fn:=a39) rfl rfl rfl ?_
 simp +contextual -implicitDefEqProofs only [K39,SS,rA,rS,rL,rE,reduceCtorEq,ho,rdC,hs,d1]
 refine WC.br (fun hf=>?_) (fun hf=>?_)
 · simp +contextual -implicitDefEqProofs only [K39,SS,rA,rS,rL,rE,reduceCtorEq]
   rw [ltI_eq] at hf
   have hf:24 < d+1:=by simpa using hf
   refine WC.call (a0b (h.put (d':=d+1) (bad':=bad) (e':=e) h.hi) 5 (by decide)) rfl rfl ?_
   rintro a st' ⟨e',hr,he'⟩
   obtain ⟨bad',ho'⟩:=hr.ob
   simp +contextual -implicitDefEqProofs only [K39,SS,rA,rS,rL,rE,reduceCtorEq,ho',rdC]
   exact WC.ret ⟨_,_,rfl,e',rfl,hr,fun h=>absurd h he',fun h=>by omega⟩
 · simp +contextual -implicitDefEqProofs only [K39,SS,rA,rS,rL,rE,reduceCtorEq,ho,rdC,hs,d1]
   rw [ltI_eq] at hf
   have hf:¬ 24 < d+1:=by simpa using hf
   exact WC.ret ⟨_,_,rfl,e,rfl,h.put h.hi,fun h=>⟨h,by omega⟩,fun h=>h.1⟩

/-- the rounds of a loop of a plain reader -/
def t8 {α:Type} (step:Nat→α→Option (Bool×Nat×α)):Nat→Nat→α→Option (α×Nat)
 | 0,_,_=>none
 | f+1,i,a=>match step i a with
  | none=>none
  | some (true,j,b)=>some (b,j)
  | some (false,j,b)=>t8 step f j b
/-- where such a loop stands -/
def LoopAt {α:Type} (step:Nat→α→Option (Bool×Nat×α)) (w:Option (α×Nat)) (i:Nat) (a:α) (e:Int):Prop:=if e=0 then ∃ c,c≤i∧w=t8 step (2002 - c) i a else w=none
theorem LoopAt.start {α:Type} (step:Nat→α→Option (Bool×Nat×α)) (i:Nat) (a:α) {e:Int} (w:Option (α×Nat)) (h:w=if e=0 then t8 step 2002 i a else none):LoopAt step w i a e:=by
 unfold LoopAt
 split
 · rename_i h0
   rw [if_pos h0] at h
   exact ⟨0,Nat.zero_le _,h⟩
 · rename_i h0
   rw [if_neg h0] at h
   exact h
theorem LoopAt.unroll {α:Type} {step:Nat→α→Option (Bool×Nat×α)} {w:Option (α×Nat)} {i:Nat} {a:α} (hi:i≤2001) (h:LoopAt step w i a 0):∃ c,c≤i∧w=match step i a with
 | none=>none
 | some (true,j,b)=>some (b,j)
 | some (false,j,b)=>t8 step (2002 - (c+1)) j b:=by
 obtain ⟨c,hc,e⟩:=h
 refine ⟨c,hc,?_⟩
 rw [e,show 2002 - c=(2002 - (c+1))+1 by omega,t8]
theorem LoopAt.exit {α:Type} {step:Nat→α→Option (Bool×Nat×α)} {w:Option (α×Nat)} {i:Nat} {a:α} (hi:i≤2001) (h:LoopAt step w i a 0) {j:Nat} {b:α} (hs:step i a=some (true,j,b)):w=some (b,j):=by
 obtain ⟨c,_,e⟩:=h.unroll hi
 rw [e,hs]
theorem LoopAt.next {α:Type} {step:Nat→α→Option (Bool×Nat×α)} {w:Option (α×Nat)} {i:Nat} {a:α} (hi:i≤2001) (h:LoopAt step w i a 0) {j:Nat} {b:α} {e:Int} (hj:e=0→i < j) (hs:step i a=if e=0 then some (false,j,b) else none):LoopAt step w j b e:=by
 obtain ⟨c,hc,e1⟩:=h.unroll hi
 unfold LoopAt
 split
 · rename_i h0
   rw [if_pos h0] at hs
   rw [hs] at e1
   exact ⟨c+1,by have:=hj h0; omega,e1⟩
 · rename_i h0
   rw [if_neg h0] at hs
   rw [hs] at e1
   exact e1
theorem LoopAt.bad {α:Type} {step:Nat→α→Option (Bool×Nat×α)} {w:Option (α×Nat)} {i:Nat} {a:α} {e:Int} (h:LoopAt step w i a e) (he:e≠0):w=none:=by
 unfold LoopAt at h
 rwa [if_neg he] at h

/-- what a loop over the reader counts down -/
def rem (L:List Tok) (i:Nat) (e:Int):Nat:=if e=0 then L.length - i else 0
theorem b1v (L:List Tok) (i:Nat):rem L i 0=L.length - i:=if_pos rfl
theorem X2 {L:List Tok} {i i':Nat} {e e':Int} (he:e=0) (hi:i < L.length) (h:e'=0→i < i'):rem L i' e' < rem L i e:=by
 subst he
 unfold rem
 rw [if_pos rfl]
 split
 · rename_i h0; have:=h h0; omega
 · omega
theorem a0y (L:List Tok) (i:Nat) (e:Int):rem L i e≤L.length:=by unfold rem; split <;> omega

/-- what is asked of a round of a loop -/
abbrev LQ {β:Type} (I:Nat→List AV→St→Prop) (mm:Nat) (K:Nat→Out→Option β) (Q:β→Prop):Out→Prop:=fun o=>(∃ m' fr' st',o=(Ex.normal,fr',st')∧m' < mm∧I m' fr' st')∨(o.1≠Ex.normal∧WC (fun n=>K n o) Q)
end Go.Cb.CodeA
set_option maxRecDepth 20000
set_option linter.unusedSimpArgs false
set_option linter.unusedVariables false
namespace Go.Cb.CodeA
open Go Go.Cb
open Nat renaming reduceAdd → rA,reduceSub → rS,reduceLeDiff → rL,reduceEqDiff → rE
attribute [local congr] i8 k4 k6 k7 j4 j3 l8 l7 V.runR_congr
variable {B:St}

/-- a type as it is named -/
inductive TRef where
 | base (n:List Nat) (b:Bool)
 | wrap (t:TRef) (b:Bool)
def TRef.row:TRef→List AV
 | .base n b=>[.str n,.list false [],.bool b]
 | .wrap t b=>[.str [],.list false [t.row],.bool b]
theorem TRef.row_cells (t:TRef):∃ n xs b,t.row=[.str n,.list false xs,.bool b]:=by cases t <;> exact ⟨_,_,_,rfl⟩
theorem a5G {d:Int} (h1:0≤d) (h2:d≤100):l9 .i64 (P6 (d+1) 1)=d:=by rw [subI_eq,J0 (by omega) (by omega)]; omega

/-- a type as it is read; the number: how many more may be open -/
def P0 (L:List Tok):Nat→Nat→Option (TRef×Nat)
 | 0,_=>none
 | f+1,i=>if s8 L i [91] then (match P0 L f (i+1) with
  | none=>none
  | some (u,i2)=>match K2 L [93] i2 with
   | none=>none
   | some i3=>if s8 L i3 [33] then some (.wrap u true,i3+1) else some (.wrap u false,i3))
  else (match t7 L i with
   | none=>none
   | some (n,i2)=>if s8 L i2 [33] then some (.base n true,i2+1) else some (.base n false,i2))

theorem c8Q (L:List Tok) (o:Nat):∀ (f:Nat) {st:St} {i:Nat} {d e:Int},Rd B L o st i d e→0≤d→d+f=24 →
 EvQ tbl 41 [.ptr o 0] st (fun a st'=>∃ t:TRef,a=.agg t.row∧a1P B L o i d e (P0 L f i) t st'):=by
 intro f
 induction f with
 | zero =>
  intro st i d e h hd hd2
  obtain rfl:d=24:=by omega
  refine EvQ.body (fn:=a41) rfl rfl rfl ?_
  simp +contextual -implicitDefEqProofs only [K41,SS,rA,rS,rL,rE,reduceCtorEq]
  refine WC.call (a08 h hd (by omega)) rfl rfl ?_
  rintro _ st1 ⟨e1,rfl,h1,he1⟩
  have he:e1≠0:=fun h0=>by have:=he1.1 h0; omega
  have hf:eqI e1 0=false:=by rw [eqI_eq]; simpa using he
  obtain ⟨bad,ho⟩:=h1.ob
  have hs:∀ y:Obj,(st1.set o y)[o]?=some y:=fun y=>m9 ho
  simp +contextual -implicitDefEqProofs only [K41,SS,rA,rS,rL,rE,reduceCtorEq,hf,ho,rdC,hs,a5G hd (show (24:Int)≤100 by omega)]
  exact WC.ret ⟨_,_,rfl,.base [] false,rfl,i,e1,h1.put h1.hi,Nat.le_refl _,(fun h=>absurd h he),fun _=>by rw [if_neg he,P0]⟩
 | succ f ih =>
  intro st i d e h hd hd2
  have hd2':d≤23:=by omega
  -- the end: one thing less is open
  have fin:∀ (t:TRef) (tn:List Nat) (w:Bool) (xs:List (List AV)) (tb:Bool) (v3:AV) (st1:St) (i1:Nat) (e1:Int),t.row=[.str tn,.list false xs,.bool tb]→Rd B L o st1 i1 (d+1) e1→i≤i1→(e1=0→e=0∧i < i1)→(e=0→P0 L (f+1) i=if e1=0 then some (t,i1) else none) →
   WC (fun n=>d8 (e8 tbl n) n (a41s22.seq (a41s24.seq ACode.ret)) [.ptr o 0,.box [.str [],.list true [],.bool false],.box [.str tn,.list w xs,.bool tb],v3] st1)
    (fun o_1=>∃ r st',finK [ResK.bx 1 true 3] (some o_1)=some (r,st')∧∃ t:TRef,r=.agg t.row∧a1P B L o i d e (P0 L (f+1) i) t st'):=by
   intro t tn w xs tb v3 st1 i1 e1 etr h1 hi1 he1 hX
   obtain ⟨bad,ho⟩:=h1.ob
   have hs:∀ y:Obj,(st1.set o y)[o]?=some y:=fun y=>m9 ho
   simp +contextual -implicitDefEqProofs only [K41,SS,rA,rS,rL,rE,reduceCtorEq,ho,rdC,hs,a5G hd (show d≤100 by omega)]
   refine WC.ret ⟨_,_,rfl,t,?_,i1,e1,h1.put h1.hi,hi1,he1,hX⟩
   rw [etr]
   rfl
  refine EvQ.body (fn:=a41) rfl rfl rfl ?_
  simp +contextual -implicitDefEqProofs only [K41,SS,rA,rS,rL,rE,reduceCtorEq]
  refine WC.call (a08 h hd (by omega)) rfl rfl ?_
  rintro _ st1 ⟨e1,rfl,h1,he1⟩
  simp +contextual -implicitDefEqProofs only [K41,SS,rA,rS,rL,rE,reduceCtorEq]
  refine WC.br (fun hf=>?_) (fun hf=>?_)
  rotate_left
  · have he:e1≠0:=by rw [eqI_eq] at hf; simpa using hf
    have:=fin (.base [] false) [] true [] false .undef st1 i e1 rfl h1 (Nat.le_refl _) (fun h=>absurd h he) (fun h0=>absurd (he1.2 ⟨h0,by omega⟩) he)
    simp +contextual -implicitDefEqProofs only [K41,SS,rA,rS,rL,rE,reduceCtorEq,TRef.row] at this ⊢
    exact this
  · have he:e1=0:=by rw [eqI_eq] at hf; simpa using hf
    subst he
    obtain ⟨rfl,hd3⟩:=he1.1 rfl
    simp +contextual -implicitDefEqProofs only [K41,SS,rA,rS,rL,rE,reduceCtorEq]
    refine WC.call (z9 h1 _) rfl rfl ?_
    rintro _ st2 (⟨rfl,rfl,hE⟩|⟨rfl,_,h2,hE⟩)
    · have hE:=hE rfl
      simp +contextual -implicitDefEqProofs only [K41,SS,rA,rS,rL,rE,reduceCtorEq]
      refine WC.call (H8 h1) rfl rfl ?_
      rintro _ st3 ⟨t,rfl,i3,e3,h3,h3a,h3b,hX⟩
      have hX:=hX rfl
      simp +contextual -implicitDefEqProofs only [K41,SS,rA,rS,rL,rE,reduceCtorEq]
      refine WC.call (z9 h3 _) rfl rfl ?_
      rintro _ st4 (⟨rfl,rfl,hE2⟩|⟨rfl,rfl,h4,hE2⟩)
      · have:=fin (.base t false) t true [] false .undef _ i3 e3 rfl h3 h3a h3b (fun _=>by
         rw [P0,hE,hX]
         by_cases h0:e3=0
         · rw [if_pos h0,if_pos h0]; dsimp only; rw [hE2 h0]; rfl
         · rw [if_neg h0,if_neg h0]; rfl)
        simp +contextual -implicitDefEqProofs only [K41,SS,rA,rS,rL,rE,reduceCtorEq] at this ⊢
        exact this
      · have:=fin (.base t true) t true [] true .undef _ (i3+1) 0 rfl h4 (by omega) (fun _=>⟨rfl,by omega⟩) (fun _=>by
         rw [P0,hE,hX]
         rw [if_pos rfl,if_pos rfl]; dsimp only; rw [hE2]; rfl)
        simp +contextual -implicitDefEqProofs only [K41,SS,rA,rS,rL,rE,reduceCtorEq] at this ⊢
        exact this
    · simp +contextual -implicitDefEqProofs only [K41,SS,rA,rS,rL,rE,reduceCtorEq]
      refine WC.call (ih h2 (by omega) (by omega)) rfl rfl ?_
      rintro _ st3 ⟨t,rfl,i3,e3,h3,h3a,h3b,hX⟩
      have hX:=hX rfl
      obtain ⟨tn,txs,tb,etr⟩:=t.row_cells
      simp +contextual -implicitDefEqProofs only [K41,SS,rA,rS,rL,rE,reduceCtorEq,etr]
      refine WC.call (a0i h3 _) rfl rfl ?_
      rintro _ st4 ⟨i4,e4,h4,h4a,h4b,hM⟩
      simp +contextual -implicitDefEqProofs only [K41,SS,rA,rS,rL,rE,reduceCtorEq]
      refine WC.call (z9 h4 _) rfl rfl ?_
      have hT:P0 L (f+1) i=if e4=0 then (if s8 L i4 [33] then some (.wrap t true,i4+1) else some (.wrap t false,i4)) else none:=by
       rw [P0,hE,if_pos rfl,hX]
       by_cases h0:e3=0
       · rw [if_pos h0]; dsimp only; rw [hM h0]
         by_cases h1:e4=0
         · rw [if_pos h1,if_pos h1]
         · rw [if_neg h1,if_neg h1]
       · rw [if_neg h0,if_neg (fun h=>h0 (h4b h).1)]
      rintro _ st5 (⟨rfl,rfl,hE2⟩|⟨rfl,rfl,h5,hE2⟩)
      · have:=fin (.wrap t false) [] true [[.str tn,.list false txs,.bool tb]] false (.box [.str tn,.list false txs,.bool tb]) _ i4 e4 (by rw [TRef.row,etr]) h4 (by omega) (fun h=>⟨rfl,by omega⟩) (fun _=>by
         rw [hT]
         by_cases h0:e4=0
         · rw [if_pos h0,if_pos h0,hE2 h0]; rfl
         · rw [if_neg h0,if_neg h0])
        simp +contextual -implicitDefEqProofs only [K41,SS,rA,rS,rL,rE,reduceCtorEq] at this ⊢
        exact this
      · have:=fin (.wrap t true) [] true [[.str tn,.list false txs,.bool tb]] true (.box [.str tn,.list false txs,.bool tb]) _ (i4+1) 0 (by rw [TRef.row,etr]) h5 (by omega) (fun _=>⟨rfl,by omega⟩) (fun _=>by
         rw [hT,if_pos rfl,if_pos rfl,hE2,if_pos rfl])
        simp +contextual -implicitDefEqProofs only [K41,SS,rA,rS,rL,rE,reduceCtorEq] at this ⊢
        exact this
end Go.Cb.CodeA
set_option maxRecDepth 20000
set_option linter.unusedSimpArgs false
set_option linter.unusedVariables false
namespace Go.Cb.CodeA
open Go Go.Cb
open Nat renaming reduceAdd → rA,reduceSub → rS,reduceLeDiff → rL,reduceEqDiff → rE
attribute [local congr] i8 k4 k6 k7 j4 j3 l8 l7 V.runR_congr
variable {B:St}

/-- a value -/
inductive Val where
 | mk (k n:Int) (s:List Nat) (ks:List (List Nat)) (ls:List Val)
def b9 (x:List Nat):List AV:=[.str x]
mutual
def Val.row:Val→List AV
 | .mk k n s ks ls=>[.int .u8 k,.int .i64 n,.str s,.list false (ks.map b9),.list false (Val.rows ls)]
def Val.rows:List Val→List (List AV)
 | []=>[]
 | v::vs=>v.row::Val.rows vs
end
theorem Val.rows_map:∀ vs:List Val,Val.rows vs=vs.map Val.row
 | []=>by simp [Val.rows]
 | v::vs=>by simp [Val.rows,Val.rows_map vs]
/-- a value whose objects have as many names as values -/
inductive Val.OK:Val→Prop
 | mk (k n:Int) (s:List Nat) (ks:List (List Nat)) (ls:List Val) (h6:k=6→ks.length=ls.length) (hk:ks.length≤3000) (hl:ls.length≤3000) (h:∀ v∈ls,Val.OK v):Val.OK (.mk k n s ks ls)
theorem Val.row_eq (k n:Int) (s:List Nat) (ks:List (List Nat)) (ls:List Val):(Val.mk k n s ks ls).row=[.int .u8 k,.int .i64 n,.str s,.list false (ks.map b9),.list false (ls.map Val.row)]:=by
 rw [Val.row,Val.rows_map]
theorem Val.row_cells (v:Val):∃ k n s xs ys,v.row=[.int .u8 k,.int .i64 n,.str s,.list false xs,.list false ys]:=by
 cases v; exact ⟨_,_,_,_,_,Val.row_eq _ _ _ _ _⟩
theorem Val.simple (k n:Int) (s:List Nat) (h:k≠6):(Val.mk k n s [] []).OK∧(Val.mk k n s [] []).row=[.int .u8 k,.int .i64 n,.str s,.list false [],.list false []] :=
 ⟨.mk _ _ _ _ _ (fun e=>absurd e h) (by simp) (by simp) (by simp),by rw [Val.row_eq]; rfl⟩

def a1r (L:List Tok) (vP:Nat→Option (Val×Nat)) (i:Nat) (l:List Val):Option (Bool×Nat×List Val):=if s8 L i [93] then some (true,i+1,l) else (match vP i with
 | none=>none
 | some (v,j)=>some (false,j,l++[v]))
def a1U (L:List Tok) (vP:Nat→Option (Val×Nat)) (i:Nat) (x:List (List Nat)×List Val):Option (Bool×Nat×(List (List Nat)×List Val)):=if s8 L i [125] then some (true,i+1,x) else (match t7 L i with
 | none=>none
 | some (n,i2)=>match K2 L [58] i2 with
  | none=>none
  | some i3=>match vP i3 with
   | none=>none
   | some (v,j)=>some (false,j,(x.1++[n],x.2++[v])))
def b3w (w:Option (List Val×Nat)):Option (Val×Nat):=match w with
 | none=>none
 | some (l,j)=>some (.mk 5 0 [] [] l,j)
def b6N (w:Option ((List (List Nat)×List Val)×Nat)):Option (Val×Nat):=match w with
 | none=>none
 | some (x,j)=>some (.mk 6 0 [] x.1 x.2,j)
def b6U (w:Option (List Nat×Nat)):Option (Val×Nat):=match w with
 | none=>none
 | some (n,j)=>some (.mk 7 0 n [] [],j)
def value1P (L:List Tok) (fx:Bool) (vP:Nat→Option (Val×Nat)) (i:Nat):Option (Val×Nat):=match L[i]? with
 | none=>none
 | some t=>if eqI t.k 2 then some (.mk 1 t.n [] [] [],i+1) else (if eqI t.k 3 then some (.mk 2 0 t.t [] [],i+1)
  else (if s8 L i [116,114,117,101] then some (.mk 3 1 [] [] [],i+1) else (if s8 L i [102,97,108,115,101] then some (.mk 3 0 [] [] [],i+1)
  else (if s8 L i [110,117,108,108] then some (.mk 0 0 [] [] [],i+1) else (if eqI t.k 1 then some (.mk 4 0 t.t [] [],i+1)
  else (if Z6 L i [36] && !fx then b6U (t7 L (i+1)) else (if s8 L i [91] then b3w (t8 (a1r L vP) 2002 (i+1) []) else (if s8 L i [123] then b6N (t8 (a1U L vP) 2002 (i+1) ([],[])) else none))))))))
/-- a value as it is read -/
def t9 (L:List Tok) (fx:Bool):Nat→Nat→Option (Val×Nat)
 | 0,_=>none
 | f+1,i=>value1P L fx (t9 L fx f) i
def c9S (B:St) (L:List Tok) (fx:Bool) (o:Nat) (f:Nat):Prop:=∀ {st:St} {i:Nat} {d e:Int},Rd B L o st i d e→0≤d→d+f=24 →
 EvQ tbl 42 [.ptr o 0,.bool fx] st (fun a st'=>∃ v:Val,v.OK∧a=.agg v.row∧a1P B L o i d e (t9 L fx f i) v st')

theorem b1V (l:List Val):m7 5 (l.map Val.row)=true:=E3 (by
 intro r hr
 obtain ⟨v,_,rfl⟩:=List.mem_map.1 hr
 obtain ⟨_,_,_,_,_,e⟩:=v.row_cells
 rw [e]
 rfl)
theorem a04 (l:List (List Nat)):m7 1 (l.map b9)=true:=E3 (by
 intro r hr
 obtain ⟨v,_,rfl⟩:=List.mem_map.1 hr
 rfl)
theorem b7n {L:List Tok} {fx:Bool} {o f:Nat} (ih:c9S B L fx o f) {st:St} {i:Nat} {d:Int} (h:Rd B L o st i d 0) (hd:0≤d) (hd2:d+f=24) :
 EvQ tbl 70 [.ptr o 0,.bool fx] st (fun a st'=>∃ v:Val,v.OK∧a=.agg v.row∧a1P B L o i d 0 (value1P L fx (t9 L fx f) i) v st'):=by
 obtain ⟨bad,ho⟩:=h.ob
 have hs:∀ y:Obj,(st.set o y)[o]?=some y:=fun y=>m9 ho
 have hl:=h.hL.2
 have hi:=h.hi
 have ht:=Z8 h.hi
 have i1:=l5 (show i+1 < 2 ^ 63 by omega)
 have hV:=value1P.eq_1 L fx (t9 L fx f) i
 rw [List.getElem?_eq_getElem h.hi] at hV
 dsimp only at hV
 refine EvQ.body (fn:=a70) rfl rfl rfl ?_
 simp +contextual -implicitDefEqProofs only [K70,SS,rA,rS,rL,rE,reduceCtorEq,ho,rdC,hs,i1,ht,Tok.row]
 refine WC.br (fun hk=>?_) (fun hk=>?_)
 · rw [if_pos hk] at hV
   have hk':(L[i]).k≠0:=by rw [eqI_eq] at hk; simp at hk; rw [hk]; decide
   simp +contextual -implicitDefEqProofs only [K70,SS,rA,rS,rL,rE,reduceCtorEq,ho,rdC,hs,i1,ht,Tok.row]
   obtain ⟨hv,ev⟩:=Val.simple 1 (L[i]).n [] (by decide)
   exact WC.ret ⟨_,_,rfl,_,hv,by rw [ev]; rfl,i+1,0,h.put (H0 h.hL.1 h.hi hk'),by omega,(fun _=>⟨rfl,by omega⟩),fun _=>by rw [hV]; rfl⟩
 rw [hk,if_neg (by decide)] at hV
 simp +contextual -implicitDefEqProofs only [K70,SS,rA,rS,rL,rE,reduceCtorEq,ho,rdC,hs,i1,ht,Tok.row]
 refine WC.br (fun hk=>?_) (fun hk=>?_)
 · rw [if_pos hk] at hV
   have hk':(L[i]).k≠0:=by rw [eqI_eq] at hk; simp at hk; rw [hk]; decide
   simp +contextual -implicitDefEqProofs only [K70,SS,rA,rS,rL,rE,reduceCtorEq,ho,rdC,hs,i1,ht,Tok.row]
   obtain ⟨hv,ev⟩:=Val.simple 2 0 (L[i]).t (by decide)
   exact WC.ret ⟨_,_,rfl,_,hv,by rw [ev]; rfl,i+1,0,h.put (H0 h.hL.1 h.hi hk'),by omega,(fun _=>⟨rfl,by omega⟩),fun _=>by rw [hV]; rfl⟩
 rw [hk,if_neg (by decide)] at hV
 simp +contextual -implicitDefEqProofs only [K70,SS,rA,rS,rL,rE,reduceCtorEq]
 refine WC.call (z9 h _) rfl rfl ?_
 rintro _ st2 (⟨rfl,rfl,hE⟩|⟨rfl,_,h2,hE⟩)
 rotate_left
 · rw [hE,if_pos rfl] at hV
   simp +contextual -implicitDefEqProofs only [K70,SS,rA,rS,rL,rE,reduceCtorEq]
   obtain ⟨hv,ev⟩:=Val.simple 3 1 [] (by decide)
   exact WC.ret ⟨_,_,rfl,_,hv,by rw [ev]; rfl,i+1,0,h2,by omega,(fun _=>⟨rfl,by omega⟩),fun _=>by rw [hV]; rfl⟩
 rw [hE rfl,if_neg (by decide)] at hV
 simp +contextual -implicitDefEqProofs only [K70,SS,rA,rS,rL,rE,reduceCtorEq]
 refine WC.call (z9 h _) rfl rfl ?_
 rintro _ st2 (⟨rfl,rfl,hE⟩|⟨rfl,_,h2,hE⟩)
 rotate_left
 · rw [hE,if_pos rfl] at hV
   simp +contextual -implicitDefEqProofs only [K70,SS,rA,rS,rL,rE,reduceCtorEq]
   obtain ⟨hv,ev⟩:=Val.simple 3 0 [] (by decide)
   exact WC.ret ⟨_,_,rfl,_,hv,by rw [ev]; rfl,i+1,0,h2,by omega,(fun _=>⟨rfl,by omega⟩),fun _=>by rw [hV]; rfl⟩
 rw [hE rfl,if_neg (by decide)] at hV
 simp +contextual -implicitDefEqProofs only [K70,SS,rA,rS,rL,rE,reduceCtorEq]
 refine WC.call (z9 h _) rfl rfl ?_
 rintro _ st2 (⟨rfl,rfl,hE⟩|⟨rfl,_,h2,hE⟩)
 rotate_left
 · rw [hE,if_pos rfl] at hV
   simp +contextual -implicitDefEqProofs only [K70,SS,rA,rS,rL,rE,reduceCtorEq]
   obtain ⟨hv,ev⟩:=Val.simple 0 0 [] (by decide)
   exact WC.ret ⟨_,_,rfl,_,hv,by rw [ev]; rfl,i+1,0,h2,by omega,(fun _=>⟨rfl,by omega⟩),fun _=>by rw [hV]; rfl⟩
 rw [hE rfl,if_neg (by decide)] at hV
 simp +contextual -implicitDefEqProofs only [K70,SS,rA,rS,rL,rE,reduceCtorEq,ho,rdC,hs,i1,ht,Tok.row]
 refine WC.br (fun hk=>?_) (fun hk=>?_)
 · rw [if_pos hk] at hV
   have hk':(L[i]).k≠0:=by rw [eqI_eq] at hk; simp at hk; rw [hk]; decide
   simp +contextual -implicitDefEqProofs only [K70,SS,rA,rS,rL,rE,reduceCtorEq,ho,rdC,hs,i1,ht,Tok.row]
   obtain ⟨hv,ev⟩:=Val.simple 4 0 (L[i]).t (by decide)
   exact WC.ret ⟨_,_,rfl,_,hv,by rw [ev]; rfl,i+1,0,h.put (H0 h.hL.1 h.hi hk'),by omega,(fun _=>⟨rfl,by omega⟩),fun _=>by rw [hV]; rfl⟩
 rw [hk,if_neg (by decide)] at hV
 simp +contextual -implicitDefEqProofs only [K70,SS,rA,rS,rL,rE,reduceCtorEq,ho,rdC,hs,i1,ht,Tok.row]
 refine WC.call (a5J h _) rfl rfl ?_
 rintro _ st2 ⟨rfl,b,rfl,hb,hbs⟩
 have hbs:=hbs rfl
 simp +contextual -implicitDefEqProofs only [K70,SS,rA,rS,rL,rE,reduceCtorEq]
 refine WC.br (fun hk=>?_) (fun hk=>?_)
 · have hk2:b=true:=by
    cases b
    · cases fx <;> cases hk
    · rfl
   have hk':(L[i]).k≠0:=by rw [(hb hk2).2]; decide
   rw [if_pos (by rw [← hbs]; exact hk)] at hV
   simp +contextual -implicitDefEqProofs only [K70,SS,rA,rS,rL,rE,reduceCtorEq,ho,rdC,hs,i1]
   refine WC.call (H8 (h.put (bad':=bad) (d':=d) (e':=0) (H0 h.hL.1 h.hi hk'))) rfl rfl ?_
   rintro _ st3 ⟨n,rfl,i3,e3,h3,h3a,h3b,hX⟩
   simp +contextual -implicitDefEqProofs only [K70,SS,rA,rS,rL,rE,reduceCtorEq]
   obtain ⟨hv,ev⟩:=Val.simple 7 0 n (by decide)
   refine WC.ret ⟨_,_,rfl,_,hv,by rw [ev]; rfl,i3,e3,h3,by omega,(fun h=>⟨rfl,by have:=(h3b h).2; omega⟩),fun _=>?_⟩
   rw [hV,hX rfl]
   by_cases h0:e3=0
   · rw [if_pos h0,if_pos h0]; rfl
   · rw [if_neg h0,if_neg h0]; rfl
 rw [if_neg (by rw [← hbs]; intro h0; rw [h0] at hk; cases hk)] at hV
 simp +contextual -implicitDefEqProofs only [K70,SS,rA,rS,rL,rE,reduceCtorEq]
 refine WC.call (z9 h _) rfl rfl ?_
 rintro _ st2 (⟨rfl,rfl,hE⟩|⟨rfl,_,h2,hE⟩)
 rotate_left
 · -- a list
   rw [hE,if_pos rfl] at hV
   simp +contextual -implicitDefEqProofs only [K70,SS,rA,rS,rL,rE,reduceCtorEq]
   revert hV
   generalize hw:t8 (a1r L (t9 L fx f)) 2002 (i+1) []=w
   intro hV
   refine WC.loopR (fun mm fr st'=>∃ (i':Nat) (e':Int) (l:List Val) (v5:AV),Rd B L o st' i' d e'∧i+1≤i'∧(∀ v∈l,v.OK)∧mm=rem L i' e'∧l.length+mm≤L.length∧LoopAt (a1r L (t9 L fx f)) w i' l e' ∧
    fr=[.ptr o 0,.bool fx,.box [.int .u8 0,.int .i64 0,.str [],.list true [],.list true []],.box [.int .u8 (L[i]).k,.str (L[i]).t,.int .i64 (L[i]).n,.int .i64 (L[i]).a],.box [.int .u8 5,.int .i64 0,.str [],.list true [],.list true (l.map Val.row)],v5,.undef,.undef]) (m:=rem L (i+1) 0) ⟨i+1,0,[],_,h2,Nat.le_refl _,by simp,rfl,by simpa using a0y L (i+1) 0,LoopAt.start _ _ _ _ (by rw [if_pos rfl,hw]),rfl⟩ ?_
   rintro mm fr st' ⟨i',e',l,v5,hr,hi',hl',hmm,hlen,hLo,rfl⟩
   obtain ⟨bad',ho'⟩:=hr.ob
   have hi2:=hr.hi
   have hend:∀ (st3:St) (i3:Nat) (e3:Int),Rd B L o st3 i3 d e3→i+1≤i3→(w=if e3=0 then some (l,i3) else none)→WC (fun n=>C7 (P7 0 (C7 (P7 1 some) (d8 (e8 tbl n) n (a70s59.seq ACode.ret)))) (d8 (e8 tbl n) n (a70s99.seq (a70s101.seq ACode.ret))) (Ex.exit 1,[.ptr o 0,.bool fx,.box [.int .u8 0,.int .i64 0,.str [],.list true [],.list true []],.box [.int .u8 (L[i]).k,.str (L[i]).t,.int .i64 (L[i]).n,.int .i64 (L[i]).a],.box [.int .u8 5,.int .i64 0,.str [],.list true [],.list true (l.map Val.row)],v5,.undef,.undef],st3))
    (fun o_1=>∃ r st',finK [ResK.bx 2 true 5] (some o_1)=some (r,st')∧∃ v:Val,v.OK∧r=.agg v.row∧a1P B L o i d 0 (value1P L fx (t9 L fx f) i) v st'):=by
    intro st3 i3 e3 h3 hi3 hw3
    simp +contextual -implicitDefEqProofs only [K70,SS,rA,rS,rL,rE,reduceCtorEq]
    refine WC.ret ⟨_,_,rfl,.mk 5 0 [] [] l,.mk _ _ _ _ _ (fun h=>absurd h (by decide)) (by simp) (by omega) hl',?_,i3,e3,h3,by omega,(fun _=>⟨rfl,by omega⟩),fun _=>?_⟩
    · rw [Val.row_eq]
      rfl
    · rw [hV,hw3]
      by_cases h0:e3=0
      · rw [if_pos h0,if_pos h0]; rfl
      · rw [if_neg h0,if_neg h0]; rfl
   simp +contextual -implicitDefEqProofs only [K70,SS,rA,rS,rL,rE,reduceCtorEq,ho',rdC]
   refine WC.g2 (fun hf=>?_) (fun hf=>?_)
   rotate_left
   · simp +contextual -implicitDefEqProofs only [K70,SS,rA,rS,rL,rE,reduceCtorEq,show eqI e' 0=false from hf]
     have he0:e'≠0:=by intro h0; subst h0; cases hf
     exact WC.leave (hend st' i' e' hr hi' (by rw [if_neg he0]; exact hLo.bad he0))
   have he':e'=0:=by rw [eqI_eq] at hf; simpa using hf
   subst he'
   simp +contextual -implicitDefEqProofs only [K70,SS,rA,rS,rL,rE,reduceCtorEq,hf]
   refine WC.call (z9 hr _) rfl rfl ?_
   rintro _ st3 (⟨rfl,rfl,hE3⟩|⟨rfl,_,h3,hE3⟩)
   rotate_left
   · simp +contextual -implicitDefEqProofs only [K70,SS,rA,rS,rL,rE,reduceCtorEq,hf]
     exact WC.leave (hend st3 (i'+1) 0 h3 (by omega) (by rw [if_pos rfl]; exact hLo.exit (by omega) (by rw [a1r,hE3]; rfl)))
   · have hE3:=hE3 rfl
     simp +contextual -implicitDefEqProofs only [K70,SS,rA,rS,rL,rE,reduceCtorEq,hf]
     refine WC.call (ih hr hd hd2) rfl rfl ?_
     rintro _ st4 ⟨v,hv,rfl,i4,e4,h4,h4a,h4b,hX4⟩
     have hX4:=hX4 rfl
     obtain ⟨vk,vn,vs,vx,vy,ev⟩:=v.row_cells
     have hh:=h4.hi
     have hlt:=X2 rfl hr.hi (fun h0=>(h4b h0).2)
     have hlr:(l.length+1)*80≤2 ^ 47:=by omega
     simp +contextual -implicitDefEqProofs only [K70,SS,rA,rS,rL,rE,reduceCtorEq,ev,b1V,List.length_map,hlr]
     refine WC.next (m':=rem L i4 e4) (by omega) ⟨i4,e4,l++[v],.box [.int .u8 vk,.int .i64 vn,.str vs,.list false vx,.list false vy],h4,by omega,fun x hx=>?_,rfl,by simp only [List.length_append,List.length_cons,List.length_nil]; omega,hLo.next (by omega) (fun h0=>(h4b h0).2) ?_,?_⟩
     · rcases List.mem_append.1 hx with h0|h0
       · exact hl' x h0
       · simp at h0; subst h0; exact hv
     · rw [a1r,hE3,if_neg (by decide),hX4]
       by_cases h0:e4=0
       · rw [if_pos h0,if_pos h0]
       · rw [if_neg h0,if_neg h0]
     · simp only [List.map_append,List.map_cons,List.map_nil,ev]
 rw [hE rfl,if_neg (by decide)] at hV
 simp +contextual -implicitDefEqProofs only [K70,SS,rA,rS,rL,rE,reduceCtorEq]
 refine WC.call (z9 h _) rfl rfl ?_
 rintro _ st2 (⟨rfl,rfl,hE⟩|⟨rfl,_,h2,hE⟩)
 · rw [hE rfl,if_neg (by decide)] at hV
   simp +contextual -implicitDefEqProofs only [K70,SS,rA,rS,rL,rE,reduceCtorEq]
   refine WC.call (a0b h 4 (by decide)) rfl rfl ?_
   rintro _ st3 ⟨e3,h3,h3e⟩
   simp +contextual -implicitDefEqProofs only [K70,SS,rA,rS,rL,rE,reduceCtorEq]
   obtain ⟨hv,ev⟩:=Val.simple 0 0 [] (by decide)
   exact WC.ret ⟨_,_,rfl,_,hv,by rw [ev]; rfl,i,e3,h3,by omega,(fun h=>absurd h h3e),fun _=>by rw [hV,if_neg h3e]⟩
 · -- an object
   rw [hE,if_pos rfl] at hV
   simp +contextual -implicitDefEqProofs only [K70,SS,rA,rS,rL,rE,reduceCtorEq]
   revert hV
   generalize hw:t8 (a1U L (t9 L fx f)) 2002 (i+1) ([],[])=w
   intro hV
   refine WC.loopR (fun mm fr st'=>∃ (i':Nat) (e':Int) (l:List Val) (ks:List (List Nat)) (v7:AV),Rd B L o st' i' d e'∧i+1≤i'∧(∀ v∈l,v.OK)∧ks.length=l.length∧mm=rem L i' e'∧l.length+mm≤L.length∧LoopAt (a1U L (t9 L fx f)) w i' (ks,l) e' ∧
    fr=[.ptr o 0,.bool fx,.box [.int .u8 0,.int .i64 0,.str [],.list true [],.list true []],.box [.int .u8 (L[i]).k,.str (L[i]).t,.int .i64 (L[i]).n,.int .i64 (L[i]).a],.undef,.undef,.box [.int .u8 6,.int .i64 0,.str [],.list true (ks.map b9),.list true (l.map Val.row)],v7]) (m:=rem L (i+1) 0) ⟨i+1,0,[],[],_,h2,Nat.le_refl _,by simp,rfl,rfl,by simpa using a0y L (i+1) 0,LoopAt.start _ _ _ _ (by rw [if_pos rfl,hw]),rfl⟩ ?_
   rintro mm fr st' ⟨i',e',l,ks,v7,hr,hi',hl',hks,hmm,hlen,hLo,rfl⟩
   obtain ⟨bad',ho'⟩:=hr.ob
   have hi2:=hr.hi
   have hend:∀ (st3:St) (i3:Nat) (e3:Int),Rd B L o st3 i3 d e3→i+1≤i3→(w=if e3=0 then some ((ks,l),i3) else none)→WC (fun n=>C7 (P7 0 (C7 (P7 3 some) (d8 (e8 tbl n) n (a70s84.seq ACode.ret)))) (d8 (e8 tbl n) n (a70s99.seq (a70s101.seq ACode.ret))) (Ex.exit 3,[.ptr o 0,.bool fx,.box [.int .u8 0,.int .i64 0,.str [],.list true [],.list true []],.box [.int .u8 (L[i]).k,.str (L[i]).t,.int .i64 (L[i]).n,.int .i64 (L[i]).a],.undef,.undef,.box [.int .u8 6,.int .i64 0,.str [],.list true (ks.map b9),.list true (l.map Val.row)],v7],st3))
    (fun o_1=>∃ r st',finK [ResK.bx 2 true 5] (some o_1)=some (r,st')∧∃ v:Val,v.OK∧r=.agg v.row∧a1P B L o i d 0 (value1P L fx (t9 L fx f) i) v st'):=by
    intro st3 i3 e3 h3 hi3 hw3
    simp +contextual -implicitDefEqProofs only [K70,SS,rA,rS,rL,rE,reduceCtorEq]
    refine WC.ret ⟨_,_,rfl,.mk 6 0 [] ks l,.mk _ _ _ _ _ (fun _=>hks) (by omega) (by omega) hl',?_,i3,e3,h3,by omega,(fun _=>⟨rfl,by omega⟩),fun _=>?_⟩
    · rw [Val.row_eq]
      rfl
    · rw [hV,hw3]
      by_cases h0:e3=0
      · rw [if_pos h0,if_pos h0]; rfl
      · rw [if_neg h0,if_neg h0]; rfl
   simp +contextual -implicitDefEqProofs only [K70,SS,rA,rS,rL,rE,reduceCtorEq,ho',rdC]
   refine WC.g2 (fun hf=>?_) (fun hf=>?_)
   rotate_left
   · simp +contextual -implicitDefEqProofs only [K70,SS,rA,rS,rL,rE,reduceCtorEq,show eqI e' 0=false from hf]
     have he0:e'≠0:=by intro h0; subst h0; cases hf
     exact WC.leave (hend st' i' e' hr hi' (by rw [if_neg he0]; exact hLo.bad he0))
   have he':e'=0:=by rw [eqI_eq] at hf; simpa using hf
   subst he'
   simp +contextual -implicitDefEqProofs only [K70,SS,rA,rS,rL,rE,reduceCtorEq,hf]
   refine WC.call (z9 hr _) rfl rfl ?_
   rintro _ st3 (⟨rfl,rfl,hE3⟩|⟨rfl,_,h3,hE3⟩)
   rotate_left
   · simp +contextual -implicitDefEqProofs only [K70,SS,rA,rS,rL,rE,reduceCtorEq,hf]
     exact WC.leave (hend st3 (i'+1) 0 h3 (by omega) (by rw [if_pos rfl]; exact hLo.exit (by omega) (by rw [a1U,hE3]; rfl)))
   · have hE3:=hE3 rfl
     simp +contextual -implicitDefEqProofs only [K70,SS,rA,rS,rL,rE,reduceCtorEq,hf]
     refine WC.call (H8 hr) rfl rfl ?_
     rintro _ st4 ⟨t,rfl,i4,e4,h4,h4a,h4b,hX4⟩
     have hkr:(ks.length+1)*16≤2 ^ 47:=by omega
     simp +contextual -implicitDefEqProofs only [K70,SS,rA,rS,rL,rE,reduceCtorEq,a04,List.length_map,hkr]
     refine WC.call (a0i h4 _) rfl rfl ?_
     rintro _ st5 ⟨i5,e5,h5,h5a,h5b,hX5⟩
     simp +contextual -implicitDefEqProofs only [K70,SS,rA,rS,rL,rE,reduceCtorEq]
     refine WC.call (ih h5 hd hd2) rfl rfl ?_
     rintro _ st6 ⟨v,hv,rfl,i6,e6,h6,h6a,h6b,hX6⟩
     obtain ⟨vk,vn,vs,vx,vy,ev⟩:=v.row_cells
     have hlt:rem L i6 e6 < rem L i' 0:=X2 rfl hr.hi (fun h0=>by have:=h6b h0; have:=h5b this.1; omega)
     have hlr:(l.length+1)*80≤2 ^ 47:=by omega
     simp +contextual -implicitDefEqProofs only [K70,SS,rA,rS,rL,rE,reduceCtorEq,ev,b1V,List.length_map,hlr]
     refine WC.next (m':=rem L i6 e6) (by omega) ⟨i6,e6,l++[v],ks++[t],.box [.int .u8 vk,.int .i64 vn,.str vs,.list false vx,.list false vy],h6,by omega,fun x hx=>?_,by simp only [List.length_append,hks]; rfl,rfl,by simp only [List.length_append,List.length_cons,List.length_nil]; omega,hLo.next (by omega) (fun h0=>by have:=h6b h0; have:=h5b this.1; omega) ?_,?_⟩
     · rcases List.mem_append.1 hx with h0|h0
       · exact hl' x h0
       · simp at h0; subst h0; exact hv
     · rw [a1U,hE3,if_neg (by decide),hX4 rfl]
       by_cases h0:e4=0
       · rw [if_pos h0]; dsimp only; rw [hX5 h0]
         by_cases h1:e5=0
         · rw [if_pos h1]; dsimp only; rw [hX6 h1]
           by_cases h2:e6=0
           · rw [if_pos h2,if_pos h2]
           · rw [if_neg h2,if_neg h2]
         · rw [if_neg h1,if_neg (fun h=>h1 (h6b h).1)]
       · rw [if_neg h0,if_neg (fun h=>h0 (h5b (h6b h).1).1)]
     · simp only [List.map_append,List.map_cons,List.map_nil,ev,b9]

theorem b1L (L:List Tok) (fx:Bool) (o:Nat):∀ f,c9S B L fx o f:=by
 intro f
 induction f with
 | zero =>
  intro st i d e h hd hd2
  obtain rfl:d=24:=by omega
  refine EvQ.body (fn:=a42) rfl rfl rfl ?_
  simp +contextual -implicitDefEqProofs only [K42,SS,rA,rS,rL,rE,reduceCtorEq]
  refine WC.call (a08 h hd (by omega)) rfl rfl ?_
  rintro _ st1 ⟨e1,rfl,h1,he1⟩
  have he:e1≠0:=fun h0=>by have:=he1.1 h0; omega
  have hf:eqI e1 0=false:=by rw [eqI_eq]; simpa using he
  obtain ⟨bad,ho⟩:=h1.ob
  have hs:∀ y:Obj,(st1.set o y)[o]?=some y:=fun y=>m9 ho
  simp +contextual -implicitDefEqProofs only [K42,SS,rA,rS,rL,rE,reduceCtorEq,hf,ho,rdC,hs,a5G hd (show (24:Int)≤100 by omega)]
  obtain ⟨hv,ev⟩:=Val.simple 0 0 [] (by decide)
  exact WC.ret ⟨_,_,rfl,_,hv,by rw [ev]; rfl,i,e1,h1.put h1.hi,Nat.le_refl _,(fun h=>absurd h he),fun _=>by rw [if_neg he,t9]⟩
 | succ f ih =>
  intro st i d e h hd hd2
  have hd2':d≤23:=by omega
  have fin:∀ (v:Val) (k n:Int) (s:List Nat) (w w':Bool) (xs ys:List (List AV)) (st1:St) (i1:Nat) (e1:Int),v.OK→v.row=[.int .u8 k,.int .i64 n,.str s,.list false xs,.list false ys]→Rd B L o st1 i1 (d+1) e1→i≤i1→(e1=0→e=0∧i < i1)→(e=0→t9 L fx (f+1) i=if e1=0 then some (v,i1) else none) →
   WC (fun n'=>d8 (e8 tbl n') n' (a42s9.seq (a42s11.seq ACode.ret)) [.ptr o 0,.bool fx,.box [.int .u8 0,.int .i64 0,.str [],.list true [],.list true []],.box [.int .u8 k,.int .i64 n,.str s,.list w xs,.list w' ys]] st1)
    (fun o_1=>∃ r st',finK [ResK.bx 2 true 5] (some o_1)=some (r,st')∧∃ v:Val,v.OK∧r=.agg v.row∧a1P B L o i d e (t9 L fx (f+1) i) v st'):=by
   intro v k n s w w' xs ys st1 i1 e1 hv ev h1 hi1 he1 hX
   obtain ⟨bad,ho⟩:=h1.ob
   have hs:∀ y:Obj,(st1.set o y)[o]?=some y:=fun y=>m9 ho
   simp +contextual -implicitDefEqProofs only [K42,SS,rA,rS,rL,rE,reduceCtorEq,ho,rdC,hs,a5G hd (show d≤100 by omega)]
   refine WC.ret ⟨_,_,rfl,v,hv,?_,i1,e1,h1.put h1.hi,hi1,he1,hX⟩
   rw [ev]
   rfl
  refine EvQ.body (fn:=a42) rfl rfl rfl ?_
  simp +contextual -implicitDefEqProofs only [K42,SS,rA,rS,rL,rE,reduceCtorEq]
  refine WC.call (a08 h hd (by omega)) rfl rfl ?_
  rintro _ st1 ⟨e1,rfl,h1,he1⟩
  simp +contextual -implicitDefEqProofs only [K42,SS,rA,rS,rL,rE,reduceCtorEq]
  refine WC.br (fun hf=>?_) (fun hf=>?_)
  rotate_left
  · have he:e1≠0:=by rw [eqI_eq] at hf; simpa using hf
    obtain ⟨hv,ev⟩:=Val.simple 0 0 [] (by decide)
    have:=fin _ 0 0 [] true true [] [] st1 i e1 hv ev h1 (Nat.le_refl _) (fun h=>absurd h he) (fun h0=>absurd (he1.2 ⟨h0,by omega⟩) he)
    simp +contextual -implicitDefEqProofs only [K42,SS,rA,rS,rL,rE,reduceCtorEq] at this ⊢
    exact this
  · have he:e1=0:=by rw [eqI_eq] at hf; simpa using hf
    subst he
    obtain ⟨rfl,hd3⟩:=he1.1 rfl
    simp +contextual -implicitDefEqProofs only [K42,SS,rA,rS,rL,rE,reduceCtorEq]
    refine WC.call (b7n ih h1 (by omega) (by omega)) rfl rfl ?_
    rintro _ st4 ⟨v,hv,rfl,i4,e4,h4,h4a,h4b,hX⟩
    obtain ⟨vk,vn,vs,vx,vy,ev⟩:=v.row_cells
    simp +contextual -implicitDefEqProofs only [K42,SS,rA,rS,rL,rE,reduceCtorEq,ev]
    have:=fin v vk vn vs false false vx vy st4 i4 e4 hv ev h4 h4a h4b (fun _=>by rw [t9]; exact hX rfl)
    simp +contextual -implicitDefEqProofs only [K42,SS,rA,rS,rL,rE,reduceCtorEq] at this ⊢
    exact this
end Go.Cb.CodeA
