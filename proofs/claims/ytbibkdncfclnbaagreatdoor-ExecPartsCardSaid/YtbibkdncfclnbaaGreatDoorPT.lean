import Derived.Test.YtbibkdncfclnbaaGreatDoorB0
import Derived.Test.YtbibkdncfclnbaaGreatDoorXAms1
set_option maxRecDepth 20000
set_option linter.unusedSimpArgs false
set_option linter.unusedVariables false
namespace Go.Cb.CodeA
open Go Go.Cb
open Nat renaming reduceAdd→rA,reduceSub→rS,reduceLeDiff→rL,reduceEqDiff→rE
attribute [local congr] i7 j1 j2 j3 j0 i8 k6 j9 V.runR_congr
def wS {α:Type} (f:α→Nat):List α→Nat
 | []=>0
 | x::l=>f x+wS f l
theorem a3A {α:Type} (f:α→Nat) (a b:List α):wS f (a++b)=wS f a+wS f b:=by
 induction a with
 | nil=>simp [wS]
 | cons x a ih=>rw [List.cons_append,wS,wS,ih]; omega
theorem a7j {α:Type} (f:α→Nat) (x:α):wS f [x]=f x:=by simp [wS]
theorem c8L {α:Type} (f:α→Nat) {l:List α} {x:α} (h:x∈l):f x≤wS f l:=by
 induction l with
 | nil=>cases h
 | cons y l ih =>
  rw [wS]
  rcases List.mem_cons.1 h with rfl|h
  · omega
  · have:=ih h; omega
mutual
def Val.w:Val→Nat
 | .mk _ _ s ks ls=>30+2*s.length+wK ks+wV ls
def wV:List Val→Nat
 | []=>0
 | v::l=>(v.w+10)+wV l
def wK:List (List Nat)→Nat
 | []=>0
 | k::l=>(k.length+10)+wK l
end
theorem c1B:∀ l,wV l=wS (fun v=>v.w+10) l
 | []=>by rw [wV]; rfl
 | v::l=>by rw [wV,c1B l]; rfl
theorem c1S:∀ l,wK l=wS (fun k:List Nat=>k.length+10) l
 | []=>by rw [wK]; rfl
 | v::l=>by rw [wK,c1S l]; rfl
theorem Val.w_mk (k n:Int) (s:List Nat) (ks:List (List Nat)) (ls:List Val):(Val.mk k n s ks ls).w=30+2*s.length+wS (fun k:List Nat=>k.length+10) ks+wS (fun v=>v.w+10) ls:=by rw [Val.w,c1B,c1S]
def a8S (f:Nat) (as:List AV) (m:Nat):Prop:=∃ t:List Nat,t.length≤m∧∀ st,EvQ tbl f as st (fun a st'=>st'=st∧a=.str t)
theorem a6f {n:Int} (h0:0≤n) (h:n < 18446744073709551616):IntKind.u64.wrap n=n:=by
 simp [IntKind.wrap,IntKind.signed,IntKind.bits]
 omega
theorem c3r (n:Int):0≤IntKind.u64.wrap n∧IntKind.u64.wrap n < 18446744073709551616:=by
 simp [IntKind.wrap,IntKind.signed,IntKind.bits]
 omega
theorem b5G {n:Int} (h0:0≤n) (h:n < 256):IntKind.u8.wrap n=n:=by
 simp [IntKind.wrap,IntKind.signed,IntKind.bits]
 omega
theorem c0A:∀ (k:Nat) (n:Int),k≤100→0≤n→n < 10 ^ (k+1)→n < 18446744073709551616→a8S 91 [.int .u64 n] (k+1):=by
 intro k
 induction k with
 | zero =>
  intro n hk h0 h1 h2
  have h10:n < 10:=by simpa using h1
  refine ⟨[48+n.toNat],by simp,fun st=>?_⟩
  refine EvQ.body (fn:=a91) rfl rfl rfl ?_
  have e1:ltI n 10=true:=by rw [ltI_eq]; simp [h10]
  have e2:m5 .u8 (m5 .u64 (a0v 48 n))=48+n:=by rw [addI_eq,C6,C6,a6f (by omega) (by omega),b5G (by omega) (by omega)]
  have e3:0≤48+n∧48+n < 256:=by omega
  have e4:(48+n).toNat=48+n.toNat:=by omega
  simp +contextual -implicitDefEqProofs only [K91,SS,rA,rS,rL,rE,reduceCtorEq,e1,e2,e3,e4]
  exact WC.ret ⟨_,_,rfl,rfl,rfl⟩
 | succ k ih =>
  intro n hk h0 h1 h2
  have hq:n.tdiv 10=n / 10:=by rw [Int.tdiv_eq_ediv_of_nonneg h0]
  have hm:n.tmod 10=n % 10:=by rw [Int.tmod_eq_emod_of_nonneg h0]
  have hq2:IntKind.u64.wrap (n.tdiv 10)=n / 10:=by rw [hq]; exact a6f (by omega) (by omega)
  have h1':n / 10 < 10 ^ (k+1):=by
   rw [Int.pow_succ] at h1
   omega
  obtain ⟨t1,l1,g1⟩:=ih (n / 10) (by omega) (by omega) h1' (by omega)
  have one:a8S 91 [.int .u64 (n % 10)] 1:=by
   clear g1 l1 t1 h1 h1' hq hq2 hm
   have h10:n % 10 < 10:=by omega
   have h0':0≤n % 10:=by omega
   revert h10 h0'
   generalize n % 10=n
   intro h10 h0
   refine ⟨[48+n.toNat],by simp,fun st=>?_⟩
   refine EvQ.body (fn:=a91) rfl rfl rfl ?_
   have e1:ltI n 10=true:=by rw [ltI_eq]; simp [h10]
   have e2:m5 .u8 (m5 .u64 (a0v 48 n))=48+n:=by rw [addI_eq,C6,C6,a6f (by omega) (by omega),b5G (by omega) (by omega)]
   have e3:0≤48+n∧48+n < 256:=by omega
   have e4:(48+n).toNat=48+n.toNat:=by omega
   simp +contextual -implicitDefEqProofs only [K91,SS,rA,rS,rL,rE,reduceCtorEq,e1,e2,e3,e4]
   exact WC.ret ⟨_,_,rfl,rfl,rfl⟩
  obtain ⟨t2,l2,g2⟩:=one
  by_cases h10:n < 10
  · refine ⟨[48+n.toNat],by simp,fun st=>?_⟩
    refine EvQ.body (fn:=a91) rfl rfl rfl ?_
    have e1:ltI n 10=true:=by rw [ltI_eq]; simp [h10]
    have e2:m5 .u8 (m5 .u64 (a0v 48 n))=48+n:=by rw [addI_eq,C6,C6,a6f (by omega) (by omega),b5G (by omega) (by omega)]
    have e3:0≤48+n∧48+n < 256:=by omega
    have e4:(48+n).toNat=48+n.toNat:=by omega
    simp +contextual -implicitDefEqProofs only [K91,SS,rA,rS,rL,rE,reduceCtorEq,e1,e2,e3,e4]
    exact WC.ret ⟨_,_,rfl,rfl,rfl⟩
  refine ⟨t1++t2,by rw [AE]; omega,fun st=>?_⟩
  refine EvQ.body (fn:=a91) rfl rfl rfl ?_
  have e1:ltI n 10=false:=by rw [ltI_eq]; simp; omega
  have e5:((10:Int)=0)=False:=by simp
  have e6:t1.length+t2.length≤2 ^ 62:=by omega
  simp +contextual -implicitDefEqProofs only [K91,SS,rA,rS,rL,rE,reduceCtorEq,e1,hq2,hm,e5]
  refine WC.call (g1 _) rfl rfl ?_
  rintro _ _ ⟨rfl,rfl⟩
  simp +contextual -implicitDefEqProofs only [K91,SS,rA,rS,rL,rE,reduceCtorEq,hm,e5]
  refine WC.call (g2 _) rfl rfl ?_
  rintro _ _ ⟨rfl,rfl⟩
  simp +contextual -implicitDefEqProofs only [K91,SS,rA,rS,rL,rE,reduceCtorEq,e6]
  exact WC.ret ⟨_,_,rfl,rfl,rfl⟩
theorem d1c (n:Int):a8S 45 [.int .i64 n] 22:=by
 have dig:∀ x,a8S 91 [.int .u64 (m5 .u64 x)] 20:=fun x=>by
  obtain ⟨h1,h2⟩:=c3r x
  rw [C6]
  exact c0A 19 _ (by decide) h1 (by omega) h2
 rcases e9 (ltI n 0) with h|h
 · obtain ⟨t,hl,hg⟩:=dig (a0v (m5 .u64 (m5 .i64 (0 - m5 .i64 (a0v n 1)))) 1)
   have e6:1+t.length≤2 ^ 62:=by omega
   refine ⟨45::t,by simp; omega,fun st=>?_⟩
   refine EvQ.body (fn:=a45) rfl rfl rfl ?_
   simp +contextual -implicitDefEqProofs only [K45,SS,rA,rS,rL,rE,reduceCtorEq,h]
   refine WC.call (hg _) rfl rfl ?_
   rintro _ _ ⟨rfl,rfl⟩
   simp +contextual -implicitDefEqProofs only [K45,SS,rA,rS,rL,rE,reduceCtorEq,e6]
   exact WC.ret ⟨_,_,rfl,rfl,rfl⟩
 · obtain ⟨t,hl,hg⟩:=dig n
   refine ⟨t,by omega,fun st=>?_⟩
   refine EvQ.body (fn:=a45) rfl rfl rfl ?_
   simp +contextual -implicitDefEqProofs only [K45,SS,rA,rS,rL,rE,reduceCtorEq,h]
   refine WC.call (hg _) rfl rfl ?_
   rintro _ _ ⟨rfl,rfl⟩
   simp +contextual -implicitDefEqProofs only [K45,SS,rA,rS,rL,rE,reduceCtorEq]
   exact WC.ret ⟨_,_,rfl,rfl,rfl⟩
def pre (g:Nat→List Nat):Nat→List Nat
 | 0=>[]
 | i+1=>pre g i++g i
theorem a2y {g:Nat→List Nat} {α:Type} {μ:α→Nat} {l:List α} (h:∀ i (hi:i < l.length),(g i).length≤μ l[i]):∀ i,i≤l.length→(pre g i).length≤wS μ (l.take i)
 | 0,_=>by simp [pre]
 | i+1,hi=>by
  rw [pre,AE,List.take_add_one,AD (by omega)]
  simp only [Option.toList_some]
  rw [a3A,a7j]
  have:=a2y h i (by omega)
  have:=h i (by omega)
  omega
theorem a4c {α:Type} (μ:α→Nat) (l:List α) (i:Nat):wS μ (l.take i)≤wS μ l:=by
 have h:wS μ l=wS μ (l.take i)+wS μ (l.drop i):=by rw [← a3A,List.take_append_drop]
 omega
def Y2 (b:Nat):List Nat:=if eqI (b:Int) 10 then [92,110] else (if eqI (b:Int) 9 then [92,116] else (if eqI (b:Int) 34 then [92,34] else (if eqI (b:Int) 92 then [92,92] else [b])))
theorem c0e (b:Nat):(Y2 b).length≤2:=by
 unfold Y2
 split
 · decide
 split
 · decide
 split
 · decide
 split
 · decide
 · simp
theorem c4W (s:List Nat) (hs:s.length≤2 ^ 60):a8S 46 [.str s] (2*s.length+2):=by
 have hp:=a2y (g:=fun i=>Y2 (s.getD i 0)) (μ:=fun _=>2) (l:=s) (fun i hi=>c0e _)
 have hw:wS (fun _=>2) s=2*s.length:=by
  clear hp hs
  induction s with
  | nil=>rfl
  | cons x s ih=>rw [wS,ih,AX]; omega
 have hq:=hp s.length (AJ _)
 rw [List.take_length,hw] at hq
 refine ⟨34::pre (fun i=>Y2 (s.getD i 0)) s.length++[34],by rw [AE,AX]; show _+1+1≤_; omega,fun st=>?_⟩
 refine EvQ.body (fn:=a46) rfl rfl rfl ?_
 simp +contextual -implicitDefEqProofs only [K46,SS,rA,rS,rL,rE,reduceCtorEq]
 refine WC.loopR (fun mm fr st'=>st'=st∧∃ (i:Nat) (v4:AV),i≤s.length∧mm=s.length - i∧fr=[.str s,.str [],.str (34::pre (fun i=>Y2 (s.getD i 0)) i),.int .i64 i,v4]) (m:=s.length) ⟨rfl,0,_,Nat.zero_le _,rfl,rfl⟩ ?_
 rintro mm fr st' ⟨rfl,i,v4,hi,rfl,rfl⟩
 have hpi:=hp i hi
 have hwt:=a4c (fun _=>2) s i
 rw [hw] at hwt
 have c1:(pre (fun i=>Y2 (s.getD i 0)) i).length+1+1≤2 ^ 62:=by omega
 have c2:(pre (fun i=>Y2 (s.getD i 0)) i).length+1+2≤2 ^ 62:=by omega
 simp +contextual -implicitDefEqProofs only [K46,SS,rA,rS,rL,rE,reduceCtorEq]
 by_cases hil:i < s.length
 · have e2:s[i]?=some s[i]:=AD hil
   have hg:s.getD i 0=s[i]:=by simp [hil]
   have hsl:(s.take (i+1)).drop i=[s[i]]:=by rw [List.take_add_one,e2,List.drop_append,List.drop_of_length_le (by rw [AO]; omega),List.nil_append,AO,show i - min i s.length=0 by omega]; rfl
   have hpr:pre (fun i=>Y2 (s.getD i 0)) (i+1)=pre (fun i=>Y2 (s.getD i 0)) i++Y2 s[i]:=by rw [pre,hg]
   have hb1:(i:Int)≤((i+1:Nat):Int):=by omega
   have hb2:((i+1:Nat):Int)≤(s.length:Int):=by omega
   revert e2 hsl hpr
   generalize s[i]=b
   generalize pre (fun i=>Y2 (s.getD i 0)) i=p at *
   intro e2 hsl hpr
   rw [Y2] at hpr
   rcases e9 (eqI (b:Int) 10) with h1|h1
   · rw [if_pos h1] at hpr
     simp +contextual -implicitDefEqProofs only [K46,SS,rA,rS,rL,rE,reduceCtorEq,hil,e2,h1,c1,c2,s9 (show i+1 < 2 ^ 63 by omega)]
     exact WC.next (m':=s.length - (i+1)) (by omega) ⟨rfl,i+1,_,hil,rfl,by rw [hpr]; try rfl⟩
   rw [if_neg (by rw [h1]; decide)] at hpr
   rcases e9 (eqI (b:Int) 9) with h2|h2
   · rw [if_pos h2] at hpr
     simp +contextual -implicitDefEqProofs only [K46,SS,rA,rS,rL,rE,reduceCtorEq,hil,e2,h1,h2,c1,c2,s9 (show i+1 < 2 ^ 63 by omega)]
     exact WC.next (m':=s.length - (i+1)) (by omega) ⟨rfl,i+1,_,hil,rfl,by rw [hpr]; try rfl⟩
   rw [if_neg (by rw [h2]; decide)] at hpr
   rcases e9 (eqI (b:Int) 34) with h3|h3
   · rw [if_pos h3] at hpr
     simp +contextual -implicitDefEqProofs only [K46,SS,rA,rS,rL,rE,reduceCtorEq,hil,e2,h1,h2,h3,c1,c2,s9 (show i+1 < 2 ^ 63 by omega)]
     exact WC.next (m':=s.length - (i+1)) (by omega) ⟨rfl,i+1,_,hil,rfl,by rw [hpr]; try rfl⟩
   rw [if_neg (by rw [h3]; decide)] at hpr
   rcases e9 (eqI (b:Int) 92) with h4|h4
   · rw [if_pos h4] at hpr
     simp +contextual -implicitDefEqProofs only [K46,SS,rA,rS,rL,rE,reduceCtorEq,hil,e2,h1,h2,h3,h4,c1,c2,s9 (show i+1 < 2 ^ 63 by omega)]
     exact WC.next (m':=s.length - (i+1)) (by omega) ⟨rfl,i+1,_,hil,rfl,by rw [hpr]; try rfl⟩
   · rw [if_neg (by rw [h4]; decide)] at hpr
     simp +contextual -implicitDefEqProofs only [K46,SS,rA,rS,rL,rE,reduceCtorEq,hil,e2,h1,h2,h3,h4,c1,c2,s9 (show i+1 < 2 ^ 63 by omega),hb1,hb2,hsl]
     exact WC.next (m':=s.length - (i+1)) (by omega) ⟨rfl,i+1,_,hil,rfl,by rw [hpr]⟩
 · have e:i=s.length:=by omega
   subst e
   have c3:(pre (fun i=>Y2 (s.getD i 0)) s.length).length+1+1≤2 ^ 62:=c1
   simp +contextual -implicitDefEqProofs only [K46,SS,rA,rS,rL,rE,reduceCtorEq,hil]
   refine WC.leave ?_
   simp +contextual -implicitDefEqProofs only [K46,SS,rA,rS,rL,rE,reduceCtorEq,c1]
   exact WC.ret ⟨_,_,rfl,rfl,rfl⟩
theorem b2C {α:Type} {P:α→List Nat→Prop}:∀ {l:List α},(∀ x∈l,∃ t,P x t)→∃ T:Nat→List Nat,∀ i (h:i < l.length),P l[i] (T i)
 | [],_=>⟨fun _=>[],fun i h=>by simp at h⟩
 | x::l,h=>by
  obtain ⟨t,ht⟩:=h x (by simp)
  obtain ⟨T,hT⟩:=b2C (l:=l) fun y hy=>h y (by simp [hy])
  refine ⟨fun i=>match i with|0=>t|i+1=>T i,fun i hi=>?_⟩
  cases i with
  | zero=>exact ht
  | succ i=>exact hT i (by simpa using hi)
def S4 (i:Nat):List Nat:=if 0 < i then [44,32] else []
theorem b9X (i:Nat):(S4 i).length≤2:=by unfold S4; split <;> decide
def L3 (k:Int) (ks:List (List Nat)) (i:Nat):List Nat:=if eqI k 6 then ks.getD i []++[58,32] else []
theorem c4H (k:Int):∀ (ks:List (List Nat)) (i:Nat),(L3 k ks i).length≤(ks.getD i []).length+2:=fun ks i=>by
 unfold L3
 split
 · simp
 · simp
theorem c4z:∀ (ks:List (List Nat)) (n:Nat),(pre (fun i=>ks.getD i []) n).length≤wS (fun k:List Nat=>k.length+10) ks
 | ks,n=>by
  by_cases hn:n≤ks.length
  · refine Nat.le_trans (a2y (g:=fun i=>ks.getD i []) (μ:=fun k:List Nat=>k.length+10) (l:=ks) (fun i hi=>?_) n hn) (a4c _ _ _)
    simp [hi]
  · have h:∀ m,(pre (fun i=>ks.getD i []) (ks.length+m)).length=(pre (fun i=>ks.getD i []) ks.length).length:=by
     intro m
     induction m with
     | zero=>rfl
     | succ m ih=>rw [← Nat.add_assoc,pre,AE,ih]; simp
    have e:n=ks.length+(n - ks.length):=by omega
    rw [e,h]
    refine Nat.le_trans (a2y (g:=fun i=>ks.getD i []) (μ:=fun k:List Nat=>k.length+10) (l:=ks) (fun i hi=>?_) _ (AJ _)) (a4c _ _ _)
    simp [hi]
theorem b3G (a b:Nat→List Nat) (c:Nat) (g:Nat→List Nat) (h:∀ i,(g i).length≤(a i).length+(b i).length+c):∀ n,(pre g n).length≤(pre a n).length+(pre b n).length+c*n
 | 0=>by simp [pre]
 | n+1=>by
  have:=b3G a b c g h n
  have:=h n
  simp only [pre,AE,Nat.mul_succ]
  omega
theorem b1b {v:Val} (h:v.OK):v.w≤2 ^ 61→a8S 22 [.agg v.row] v.w:=by
 induction h with
 | mk k n s ks ls h6 hk hl h ih =>
  intro hw
  rw [Val.w_mk] at hw ⊢
  have hvw:∀ v∈ls,v.w≤2 ^ 61:=fun v hv=>by
   have:=c8L (fun v:Val=>v.w+10) hv
   omega
  obtain ⟨T,hT⟩:=b2C (P:=fun (v:Val) (t:List Nat)=>t.length≤v.w∧∀ st,EvQ tbl 22 [.agg v.row] st (fun a st'=>st'=st∧a=.str t)) (l:=ls) (fun v hv=>ih v hv (hvw v hv))
  have hTl:=a2y (g:=T) (μ:=fun v:Val=>v.w) (l:=ls) (fun i hi=>(hT i hi).1)
  have hg:=b3G (fun i=>ks.getD i []) T 4 (fun i=>S4 i++(L3 k ks i++T i)) (fun i=>by
   have h1:=b9X i
   have h2:=c4H k ks i
   simp only [AE]
   omega)
  have hbound:∀ i,i≤ls.length→(pre (fun i=>S4 i++(L3 k ks i++T i)) i).length≤wS (fun k:List Nat=>k.length+10) ks+wS (fun v=>v.w+10) ls:=by
   intro i hi
   have h1:=hg i
   have h2:=c4z ks i
   have h3:=hTl i hi
   have h4:∀ l:List Val,wS (fun v:Val=>v.w) l+10*l.length=wS (fun v:Val=>v.w+10) l:=by
    intro l
    induction l with
    | nil=>rfl
    | cons x l ih=>simp only [wS,AX]; omega
   have h5:=a4c (fun v:Val=>v.w) ls i
   have h6:=h4 ls
   omega
  have hnum:=d1c n
  obtain ⟨tn,ln,gn⟩:=hnum
  obtain ⟨tq,lq,gq⟩:=c4W s (by omega)
  have hfin:=hbound ls.length (AJ _)
  generalize hJ:pre (fun i=>S4 i++(L3 k ks i++T i)) ls.length=J at hfin
  refine ⟨if eqI k 1 then tn else (if eqI k 2 || eqI k 8 then tq else (if eqI k 3 then (if eqI n 1 then [116,114,117,101] else [102,97,108,115,101]) else (if eqI k 4 then s else (if eqI k 7 then 36::s else (if eqI k 5 then 91::(J++[93]) else (if eqI k 6 then 123::(J++[125]) else [110,117,108,108])))))),?_,fun st=>?_⟩
  · split
    · omega
    split
    · omega
    split
    · split
      · show 4≤_; omega
      · show 5≤_; omega
    split
    · omega
    split
    · rw [AX]; omega
    split
    · rw [AX,AE]; show _+1+1≤_; omega
    split
    · rw [AX,AE]; show _+1+1≤_; omega
    · show 4≤_; omega
  rw [Val.row_eq]
  refine EvQ.body (fn:=a22) rfl rfl rfl ?_
  simp +contextual -implicitDefEqProofs only [K22,SS,rA,rS,rL,rE,reduceCtorEq]
  refine WC.loopR (fun mm fr st'=>st'=st∧∃ (i:Nat),i≤ls.length∧mm=ls.length - i∧fr=[.agg [.int .u8 k,.int .i64 n,.str s,.list false (ks.map e8),.list false (ls.map Val.row)],.box [.int .u8 k,.int .i64 n,.str s,.list false (ks.map e8),.list false (ls.map Val.row)],.str [],.str (pre (fun i=>S4 i++(L3 k ks i++T i)) i),.int .i64 i,.undef,.undef]) (m:=ls.length) ⟨rfl,0,Nat.zero_le _,rfl,rfl⟩ ?_
  rintro mm fr st' ⟨rfl,i,hi,rfl,rfl⟩
  simp +contextual -implicitDefEqProofs only [K22,SS,rA,rS,rL,rE,reduceCtorEq,AF]
  by_cases hil:i < ls.length
  · have e2:(ls.map Val.row)[i]?=some (ls[i]).row:=by rw [AQ,AD hil]; rfl
    have hTi:=hT i hil
    have hbi:=hbound (i+1) hil
    have hpr:pre (fun i=>S4 i++(L3 k ks i++T i)) (i+1)=pre (fun i=>S4 i++(L3 k ks i++T i)) i++(S4 i++(L3 k ks i++T i)):=rfl
    rw [hpr,AE,AE,AE] at hbi
    have i1:=s9 (show i+1 < 2 ^ 63 by omega)
    have e3:=hTi.2
    revert e2 hTi e3
    generalize ls[i]=u
    intro e2 hTi e3
    obtain ⟨uk,un,us,uks,uls⟩:=u
    rw [Val.row_eq] at e2
    have e3:∀ st,EvQ tbl 22 [.agg [.int .u8 uk,.int .i64 un,.str us,.list false (uks.map e8),.list false (uls.map Val.row)]] st (fun a st'=>st'=st∧a=.str (T i)):=fun st=>by have:=hTi.2 st; rwa [Val.row_eq] at this
    generalize hP:pre (fun i=>S4 i++(L3 k ks i++T i)) i=p at hpr hbi ⊢
    generalize hTT:T i=tt at *
    have hs0:(0 < i∧ltI 0 (i:Int)=true∧S4 i=[44,32])∨(ltI 0 (i:Int)=false∧S4 i=[]):=by
     by_cases h0:0 < i
     · exact Or.inl ⟨h0,by rw [ltI_eq]; simp; omega,by rw [S4,if_pos h0]⟩
     · exact Or.inr ⟨by rw [ltI_eq]; simp; omega,by rw [S4,if_neg h0]⟩
    have hn0:(eqI k 6=true∧i < ks.length∧L3 k ks i=ks.getD i []++[58,32])∨(eqI k 6=false∧L3 k ks i=[]):=by
     rcases e9 (eqI k 6) with hk6|hk6
     · refine Or.inl ⟨hk6,?_,by rw [L3,if_pos hk6]⟩
       rw [h6 (by rw [eqI_eq] at hk6; simpa using hk6)]
       exact hil
     · exact Or.inr ⟨hk6,by rw [L3,if_neg (by rw [hk6]; decide)]⟩
    have fin:∀ {q:List Nat} {v5 v6:AV},q++tt=p++(S4 i++(L3 k ks i++tt))→q++tt=pre (fun i=>S4 i++(L3 k ks i++T i)) (i+1):=fun h=>by rw [hpr,h]
    rcases hs0 with ⟨_,h0,hse⟩|⟨h0,hse⟩ <;> rcases hn0 with ⟨h6k,hik,hne⟩|⟨h6k,hne⟩
    · rw [hse,hne] at hbi fin
      have ek:(ks.map e8)[i]?=some [.str (ks.getD i [])]:=by rw [List.getElem?_map,List.getElem?_eq_getElem hik]; simp [e8,hik]
      generalize ks.getD i []=kn at ek hbi fin
      simp only [AE,AX,List.length_nil] at hbi
      have c1:p.length+2≤2 ^ 62:=by omega
      have c2:kn.length+2≤2 ^ 62:=by omega
      have c3:(p++[44,32]).length+(kn++[58,32]).length≤2 ^ 62:=by simp; omega
      have c4:((p++[44,32])++(kn++[58,32])).length+tt.length≤2 ^ 62:=by simp; omega
      simp +contextual -implicitDefEqProofs only [K22,SS,rA,rS,rL,rE,reduceCtorEq,hil,e2,h0,h6k,c1,ek,c2,c3]
      refine WC.call (e3 _) rfl rfl ?_
      rintro _ st2 ⟨rfl,rfl⟩
      simp +contextual -implicitDefEqProofs only [K22,SS,rA,rS,rL,rE,reduceCtorEq,c4,i1]
      exact WC.next (m':=ls.length - (i+1)) (by omega) ⟨rfl,i+1,hil,rfl,by rw [← fin (v5:=.undef) (v6:=.undef) (q:=((p++[44,32])++(kn++[58,32]))) (by simp)]⟩
    · rw [hse,hne] at hbi fin
      simp only [AE,AX,List.length_nil] at hbi
      have c1:p.length+2≤2 ^ 62:=by omega
      have c4:(p++[44,32]).length+tt.length≤2 ^ 62:=by simp; omega
      simp +contextual -implicitDefEqProofs only [K22,SS,rA,rS,rL,rE,reduceCtorEq,hil,e2,h0,h6k,c1]
      refine WC.call (e3 _) rfl rfl ?_
      rintro _ st2 ⟨rfl,rfl⟩
      simp +contextual -implicitDefEqProofs only [K22,SS,rA,rS,rL,rE,reduceCtorEq,c4,i1]
      exact WC.next (m':=ls.length - (i+1)) (by omega) ⟨rfl,i+1,hil,rfl,by rw [← fin (v5:=.undef) (v6:=.undef) (q:=(p++[44,32])) (by simp)]⟩
    · rw [hse,hne] at hbi fin
      have ek:(ks.map e8)[i]?=some [.str (ks.getD i [])]:=by rw [List.getElem?_map,List.getElem?_eq_getElem hik]; simp [e8,hik]
      generalize ks.getD i []=kn at ek hbi fin
      simp only [AE,AX,List.length_nil] at hbi
      have c1:p.length+2≤2 ^ 62:=by omega
      have c2:kn.length+2≤2 ^ 62:=by omega
      have c3:(p).length+(kn++[58,32]).length≤2 ^ 62:=by simp; omega
      have c4:(p++(kn++[58,32])).length+tt.length≤2 ^ 62:=by simp; omega
      simp +contextual -implicitDefEqProofs only [K22,SS,rA,rS,rL,rE,reduceCtorEq,hil,e2,h0,h6k,c1,ek,c2,c3]
      refine WC.call (e3 _) rfl rfl ?_
      rintro _ st2 ⟨rfl,rfl⟩
      simp +contextual -implicitDefEqProofs only [K22,SS,rA,rS,rL,rE,reduceCtorEq,c4,i1]
      exact WC.next (m':=ls.length - (i+1)) (by omega) ⟨rfl,i+1,hil,rfl,by rw [← fin (v5:=.undef) (v6:=.undef) (q:=(p++(kn++[58,32]))) (by simp)]⟩
    · rw [hse,hne] at hbi fin
      simp only [AE,AX,List.length_nil] at hbi
      have c1:p.length+2≤2 ^ 62:=by omega
      have c4:p.length+tt.length≤2 ^ 62:=by simp; omega
      simp +contextual -implicitDefEqProofs only [K22,SS,rA,rS,rL,rE,reduceCtorEq,hil,e2,h0,h6k,c1]
      refine WC.call (e3 _) rfl rfl ?_
      rintro _ st2 ⟨rfl,rfl⟩
      simp +contextual -implicitDefEqProofs only [K22,SS,rA,rS,rL,rE,reduceCtorEq,c4,i1]
      exact WC.next (m':=ls.length - (i+1)) (by omega) ⟨rfl,i+1,hil,rfl,by rw [← fin (v5:=.undef) (v6:=.undef) (q:=p) (by simp)]⟩
  · have e:i=ls.length:=by omega
    subst e
    have c1:1+J.length≤2 ^ 62:=by omega
    have c2:J.length+1+1≤2 ^ 62:=by omega
    rw [hJ]
    simp +contextual -implicitDefEqProofs only [K22,SS,rA,rS,rL,rE,reduceCtorEq,hil]
    refine WC.leave ?_
    rcases e9 (eqI k 1) with g1|g1
    · rw [if_pos g1]
      simp +contextual -implicitDefEqProofs only [K22,SS,rA,rS,rL,rE,reduceCtorEq,g1]
      refine WC.call (gn _) rfl rfl ?_
      rintro _ st2 ⟨rfl,rfl⟩
      simp +contextual -implicitDefEqProofs only [K22,SS,rA,rS,rL,rE,reduceCtorEq]
      exact WC.ret ⟨_,_,rfl,rfl,rfl⟩
    rw [if_neg (by rw [g1]; decide)]
    rcases e9 (eqI k 2) with g2|g2
    · rw [if_pos (by rw [g2]; rfl)]
      simp +contextual -implicitDefEqProofs only [K22,SS,rA,rS,rL,rE,reduceCtorEq,g1,g2]
      refine WC.call (gq _) rfl rfl ?_
      rintro _ st2 ⟨rfl,rfl⟩
      simp +contextual -implicitDefEqProofs only [K22,SS,rA,rS,rL,rE,reduceCtorEq]
      exact WC.ret ⟨_,_,rfl,rfl,rfl⟩
    rcases e9 (eqI k 8) with g8|g8
    · rw [if_pos (by rw [g8,Bool.or_true])]
      simp +contextual -implicitDefEqProofs only [K22,SS,rA,rS,rL,rE,reduceCtorEq,g1,g2,g8]
      refine WC.call (gq _) rfl rfl ?_
      rintro _ st2 ⟨rfl,rfl⟩
      simp +contextual -implicitDefEqProofs only [K22,SS,rA,rS,rL,rE,reduceCtorEq]
      exact WC.ret ⟨_,_,rfl,rfl,rfl⟩
    rw [if_neg (by rw [g2,g8]; decide)]
    rcases e9 (eqI k 3) with g3|g3
    · rw [if_pos g3]
      rcases e9 (eqI n 1) with n1|n1
      · rw [if_pos n1]
        simp +contextual -implicitDefEqProofs only [K22,SS,rA,rS,rL,rE,reduceCtorEq,g1,g2,g8,g3,n1]
        exact WC.ret ⟨_,_,rfl,rfl,rfl⟩
      · rw [if_neg (by rw [n1]; decide)]
        simp +contextual -implicitDefEqProofs only [K22,SS,rA,rS,rL,rE,reduceCtorEq,g1,g2,g8,g3,n1]
        exact WC.ret ⟨_,_,rfl,rfl,rfl⟩
    rw [if_neg (by rw [g3]; decide)]
    rcases e9 (eqI k 4) with g4|g4
    · rw [if_pos g4]
      simp +contextual -implicitDefEqProofs only [K22,SS,rA,rS,rL,rE,reduceCtorEq,g1,g2,g8,g3,g4]
      exact WC.ret ⟨_,_,rfl,rfl,rfl⟩
    rw [if_neg (by rw [g4]; decide)]
    rcases e9 (eqI k 7) with g7|g7
    · rw [if_pos g7]
      have c3:1+s.length≤2 ^ 62:=by omega
      simp +contextual -implicitDefEqProofs only [K22,SS,rA,rS,rL,rE,reduceCtorEq,g1,g2,g8,g3,g4,g7,c3]
      exact WC.ret ⟨_,_,rfl,rfl,rfl⟩
    rw [if_neg (by rw [g7]; decide)]
    rcases e9 (eqI k 5) with g5|g5
    · rw [if_pos g5]
      simp +contextual -implicitDefEqProofs only [K22,SS,rA,rS,rL,rE,reduceCtorEq,g1,g2,g8,g3,g4,g7,g5,c1,c2]
      exact WC.ret ⟨_,_,rfl,rfl,rfl⟩
    rw [if_neg (by rw [g5]; decide)]
    rcases e9 (eqI k 6) with g6|g6
    · rw [if_pos g6]
      simp +contextual -implicitDefEqProofs only [K22,SS,rA,rS,rL,rE,reduceCtorEq,g1,g2,g8,g3,g4,g7,g5,g6,c1,c2]
      exact WC.ret ⟨_,_,rfl,rfl,rfl⟩
    · rw [if_neg (by rw [g6]; decide)]
      simp +contextual -implicitDefEqProofs only [K22,SS,rA,rS,rL,rE,reduceCtorEq,g1,g2,g8,g3,g4,g7,g5,g6]
      exact WC.ret ⟨_,_,rfl,rfl,rfl⟩
end Go.Cb.CodeA
