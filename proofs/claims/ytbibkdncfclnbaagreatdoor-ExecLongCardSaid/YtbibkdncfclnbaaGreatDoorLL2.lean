import Derived.Test.YtbibkdncfclnbaaGreatDoorLL
import Derived.Test.YtbibkdncfclnbaaGreatDoorSA
import Derived.Test.YtbibkdncfclnbaaGreatDoorXAms4
set_option maxRecDepth 100000
set_option linter.unusedSimpArgs false
set_option linter.unusedVariables false
namespace Go.Cb.CodeA
open Go Go.Cb
open Nat renaming reduceAdd→rA,reduceSub→rS,reduceLeDiff→rL,reduceEqDiff→rE
attribute [local congr] e9 i7 i8 j0 g9 g8 j5 j4 V.runR_congr
theorem WC.seqX {a b:ACode} {fr fr1:List AV} {st st1:St} {Q:Out→Prop} (h:XC tbl a fr st (.normal,fr1,st1)) (h2:WC (fun n=>e8 (l0 tbl n) n b fr1 st1) Q):WC (fun n=>e8 (l0 tbl n) n (.seq a b) fr st) Q:=by
 simp only [exec_seqK]
 refine WC.seqK (WC.of_xc h (Q:=fun o=>o=(.normal,fr1,st1)) rfl) ?_
 rintro _ rfl
 exact h2
theorem b7g {d:List Sel} {k:Nat} {v:AV}:(((E0 d (e7 k) v).es.filter fun y=>k6 ((E0 d (e7 k) v).poss fPeople.t.bs) y.t).map fun y=>E6 y.id)=m8 k:=by
 have e:(E0 d (e7 k) v).es.filter (fun y=>k6 ((E0 d (e7 k) v).poss fPeople.t.bs) y.t)=e7 k:=by
  show List.filter _ (e7 k)=e7 k
  rw [List.filter_eq_self]
  intro y hy
  obtain ⟨i,_,rfl⟩:=List.mem_map.1 (show y∈(List.range k).map (P0 k) from hy)
  rfl
 rw [e]
 unfold e7 m8
 rw [List.map_map]
 rfl
/-- all the steps -/
def a0p (k:Nat):Nat:=1+k*(1+a0L k 4)
theorem J5 {k:Nat} {v:AV} (hs:D0 (e7 k)):(5000 < a0p k→a6T (E0 dL0 (e7 k) v) dL0=(2,Val.none,[]))∧(a0p k≤5000→∃ D,a6T (E0 dL0 (e7 k) v) dL0=(0,D,[])):=by
 have hx:Exact (a1I (E0 dL0 (e7 k) v) dL0) ⟨[],false,0⟩ (a0p k) True:=by
  have e:(E0 dL0 (e7 k) v).grp p7 dL0=[(a0d,dL0)]:=by rw [a7i]; rfl
  unfold a1I
  rw [e]
  have:=a2J (E:=E0 dL0 (e7 k) v) (V:=valF (E0 dL0 (e7 k) v) 5002) (U4 (I9 _) 5002) (typ:=p7) (x:=Ent.none) (path:=[]) (key:=a0d) (fs:=dL0) (f:=fPeople) (show (E0 dL0 (e7 k) v).fld p7 (U0 dL0)=some fPeople from rfl) (s:=⟨[],false,0⟩) (c:=k*(1+a0L k 4)) (by decide) (fun c0=>by
   have e:E1 (E0 dL0 (e7 k) v) (valF (E0 dL0 (e7 k) v) 5002) p7 Ent.none fPeople dL0 ([]++[a0d]) (RS.step ⟨[],false,0⟩)=y8 (valF (E0 dL0 (e7 k) v) 5002) fPeople.t (.mk 5 0 [] [] (m8 k)) dL0 ([]++[a0d]) (RS.step ⟨[],false,0⟩):=by
    unfold E1
    rw [show eqN fPeople.n C7=false from rfl,if_neg (by decide),show eqN p7 p7=true from rfl,Bool.not_true,if_neg (by decide),show fPeople.ar.isEmpty=true from rfl,if_pos rfl,b7g]
    rfl
   rw [e]
   have hI:=a5z (d:=dL0) (v:=v) hs 4 5000 (by decide) dL0 rfl true ([]++[a0d]) (RS.step ⟨[],false,0⟩) c0
   have:=a1J (P:=fun u=>eqI u.kind 5=true) hI (fun u hu=>by rw [eqI_eq] at hu; rw [show u.kind=5 by simpa using hu]; rfl)
   exact ⟨fun hh=>⟨(this.ok hh).1.1,(this.ok hh).2⟩,this.no⟩)
  exact ⟨fun hh=>⟨trivial,(this.ok hh).2⟩,this.no⟩
 have h4:(a1I (E0 dL0 (e7 k) v) dL0).2.part=false:=a27 (a3E (E:=E0 dL0 (e7 k) v) fun _=>rfl) (U4 (a3E (E:=E0 dL0 (e7 k) v) fun _=>rfl) 5002) p7 Ent.none [] ((E0 dL0 (e7 k) v).grp p7 dL0) [] [] ⟨[],false,0⟩
 unfold a6T
 refine ⟨fun h=>?_,fun h=>?_⟩
 · have:=hx.no (by decide) (by simpa using h)
   rw [if_pos this]
 · obtain ⟨_,h1,h2⟩:=hx.ok (by simpa using h)
   rw [if_neg (by rw [h1]; simp; omega),h4,if_neg (by decide),h2]
   exact ⟨_,rfl⟩
theorem a0N (k:Nat) (hk:k≤100000):∀ e∈e7 k,a0n e:=by
 intro e he
 obtain ⟨i,_,rfl⟩:=List.mem_map.1 he
 refine ⟨rfl,show (1:Nat)≤6 by decide,fun v hv=>?_⟩
 simp only [P0,List.mem_cons,List.not_mem_nil,or_false] at hv
 subst hv
 refine ⟨_,_,_,_,rfl,by decide,by simp [m8]; exact hk,fun u hu=>?_⟩
 obtain ⟨j,_,rfl⟩:=List.mem_map.1 hu
 exact ⟨_,_,_,rfl,by decide⟩
/-- behind the query -/
theorem J3 {k:Nat} {S L:Nat→Nat} (hS:∀ i,i < 5→i6 .i64 ((L i:Int)*(k:Int))=L (i+1)∧i6 .i64 (F4 (S i) (i6 .i64 (2*(L (i+1):Int))))=S (i+1)) (hS0:S 0=1∧L 0=1) {e:Int} {D:Val} {ps:List (Pth×Int)} {pv:AV} (hfin:(eqI e 2=true∧ltI 5000 (S 5:Int)=true)∨(eqI e 2=false∧eqI e 0=true∧ltI 5000 (S 5:Int)=false∧ps=[])) {a0 a3 a4 a5 a6 a7 a8 a9:AV} {st:St} (hpv:ProbAt pv ps st) :
 WC (fun n=>e8 (l0 tbl n) n a6s71 [a0,.bool false,.int .i64 k,a3,a4,a5,a6,a7,a8,a9,.bool true,.box [.int .i64 e,.int .u8 D.kind,.int .i64 D.num,.str D.text,.list false (D.names.map b9),.list false (D.vals.map Val.row),pv],.int .i64 1,.int .i64 1,.undef] st)
  (fun o=>∃ r st',finK [.v 1] (some o)=some (r,st')∧r=.bool true):=by
 obtain ⟨u1,u2,u3,u4,u5,u6,u7⟩:=hpv.wk
 have hln:=hpv.len
 simp +contextual -implicitDefEqProofs only [K6,SS,rA,rS,rL,rE,reduceCtorEq]
 refine WC.loopR (fun mm fr st'=>st'=st∧∃ (i:Nat),i≤5∧mm=5 - i∧fr=[a0,.bool false,.int .i64 k,a3,a4,a5,a6,a7,a8,a9,.bool true,.box [.int .i64 e,.int .u8 D.kind,.int .i64 D.num,.str D.text,.list false (D.names.map b9),.list false (D.vals.map Val.row),pv],.int .i64 (S i),.int .i64 (L i),.int .i64 i]) (m:=5) ⟨rfl,0,Nat.zero_le _,rfl,by rw [hS0.1,hS0.2]; rfl⟩ ?_
 rintro mm fr st' ⟨rfl,i,hi,rfl,rfl⟩
 have hlt:ltI (i:Int) 5=decide (i < 5):=by rw [ltI_eq]; apply decide_eq_decide.2; omega
 simp +contextual -implicitDefEqProofs only [K6,SS,rA,rS,rL,rE,reduceCtorEq,hlt]
 by_cases hil:i < 5
 · obtain ⟨s1,s2⟩:=hS i hil
   simp +contextual -implicitDefEqProofs only [K6,SS,rA,rS,rL,rE,reduceCtorEq,decide_eq_true hil,s1,s2,B6 (show i+1 < 2 ^ 63 by omega)]
   exact WC.next (m':=5 - (i+1)) (by omega) ⟨rfl,i+1,hil,rfl,rfl⟩
 · have e5:i=5:=by omega
   subst e5
   simp +contextual -implicitDefEqProofs only [K6,SS,rA,rS,rL,rE,reduceCtorEq,decide_eq_false hil]
   refine WC.leave ?_
   rcases hfin with ⟨h1,h2⟩|⟨h1,h2,h3,h4⟩
   · simp +contextual -implicitDefEqProofs only [K6,SS,rA,rS,rL,rE,reduceCtorEq,h1,h2,u1,u2,u3,u4,u5,u6,u7]
     exact WC.ret ⟨_,_,rfl,rfl⟩
   · subst h4
     simp +contextual -implicitDefEqProofs only [K6,SS,rA,rS,rL,rE,reduceCtorEq,h1,h2,h3,hln,List.length_nil,show eqI ((0:Nat):Int) 0=true from rfl,u1,u2,u3,u4,u5,u6,u7]
     exact WC.ret ⟨_,_,rfl,rfl⟩
theorem d2o:ofE (e7 1)=e7 1:=by kernel_rfl
theorem c6R:a0p 1=11:=rfl
def sL1 (i:Nat):Nat:=[1,3,5,7,9,11].getD i 0
def lL1 (i:Nat):Nat:=[1,1,1,1,1,1].getD i 0
theorem hL1:∀ i,i < 5→i6 .i64 ((lL1 i:Int)*((1:Nat):Int))=lL1 (i+1)∧i6 .i64 (F4 (sL1 i) (i6 .i64 (2*(lL1 (i+1):Int))))=sL1 (i+1)
 | 0,_=>⟨rfl,rfl⟩
 | 1,_=>⟨rfl,rfl⟩
 | 2,_=>⟨rfl,rfl⟩
 | 3,_=>⟨rfl,rfl⟩
 | 4,_=>⟨rfl,rfl⟩
 | n+5,h=>absurd h (by omega)
theorem c7p (a0:AV):XC tbl a6s10 [a0,.bool false,.int .i64 1,.undef,.undef,.undef,.undef,.undef,.undef,.undef,.undef,.undef,.undef,.undef,.undef] j6 (.normal,[a0,.bool false,.int .i64 1,.list true [],.undef,.undef,.undef,.undef,.undef,.undef,.undef,.undef,.undef,.undef,.undef],j6):=Go.Cb.G.xc_0 (k:=100) (by kernel_rfl)
theorem c9l (a0:AV):XC tbl a6s12 [a0,.bool false,.int .i64 1,.list true [],.undef,.undef,.undef,.undef,.undef,.undef,.undef,.undef,.undef,.undef,.undef] j6 (.normal,[a0,.bool false,.int .i64 1,.list true [],.list true [],.undef,.undef,.undef,.undef,.undef,.undef,.undef,.undef,.undef,.undef],j6):=Go.Cb.G.xc_0 (k:=100) (by kernel_rfl)
theorem c95 (a0:AV):XC tbl a6s26 [a0,.bool false,.int .i64 1,.list true [],.list true [],.undef,.undef,.undef,.undef,.undef,.undef,.undef,.undef,.undef,.undef] j6 (.normal,[a0,.bool false,.int .i64 1,.list true [],.list true ((m8 1).map Val.row),.int .i64 1,.undef,.undef,.undef,.undef,.undef,.undef,.undef,.undef,.undef],j6):=Go.Cb.G.xc_0 (k:=100) (by kernel_rfl)
theorem c9y (a0:AV):XC tbl a6s40 [a0,.bool false,.int .i64 1,.list true [],.list true ((m8 1).map Val.row),.int .i64 1,.undef,.undef,.undef,.undef,.undef,.undef,.undef,.undef,.undef] j6 (.normal,[a0,.bool false,.int .i64 1,.list true ((e7 1).map Ent.row),.list true ((m8 1).map Val.row),.int .i64 1,.int .i64 1,.undef,.undef,.undef,.undef,.undef,.undef,.undef,.undef],j6):=Go.Cb.G.xc_0 (k:=100) (by kernel_rfl)
theorem c3H (n:Int) (hn:0≤n∧n < 256) (hj:n.tmod 8=0):EvQ tbl 6 [.int .u8 n] [] (fun a _=>a=.bool true):=by
 have z8:((8:Int)=0)=False:=by simp
 refine EvQ.body (fn:=a6) rfl rfl rfl ?_
 simp +contextual -implicitDefEqProofs only [K6b,SS,rA,rS,rL,rE,reduceCtorEq]
 refine WC.call R4 rfl rfl ?_
 rintro _ _ ⟨rfl,rfl⟩
 simp +contextual -implicitDefEqProofs only [K6b,SS,rA,rS,rL,rE,reduceCtorEq,Bool.not_true,a0V hn,z8,if_false,Option.map_some,hj,show i6 .i64 (F4 1 0)=1 from rfl]
 refine WC.seqX (c7p _) (WC.seqX (c9l _) (WC.seqX (c95 _) (WC.seqX (c9y _) ?_)))
 unfold a6s76
 simp +contextual -implicitDefEqProofs only [K6b,SS,rA,rS,rL,rE,reduceCtorEq]
 refine WC.call X1 rfl rfl ?_
 rintro _ _ ⟨rfl,rfl⟩
 have hrd:=Q7 a2l
 unfold mo0 tL0 a1T at hrd
 simp +contextual -implicitDefEqProofs only [K6b,SS,rA,rS,rL,rE,reduceCtorEq]
 refine WC.call hrd rfl rfl ?_
 rintro _ st1 ⟨rfl,hg1,_⟩
 simp +contextual -implicitDefEqProofs only [K6b,SS,rA,rS,rL,rE,reduceCtorEq]
 refine WC.call (a2o (e7 1) (by decide) st1) rfl rfl ?_
 rintro _ st2 ⟨v0,rfl,hv0,hg2⟩
 have hs0:=(T3 (e7 1)).1
 rw [d2o] at hv0 hs0
 obtain ⟨w1,w2,w3,w4,w5,w6,w7⟩:=hv0.wk
 have hq:=a2c (d:=dL0) (hg1.trans hg2) hv0 hs0 (by decide) (a0N 1 (by decide)) (R3 (by kernel_rfl))
 obtain ⟨D,hR⟩:=(J5 (v:=v0) hs0).2 (by rw [c6R]; decide)
 rw [hR] at hq
 unfold W7 at hq
 simp +contextual -implicitDefEqProofs only [K6b,SS,rA,rS,rL,rE,reduceCtorEq,w1,w2,w3,w4,w5,w6,w7]
 refine WC.call hq (by simp only [R.allPlain_c,R.allPlain_n,R.plain_agg]; rfl) (by simp only [List.map_cons,List.map_nil,w9,w2]; rfl) ?_
 rintro _ st3 ⟨hg3,pv,rfl,hpv,_,_⟩
 obtain ⟨u1,u2,u3,u4,u5,u6,u7⟩:=hpv.wk
 unfold a1C
 dsimp only at hpv ⊢
 simp +contextual -implicitDefEqProofs only [K6b,SS,rA,rS,rL,rE,reduceCtorEq,u1,u2,u3,u4,u5,u6,u7]
 exact J3 (S:=sL1) (L:=lL1) (k:=1) hL1 ⟨rfl,rfl⟩ (.inr ⟨rfl,rfl,rfl,rfl⟩) hpv
theorem d3W:ofE (e7 2)=e7 2:=by kernel_rfl
theorem c6Q:a0p 2=125:=rfl
def sL2 (i:Nat):Nat:=[1,5,13,29,61,125].getD i 0
def lL2 (i:Nat):Nat:=[1,2,4,8,16,32].getD i 0
theorem hL2:∀ i,i < 5→i6 .i64 ((lL2 i:Int)*((2:Nat):Int))=lL2 (i+1)∧i6 .i64 (F4 (sL2 i) (i6 .i64 (2*(lL2 (i+1):Int))))=sL2 (i+1)
 | 0,_=>⟨rfl,rfl⟩
 | 1,_=>⟨rfl,rfl⟩
 | 2,_=>⟨rfl,rfl⟩
 | 3,_=>⟨rfl,rfl⟩
 | 4,_=>⟨rfl,rfl⟩
 | n+5,h=>absurd h (by omega)
theorem c6K (a0:AV):XC tbl a6s10 [a0,.bool false,.int .i64 2,.undef,.undef,.undef,.undef,.undef,.undef,.undef,.undef,.undef,.undef,.undef,.undef] j6 (.normal,[a0,.bool false,.int .i64 2,.list true [],.undef,.undef,.undef,.undef,.undef,.undef,.undef,.undef,.undef,.undef,.undef],j6):=Go.Cb.G.xc_0 (k:=100) (by kernel_rfl)
theorem c8t (a0:AV):XC tbl a6s12 [a0,.bool false,.int .i64 2,.list true [],.undef,.undef,.undef,.undef,.undef,.undef,.undef,.undef,.undef,.undef,.undef] j6 (.normal,[a0,.bool false,.int .i64 2,.list true [],.list true [],.undef,.undef,.undef,.undef,.undef,.undef,.undef,.undef,.undef,.undef],j6):=Go.Cb.G.xc_0 (k:=100) (by kernel_rfl)
theorem c6A (a0:AV):XC tbl a6s26 [a0,.bool false,.int .i64 2,.list true [],.list true [],.undef,.undef,.undef,.undef,.undef,.undef,.undef,.undef,.undef,.undef] j6 (.normal,[a0,.bool false,.int .i64 2,.list true [],.list true ((m8 2).map Val.row),.int .i64 2,.undef,.undef,.undef,.undef,.undef,.undef,.undef,.undef,.undef],j6):=Go.Cb.G.xc_0 (k:=100) (by kernel_rfl)
theorem c8j (a0:AV):XC tbl a6s40 [a0,.bool false,.int .i64 2,.list true [],.list true ((m8 2).map Val.row),.int .i64 2,.undef,.undef,.undef,.undef,.undef,.undef,.undef,.undef,.undef] j6 (.normal,[a0,.bool false,.int .i64 2,.list true ((e7 2).map Ent.row),.list true ((m8 2).map Val.row),.int .i64 2,.int .i64 2,.undef,.undef,.undef,.undef,.undef,.undef,.undef,.undef],j6):=Go.Cb.G.xc_0 (k:=100) (by kernel_rfl)
theorem c3E (n:Int) (hn:0≤n∧n < 256) (hj:n.tmod 8=1):EvQ tbl 6 [.int .u8 n] [] (fun a _=>a=.bool true):=by
 have z8:((8:Int)=0)=False:=by simp
 refine EvQ.body (fn:=a6) rfl rfl rfl ?_
 simp +contextual -implicitDefEqProofs only [K6b,SS,rA,rS,rL,rE,reduceCtorEq]
 refine WC.call R4 rfl rfl ?_
 rintro _ _ ⟨rfl,rfl⟩
 simp +contextual -implicitDefEqProofs only [K6b,SS,rA,rS,rL,rE,reduceCtorEq,Bool.not_true,a0V hn,z8,if_false,Option.map_some,hj,show i6 .i64 (F4 1 1)=2 from rfl]
 refine WC.seqX (c6K _) (WC.seqX (c8t _) (WC.seqX (c6A _) (WC.seqX (c8j _) ?_)))
 unfold a6s76
 simp +contextual -implicitDefEqProofs only [K6b,SS,rA,rS,rL,rE,reduceCtorEq]
 refine WC.call X1 rfl rfl ?_
 rintro _ _ ⟨rfl,rfl⟩
 have hrd:=Q7 a2l
 unfold mo0 tL0 a1T at hrd
 simp +contextual -implicitDefEqProofs only [K6b,SS,rA,rS,rL,rE,reduceCtorEq]
 refine WC.call hrd rfl rfl ?_
 rintro _ st1 ⟨rfl,hg1,_⟩
 simp +contextual -implicitDefEqProofs only [K6b,SS,rA,rS,rL,rE,reduceCtorEq]
 refine WC.call (a2o (e7 2) (by decide) st1) rfl rfl ?_
 rintro _ st2 ⟨v0,rfl,hv0,hg2⟩
 have hs0:=(T3 (e7 2)).1
 rw [d3W] at hv0 hs0
 obtain ⟨w1,w2,w3,w4,w5,w6,w7⟩:=hv0.wk
 have hq:=a2c (d:=dL0) (hg1.trans hg2) hv0 hs0 (by decide) (a0N 2 (by decide)) (R3 (by kernel_rfl))
 obtain ⟨D,hR⟩:=(J5 (v:=v0) hs0).2 (by rw [c6Q]; decide)
 rw [hR] at hq
 unfold W7 at hq
 simp +contextual -implicitDefEqProofs only [K6b,SS,rA,rS,rL,rE,reduceCtorEq,w1,w2,w3,w4,w5,w6,w7]
 refine WC.call hq (by simp only [R.allPlain_c,R.allPlain_n,R.plain_agg]; rfl) (by simp only [List.map_cons,List.map_nil,w9,w2]; rfl) ?_
 rintro _ st3 ⟨hg3,pv,rfl,hpv,_,_⟩
 obtain ⟨u1,u2,u3,u4,u5,u6,u7⟩:=hpv.wk
 unfold a1C
 dsimp only at hpv ⊢
 simp +contextual -implicitDefEqProofs only [K6b,SS,rA,rS,rL,rE,reduceCtorEq,u1,u2,u3,u4,u5,u6,u7]
 exact J3 (S:=sL2) (L:=lL2) (k:=2) hL2 ⟨rfl,rfl⟩ (.inr ⟨rfl,rfl,rfl,rfl⟩) hpv
theorem d2B:ofE (e7 3)=e7 3:=by kernel_rfl
theorem d0R:a0p 3=727:=rfl
def sL3 (i:Nat):Nat:=[1,7,25,79,241,727].getD i 0
def lL3 (i:Nat):Nat:=[1,3,9,27,81,243].getD i 0
theorem hL3:∀ i,i < 5→i6 .i64 ((lL3 i:Int)*((3:Nat):Int))=lL3 (i+1)∧i6 .i64 (F4 (sL3 i) (i6 .i64 (2*(lL3 (i+1):Int))))=sL3 (i+1)
 | 0,_=>⟨rfl,rfl⟩
 | 1,_=>⟨rfl,rfl⟩
 | 2,_=>⟨rfl,rfl⟩
 | 3,_=>⟨rfl,rfl⟩
 | 4,_=>⟨rfl,rfl⟩
 | n+5,h=>absurd h (by omega)
theorem d0p (a0:AV):XC tbl a6s10 [a0,.bool false,.int .i64 3,.undef,.undef,.undef,.undef,.undef,.undef,.undef,.undef,.undef,.undef,.undef,.undef] j6 (.normal,[a0,.bool false,.int .i64 3,.list true [],.undef,.undef,.undef,.undef,.undef,.undef,.undef,.undef,.undef,.undef,.undef],j6):=Go.Cb.G.xc_0 (k:=100) (by kernel_rfl)
theorem c6T (a0:AV):XC tbl a6s12 [a0,.bool false,.int .i64 3,.list true [],.undef,.undef,.undef,.undef,.undef,.undef,.undef,.undef,.undef,.undef,.undef] j6 (.normal,[a0,.bool false,.int .i64 3,.list true [],.list true [],.undef,.undef,.undef,.undef,.undef,.undef,.undef,.undef,.undef,.undef],j6):=Go.Cb.G.xc_0 (k:=100) (by kernel_rfl)
theorem c8y (a0:AV):XC tbl a6s26 [a0,.bool false,.int .i64 3,.list true [],.list true [],.undef,.undef,.undef,.undef,.undef,.undef,.undef,.undef,.undef,.undef] j6 (.normal,[a0,.bool false,.int .i64 3,.list true [],.list true ((m8 3).map Val.row),.int .i64 3,.undef,.undef,.undef,.undef,.undef,.undef,.undef,.undef,.undef],j6):=Go.Cb.G.xc_0 (k:=100) (by kernel_rfl)
theorem c5B (a0:AV):XC tbl a6s40 [a0,.bool false,.int .i64 3,.list true [],.list true ((m8 3).map Val.row),.int .i64 3,.undef,.undef,.undef,.undef,.undef,.undef,.undef,.undef,.undef] j6 (.normal,[a0,.bool false,.int .i64 3,.list true ((e7 3).map Ent.row),.list true ((m8 3).map Val.row),.int .i64 3,.int .i64 3,.undef,.undef,.undef,.undef,.undef,.undef,.undef,.undef],j6):=Go.Cb.G.xc_0 (k:=100) (by kernel_rfl)
theorem c2R (n:Int) (hn:0≤n∧n < 256) (hj:n.tmod 8=2):EvQ tbl 6 [.int .u8 n] [] (fun a _=>a=.bool true):=by
 have z8:((8:Int)=0)=False:=by simp
 refine EvQ.body (fn:=a6) rfl rfl rfl ?_
 simp +contextual -implicitDefEqProofs only [K6b,SS,rA,rS,rL,rE,reduceCtorEq]
 refine WC.call R4 rfl rfl ?_
 rintro _ _ ⟨rfl,rfl⟩
 simp +contextual -implicitDefEqProofs only [K6b,SS,rA,rS,rL,rE,reduceCtorEq,Bool.not_true,a0V hn,z8,if_false,Option.map_some,hj,show i6 .i64 (F4 1 2)=3 from rfl]
 refine WC.seqX (d0p _) (WC.seqX (c6T _) (WC.seqX (c8y _) (WC.seqX (c5B _) ?_)))
 unfold a6s76
 simp +contextual -implicitDefEqProofs only [K6b,SS,rA,rS,rL,rE,reduceCtorEq]
 refine WC.call X1 rfl rfl ?_
 rintro _ _ ⟨rfl,rfl⟩
 have hrd:=Q7 a2l
 unfold mo0 tL0 a1T at hrd
 simp +contextual -implicitDefEqProofs only [K6b,SS,rA,rS,rL,rE,reduceCtorEq]
 refine WC.call hrd rfl rfl ?_
 rintro _ st1 ⟨rfl,hg1,_⟩
 simp +contextual -implicitDefEqProofs only [K6b,SS,rA,rS,rL,rE,reduceCtorEq]
 refine WC.call (a2o (e7 3) (by decide) st1) rfl rfl ?_
 rintro _ st2 ⟨v0,rfl,hv0,hg2⟩
 have hs0:=(T3 (e7 3)).1
 rw [d2B] at hv0 hs0
 obtain ⟨w1,w2,w3,w4,w5,w6,w7⟩:=hv0.wk
 have hq:=a2c (d:=dL0) (hg1.trans hg2) hv0 hs0 (by decide) (a0N 3 (by decide)) (R3 (by kernel_rfl))
 obtain ⟨D,hR⟩:=(J5 (v:=v0) hs0).2 (by rw [d0R]; decide)
 rw [hR] at hq
 unfold W7 at hq
 simp +contextual -implicitDefEqProofs only [K6b,SS,rA,rS,rL,rE,reduceCtorEq,w1,w2,w3,w4,w5,w6,w7]
 refine WC.call hq (by simp only [R.allPlain_c,R.allPlain_n,R.plain_agg]; rfl) (by simp only [List.map_cons,List.map_nil,w9,w2]; rfl) ?_
 rintro _ st3 ⟨hg3,pv,rfl,hpv,_,_⟩
 obtain ⟨u1,u2,u3,u4,u5,u6,u7⟩:=hpv.wk
 unfold a1C
 dsimp only at hpv ⊢
 simp +contextual -implicitDefEqProofs only [K6b,SS,rA,rS,rL,rE,reduceCtorEq,u1,u2,u3,u4,u5,u6,u7]
 exact J3 (S:=sL3) (L:=lL3) (k:=3) hL3 ⟨rfl,rfl⟩ (.inr ⟨rfl,rfl,rfl,rfl⟩) hpv
theorem d38:ofE (e7 4)=e7 4:=by kernel_rfl
theorem d0d:a0p 4=2729:=rfl
def sL4 (i:Nat):Nat:=[1,9,41,169,681,2729].getD i 0
def lL4 (i:Nat):Nat:=[1,4,16,64,256,1024].getD i 0
theorem hL4:∀ i,i < 5→i6 .i64 ((lL4 i:Int)*((4:Nat):Int))=lL4 (i+1)∧i6 .i64 (F4 (sL4 i) (i6 .i64 (2*(lL4 (i+1):Int))))=sL4 (i+1)
 | 0,_=>⟨rfl,rfl⟩
 | 1,_=>⟨rfl,rfl⟩
 | 2,_=>⟨rfl,rfl⟩
 | 3,_=>⟨rfl,rfl⟩
 | 4,_=>⟨rfl,rfl⟩
 | n+5,h=>absurd h (by omega)
theorem d1c (a0:AV):XC tbl a6s10 [a0,.bool false,.int .i64 4,.undef,.undef,.undef,.undef,.undef,.undef,.undef,.undef,.undef,.undef,.undef,.undef] j6 (.normal,[a0,.bool false,.int .i64 4,.list true [],.undef,.undef,.undef,.undef,.undef,.undef,.undef,.undef,.undef,.undef,.undef],j6):=Go.Cb.G.xc_0 (k:=100) (by kernel_rfl)
theorem c9E (a0:AV):XC tbl a6s12 [a0,.bool false,.int .i64 4,.list true [],.undef,.undef,.undef,.undef,.undef,.undef,.undef,.undef,.undef,.undef,.undef] j6 (.normal,[a0,.bool false,.int .i64 4,.list true [],.list true [],.undef,.undef,.undef,.undef,.undef,.undef,.undef,.undef,.undef,.undef],j6):=Go.Cb.G.xc_0 (k:=100) (by kernel_rfl)
theorem c6g (a0:AV):XC tbl a6s26 [a0,.bool false,.int .i64 4,.list true [],.list true [],.undef,.undef,.undef,.undef,.undef,.undef,.undef,.undef,.undef,.undef] j6 (.normal,[a0,.bool false,.int .i64 4,.list true [],.list true ((m8 4).map Val.row),.int .i64 4,.undef,.undef,.undef,.undef,.undef,.undef,.undef,.undef,.undef],j6):=Go.Cb.G.xc_0 (k:=100) (by kernel_rfl)
theorem c6O (a0:AV):XC tbl a6s40 [a0,.bool false,.int .i64 4,.list true [],.list true ((m8 4).map Val.row),.int .i64 4,.undef,.undef,.undef,.undef,.undef,.undef,.undef,.undef,.undef] j6 (.normal,[a0,.bool false,.int .i64 4,.list true ((e7 4).map Ent.row),.list true ((m8 4).map Val.row),.int .i64 4,.int .i64 4,.undef,.undef,.undef,.undef,.undef,.undef,.undef,.undef],j6):=Go.Cb.G.xc_0 (k:=100) (by kernel_rfl)
theorem c3v (n:Int) (hn:0≤n∧n < 256) (hj:n.tmod 8=3):EvQ tbl 6 [.int .u8 n] [] (fun a _=>a=.bool true):=by
 have z8:((8:Int)=0)=False:=by simp
 refine EvQ.body (fn:=a6) rfl rfl rfl ?_
 simp +contextual -implicitDefEqProofs only [K6b,SS,rA,rS,rL,rE,reduceCtorEq]
 refine WC.call R4 rfl rfl ?_
 rintro _ _ ⟨rfl,rfl⟩
 simp +contextual -implicitDefEqProofs only [K6b,SS,rA,rS,rL,rE,reduceCtorEq,Bool.not_true,a0V hn,z8,if_false,Option.map_some,hj,show i6 .i64 (F4 1 3)=4 from rfl]
 refine WC.seqX (d1c _) (WC.seqX (c9E _) (WC.seqX (c6g _) (WC.seqX (c6O _) ?_)))
 unfold a6s76
 simp +contextual -implicitDefEqProofs only [K6b,SS,rA,rS,rL,rE,reduceCtorEq]
 refine WC.call X1 rfl rfl ?_
 rintro _ _ ⟨rfl,rfl⟩
 have hrd:=Q7 a2l
 unfold mo0 tL0 a1T at hrd
 simp +contextual -implicitDefEqProofs only [K6b,SS,rA,rS,rL,rE,reduceCtorEq]
 refine WC.call hrd rfl rfl ?_
 rintro _ st1 ⟨rfl,hg1,_⟩
 simp +contextual -implicitDefEqProofs only [K6b,SS,rA,rS,rL,rE,reduceCtorEq]
 refine WC.call (a2o (e7 4) (by decide) st1) rfl rfl ?_
 rintro _ st2 ⟨v0,rfl,hv0,hg2⟩
 have hs0:=(T3 (e7 4)).1
 rw [d38] at hv0 hs0
 obtain ⟨w1,w2,w3,w4,w5,w6,w7⟩:=hv0.wk
 have hq:=a2c (d:=dL0) (hg1.trans hg2) hv0 hs0 (by decide) (a0N 4 (by decide)) (R3 (by kernel_rfl))
 obtain ⟨D,hR⟩:=(J5 (v:=v0) hs0).2 (by rw [d0d]; decide)
 rw [hR] at hq
 unfold W7 at hq
 simp +contextual -implicitDefEqProofs only [K6b,SS,rA,rS,rL,rE,reduceCtorEq,w1,w2,w3,w4,w5,w6,w7]
 refine WC.call hq (by simp only [R.allPlain_c,R.allPlain_n,R.plain_agg]; rfl) (by simp only [List.map_cons,List.map_nil,w9,w2]; rfl) ?_
 rintro _ st3 ⟨hg3,pv,rfl,hpv,_,_⟩
 obtain ⟨u1,u2,u3,u4,u5,u6,u7⟩:=hpv.wk
 unfold a1C
 dsimp only at hpv ⊢
 simp +contextual -implicitDefEqProofs only [K6b,SS,rA,rS,rL,rE,reduceCtorEq,u1,u2,u3,u4,u5,u6,u7]
 exact J3 (S:=sL4) (L:=lL4) (k:=4) hL4 ⟨rfl,rfl⟩ (.inr ⟨rfl,rfl,rfl,rfl⟩) hpv
theorem d40:ofE (e7 5)=e7 5:=by kernel_rfl
theorem c7s:a0p 5=7811:=rfl
def sL5 (i:Nat):Nat:=[1,11,61,311,1561,7811].getD i 0
def lL5 (i:Nat):Nat:=[1,5,25,125,625,3125].getD i 0
theorem hL5:∀ i,i < 5→i6 .i64 ((lL5 i:Int)*((5:Nat):Int))=lL5 (i+1)∧i6 .i64 (F4 (sL5 i) (i6 .i64 (2*(lL5 (i+1):Int))))=sL5 (i+1)
 | 0,_=>⟨rfl,rfl⟩
 | 1,_=>⟨rfl,rfl⟩
 | 2,_=>⟨rfl,rfl⟩
 | 3,_=>⟨rfl,rfl⟩
 | 4,_=>⟨rfl,rfl⟩
 | n+5,h=>absurd h (by omega)
theorem c8n (a0:AV):XC tbl a6s10 [a0,.bool false,.int .i64 5,.undef,.undef,.undef,.undef,.undef,.undef,.undef,.undef,.undef,.undef,.undef,.undef] j6 (.normal,[a0,.bool false,.int .i64 5,.list true [],.undef,.undef,.undef,.undef,.undef,.undef,.undef,.undef,.undef,.undef,.undef],j6):=Go.Cb.G.xc_0 (k:=100) (by kernel_rfl)
theorem c5S (a0:AV):XC tbl a6s12 [a0,.bool false,.int .i64 5,.list true [],.undef,.undef,.undef,.undef,.undef,.undef,.undef,.undef,.undef,.undef,.undef] j6 (.normal,[a0,.bool false,.int .i64 5,.list true [],.list true [],.undef,.undef,.undef,.undef,.undef,.undef,.undef,.undef,.undef,.undef],j6):=Go.Cb.G.xc_0 (k:=100) (by kernel_rfl)
theorem c7b (a0:AV):XC tbl a6s26 [a0,.bool false,.int .i64 5,.list true [],.list true [],.undef,.undef,.undef,.undef,.undef,.undef,.undef,.undef,.undef,.undef] j6 (.normal,[a0,.bool false,.int .i64 5,.list true [],.list true ((m8 5).map Val.row),.int .i64 5,.undef,.undef,.undef,.undef,.undef,.undef,.undef,.undef,.undef],j6):=Go.Cb.G.xc_0 (k:=100) (by kernel_rfl)
theorem c6D (a0:AV):XC tbl a6s40 [a0,.bool false,.int .i64 5,.list true [],.list true ((m8 5).map Val.row),.int .i64 5,.undef,.undef,.undef,.undef,.undef,.undef,.undef,.undef,.undef] j6 (.normal,[a0,.bool false,.int .i64 5,.list true ((e7 5).map Ent.row),.list true ((m8 5).map Val.row),.int .i64 5,.int .i64 5,.undef,.undef,.undef,.undef,.undef,.undef,.undef,.undef],j6):=Go.Cb.G.xc_0 (k:=100) (by kernel_rfl)
theorem c4H (n:Int) (hn:0≤n∧n < 256) (hj:n.tmod 8=4):EvQ tbl 6 [.int .u8 n] [] (fun a _=>a=.bool true):=by
 have z8:((8:Int)=0)=False:=by simp
 refine EvQ.body (fn:=a6) rfl rfl rfl ?_
 simp +contextual -implicitDefEqProofs only [K6b,SS,rA,rS,rL,rE,reduceCtorEq]
 refine WC.call R4 rfl rfl ?_
 rintro _ _ ⟨rfl,rfl⟩
 simp +contextual -implicitDefEqProofs only [K6b,SS,rA,rS,rL,rE,reduceCtorEq,Bool.not_true,a0V hn,z8,if_false,Option.map_some,hj,show i6 .i64 (F4 1 4)=5 from rfl]
 refine WC.seqX (c8n _) (WC.seqX (c5S _) (WC.seqX (c7b _) (WC.seqX (c6D _) ?_)))
 unfold a6s76
 simp +contextual -implicitDefEqProofs only [K6b,SS,rA,rS,rL,rE,reduceCtorEq]
 refine WC.call X1 rfl rfl ?_
 rintro _ _ ⟨rfl,rfl⟩
 have hrd:=Q7 a2l
 unfold mo0 tL0 a1T at hrd
 simp +contextual -implicitDefEqProofs only [K6b,SS,rA,rS,rL,rE,reduceCtorEq]
 refine WC.call hrd rfl rfl ?_
 rintro _ st1 ⟨rfl,hg1,_⟩
 simp +contextual -implicitDefEqProofs only [K6b,SS,rA,rS,rL,rE,reduceCtorEq]
 refine WC.call (a2o (e7 5) (by decide) st1) rfl rfl ?_
 rintro _ st2 ⟨v0,rfl,hv0,hg2⟩
 have hs0:=(T3 (e7 5)).1
 rw [d40] at hv0 hs0
 obtain ⟨w1,w2,w3,w4,w5,w6,w7⟩:=hv0.wk
 have hq:=a2c (d:=dL0) (hg1.trans hg2) hv0 hs0 (by decide) (a0N 5 (by decide)) (R3 (by kernel_rfl))
 rw [(J5 (v:=v0) hs0).1 (by rw [c7s]; decide)] at hq
 unfold W7 at hq
 simp +contextual -implicitDefEqProofs only [K6b,SS,rA,rS,rL,rE,reduceCtorEq,w1,w2,w3,w4,w5,w6,w7]
 refine WC.call hq (by simp only [R.allPlain_c,R.allPlain_n,R.plain_agg]; rfl) (by simp only [List.map_cons,List.map_nil,w9,w2]; rfl) ?_
 rintro _ st3 ⟨hg3,pv,rfl,hpv,_,_⟩
 obtain ⟨u1,u2,u3,u4,u5,u6,u7⟩:=hpv.wk
 unfold a1C
 dsimp only at hpv ⊢
 simp +contextual -implicitDefEqProofs only [K6b,SS,rA,rS,rL,rE,reduceCtorEq,u1,u2,u3,u4,u5,u6,u7]
 exact J3 (S:=sL5) (L:=lL5) (k:=5) hL5 ⟨rfl,rfl⟩ (.inl ⟨rfl,rfl⟩) hpv
theorem d2b:ofE (e7 6)=e7 6:=by kernel_rfl
theorem c9c:a0p 6=18661:=rfl
def sL6 (i:Nat):Nat:=[1,13,85,517,3109,18661].getD i 0
def lL6 (i:Nat):Nat:=[1,6,36,216,1296,7776].getD i 0
theorem hL6:∀ i,i < 5→i6 .i64 ((lL6 i:Int)*((6:Nat):Int))=lL6 (i+1)∧i6 .i64 (F4 (sL6 i) (i6 .i64 (2*(lL6 (i+1):Int))))=sL6 (i+1)
 | 0,_=>⟨rfl,rfl⟩
 | 1,_=>⟨rfl,rfl⟩
 | 2,_=>⟨rfl,rfl⟩
 | 3,_=>⟨rfl,rfl⟩
 | 4,_=>⟨rfl,rfl⟩
 | n+5,h=>absurd h (by omega)
theorem c9S (a0:AV):XC tbl a6s10 [a0,.bool false,.int .i64 6,.undef,.undef,.undef,.undef,.undef,.undef,.undef,.undef,.undef,.undef,.undef,.undef] j6 (.normal,[a0,.bool false,.int .i64 6,.list true [],.undef,.undef,.undef,.undef,.undef,.undef,.undef,.undef,.undef,.undef,.undef],j6):=Go.Cb.G.xc_0 (k:=100) (by kernel_rfl)
theorem d0h (a0:AV):XC tbl a6s12 [a0,.bool false,.int .i64 6,.list true [],.undef,.undef,.undef,.undef,.undef,.undef,.undef,.undef,.undef,.undef,.undef] j6 (.normal,[a0,.bool false,.int .i64 6,.list true [],.list true [],.undef,.undef,.undef,.undef,.undef,.undef,.undef,.undef,.undef,.undef],j6):=Go.Cb.G.xc_0 (k:=100) (by kernel_rfl)
theorem c8V (a0:AV):XC tbl a6s26 [a0,.bool false,.int .i64 6,.list true [],.list true [],.undef,.undef,.undef,.undef,.undef,.undef,.undef,.undef,.undef,.undef] j6 (.normal,[a0,.bool false,.int .i64 6,.list true [],.list true ((m8 6).map Val.row),.int .i64 6,.undef,.undef,.undef,.undef,.undef,.undef,.undef,.undef,.undef],j6):=Go.Cb.G.xc_0 (k:=100) (by kernel_rfl)
theorem c8J (a0:AV):XC tbl a6s40 [a0,.bool false,.int .i64 6,.list true [],.list true ((m8 6).map Val.row),.int .i64 6,.undef,.undef,.undef,.undef,.undef,.undef,.undef,.undef,.undef] j6 (.normal,[a0,.bool false,.int .i64 6,.list true ((e7 6).map Ent.row),.list true ((m8 6).map Val.row),.int .i64 6,.int .i64 6,.undef,.undef,.undef,.undef,.undef,.undef,.undef,.undef],j6):=Go.Cb.G.xc_0 (k:=100) (by kernel_rfl)
theorem c2D (n:Int) (hn:0≤n∧n < 256) (hj:n.tmod 8=5):EvQ tbl 6 [.int .u8 n] [] (fun a _=>a=.bool true):=by
 have z8:((8:Int)=0)=False:=by simp
 refine EvQ.body (fn:=a6) rfl rfl rfl ?_
 simp +contextual -implicitDefEqProofs only [K6b,SS,rA,rS,rL,rE,reduceCtorEq]
 refine WC.call R4 rfl rfl ?_
 rintro _ _ ⟨rfl,rfl⟩
 simp +contextual -implicitDefEqProofs only [K6b,SS,rA,rS,rL,rE,reduceCtorEq,Bool.not_true,a0V hn,z8,if_false,Option.map_some,hj,show i6 .i64 (F4 1 5)=6 from rfl]
 refine WC.seqX (c9S _) (WC.seqX (d0h _) (WC.seqX (c8V _) (WC.seqX (c8J _) ?_)))
 unfold a6s76
 simp +contextual -implicitDefEqProofs only [K6b,SS,rA,rS,rL,rE,reduceCtorEq]
 refine WC.call X1 rfl rfl ?_
 rintro _ _ ⟨rfl,rfl⟩
 have hrd:=Q7 a2l
 unfold mo0 tL0 a1T at hrd
 simp +contextual -implicitDefEqProofs only [K6b,SS,rA,rS,rL,rE,reduceCtorEq]
 refine WC.call hrd rfl rfl ?_
 rintro _ st1 ⟨rfl,hg1,_⟩
 simp +contextual -implicitDefEqProofs only [K6b,SS,rA,rS,rL,rE,reduceCtorEq]
 refine WC.call (a2o (e7 6) (by decide) st1) rfl rfl ?_
 rintro _ st2 ⟨v0,rfl,hv0,hg2⟩
 have hs0:=(T3 (e7 6)).1
 rw [d2b] at hv0 hs0
 obtain ⟨w1,w2,w3,w4,w5,w6,w7⟩:=hv0.wk
 have hq:=a2c (d:=dL0) (hg1.trans hg2) hv0 hs0 (by decide) (a0N 6 (by decide)) (R3 (by kernel_rfl))
 rw [(J5 (v:=v0) hs0).1 (by rw [c9c]; decide)] at hq
 unfold W7 at hq
 simp +contextual -implicitDefEqProofs only [K6b,SS,rA,rS,rL,rE,reduceCtorEq,w1,w2,w3,w4,w5,w6,w7]
 refine WC.call hq (by simp only [R.allPlain_c,R.allPlain_n,R.plain_agg]; rfl) (by simp only [List.map_cons,List.map_nil,w9,w2]; rfl) ?_
 rintro _ st3 ⟨hg3,pv,rfl,hpv,_,_⟩
 obtain ⟨u1,u2,u3,u4,u5,u6,u7⟩:=hpv.wk
 unfold a1C
 dsimp only at hpv ⊢
 simp +contextual -implicitDefEqProofs only [K6b,SS,rA,rS,rL,rE,reduceCtorEq,u1,u2,u3,u4,u5,u6,u7]
 exact J3 (S:=sL6) (L:=lL6) (k:=6) hL6 ⟨rfl,rfl⟩ (.inl ⟨rfl,rfl⟩) hpv
theorem d1D:ofE (e7 7)=e7 7:=by kernel_rfl
theorem c9R:a0p 7=39215:=rfl
def sL7 (i:Nat):Nat:=[1,15,113,799,5601,39215].getD i 0
def lL7 (i:Nat):Nat:=[1,7,49,343,2401,16807].getD i 0
theorem hL7:∀ i,i < 5→i6 .i64 ((lL7 i:Int)*((7:Nat):Int))=lL7 (i+1)∧i6 .i64 (F4 (sL7 i) (i6 .i64 (2*(lL7 (i+1):Int))))=sL7 (i+1)
 | 0,_=>⟨rfl,rfl⟩
 | 1,_=>⟨rfl,rfl⟩
 | 2,_=>⟨rfl,rfl⟩
 | 3,_=>⟨rfl,rfl⟩
 | 4,_=>⟨rfl,rfl⟩
 | n+5,h=>absurd h (by omega)
theorem c9H (a0:AV):XC tbl a6s10 [a0,.bool false,.int .i64 7,.undef,.undef,.undef,.undef,.undef,.undef,.undef,.undef,.undef,.undef,.undef,.undef] j6 (.normal,[a0,.bool false,.int .i64 7,.list true [],.undef,.undef,.undef,.undef,.undef,.undef,.undef,.undef,.undef,.undef,.undef],j6):=Go.Cb.G.xc_0 (k:=100) (by kernel_rfl)
theorem c9h (a0:AV):XC tbl a6s12 [a0,.bool false,.int .i64 7,.list true [],.undef,.undef,.undef,.undef,.undef,.undef,.undef,.undef,.undef,.undef,.undef] j6 (.normal,[a0,.bool false,.int .i64 7,.list true [],.list true [],.undef,.undef,.undef,.undef,.undef,.undef,.undef,.undef,.undef,.undef],j6):=Go.Cb.G.xc_0 (k:=100) (by kernel_rfl)
theorem c7v (a0:AV):XC tbl a6s26 [a0,.bool false,.int .i64 7,.list true [],.list true [],.undef,.undef,.undef,.undef,.undef,.undef,.undef,.undef,.undef,.undef] j6 (.normal,[a0,.bool false,.int .i64 7,.list true [],.list true ((m8 7).map Val.row),.int .i64 7,.undef,.undef,.undef,.undef,.undef,.undef,.undef,.undef,.undef],j6):=Go.Cb.G.xc_0 (k:=100) (by kernel_rfl)
theorem c66 (a0:AV):XC tbl a6s40 [a0,.bool false,.int .i64 7,.list true [],.list true ((m8 7).map Val.row),.int .i64 7,.undef,.undef,.undef,.undef,.undef,.undef,.undef,.undef,.undef] j6 (.normal,[a0,.bool false,.int .i64 7,.list true ((e7 7).map Ent.row),.list true ((m8 7).map Val.row),.int .i64 7,.int .i64 7,.undef,.undef,.undef,.undef,.undef,.undef,.undef,.undef],j6):=Go.Cb.G.xc_0 (k:=100) (by kernel_rfl)
theorem c2G (n:Int) (hn:0≤n∧n < 256) (hj:n.tmod 8=6):EvQ tbl 6 [.int .u8 n] [] (fun a _=>a=.bool true):=by
 have z8:((8:Int)=0)=False:=by simp
 refine EvQ.body (fn:=a6) rfl rfl rfl ?_
 simp +contextual -implicitDefEqProofs only [K6b,SS,rA,rS,rL,rE,reduceCtorEq]
 refine WC.call R4 rfl rfl ?_
 rintro _ _ ⟨rfl,rfl⟩
 simp +contextual -implicitDefEqProofs only [K6b,SS,rA,rS,rL,rE,reduceCtorEq,Bool.not_true,a0V hn,z8,if_false,Option.map_some,hj,show i6 .i64 (F4 1 6)=7 from rfl]
 refine WC.seqX (c9H _) (WC.seqX (c9h _) (WC.seqX (c7v _) (WC.seqX (c66 _) ?_)))
 unfold a6s76
 simp +contextual -implicitDefEqProofs only [K6b,SS,rA,rS,rL,rE,reduceCtorEq]
 refine WC.call X1 rfl rfl ?_
 rintro _ _ ⟨rfl,rfl⟩
 have hrd:=Q7 a2l
 unfold mo0 tL0 a1T at hrd
 simp +contextual -implicitDefEqProofs only [K6b,SS,rA,rS,rL,rE,reduceCtorEq]
 refine WC.call hrd rfl rfl ?_
 rintro _ st1 ⟨rfl,hg1,_⟩
 simp +contextual -implicitDefEqProofs only [K6b,SS,rA,rS,rL,rE,reduceCtorEq]
 refine WC.call (a2o (e7 7) (by decide) st1) rfl rfl ?_
 rintro _ st2 ⟨v0,rfl,hv0,hg2⟩
 have hs0:=(T3 (e7 7)).1
 rw [d1D] at hv0 hs0
 obtain ⟨w1,w2,w3,w4,w5,w6,w7⟩:=hv0.wk
 have hq:=a2c (d:=dL0) (hg1.trans hg2) hv0 hs0 (by decide) (a0N 7 (by decide)) (R3 (by kernel_rfl))
 rw [(J5 (v:=v0) hs0).1 (by rw [c9R]; decide)] at hq
 unfold W7 at hq
 simp +contextual -implicitDefEqProofs only [K6b,SS,rA,rS,rL,rE,reduceCtorEq,w1,w2,w3,w4,w5,w6,w7]
 refine WC.call hq (by simp only [R.allPlain_c,R.allPlain_n,R.plain_agg]; rfl) (by simp only [List.map_cons,List.map_nil,w9,w2]; rfl) ?_
 rintro _ st3 ⟨hg3,pv,rfl,hpv,_,_⟩
 obtain ⟨u1,u2,u3,u4,u5,u6,u7⟩:=hpv.wk
 unfold a1C
 dsimp only at hpv ⊢
 simp +contextual -implicitDefEqProofs only [K6b,SS,rA,rS,rL,rE,reduceCtorEq,u1,u2,u3,u4,u5,u6,u7]
 exact J3 (S:=sL7) (L:=lL7) (k:=7) hL7 ⟨rfl,rfl⟩ (.inl ⟨rfl,rfl⟩) hpv
theorem d3s:ofE (e7 8)=e7 8:=by kernel_rfl
theorem c8R:a0p 8=74897:=rfl
def sL8 (i:Nat):Nat:=[1,17,145,1169,9361,74897].getD i 0
def lL8 (i:Nat):Nat:=[1,8,64,512,4096,32768].getD i 0
theorem hL8:∀ i,i < 5→i6 .i64 ((lL8 i:Int)*((8:Nat):Int))=lL8 (i+1)∧i6 .i64 (F4 (sL8 i) (i6 .i64 (2*(lL8 (i+1):Int))))=sL8 (i+1)
 | 0,_=>⟨rfl,rfl⟩
 | 1,_=>⟨rfl,rfl⟩
 | 2,_=>⟨rfl,rfl⟩
 | 3,_=>⟨rfl,rfl⟩
 | 4,_=>⟨rfl,rfl⟩
 | n+5,h=>absurd h (by omega)
theorem c9u (a0:AV):XC tbl a6s10 [a0,.bool false,.int .i64 8,.undef,.undef,.undef,.undef,.undef,.undef,.undef,.undef,.undef,.undef,.undef,.undef] j6 (.normal,[a0,.bool false,.int .i64 8,.list true [],.undef,.undef,.undef,.undef,.undef,.undef,.undef,.undef,.undef,.undef,.undef],j6):=Go.Cb.G.xc_0 (k:=100) (by kernel_rfl)
theorem c9w (a0:AV):XC tbl a6s12 [a0,.bool false,.int .i64 8,.list true [],.undef,.undef,.undef,.undef,.undef,.undef,.undef,.undef,.undef,.undef,.undef] j6 (.normal,[a0,.bool false,.int .i64 8,.list true [],.list true [],.undef,.undef,.undef,.undef,.undef,.undef,.undef,.undef,.undef,.undef],j6):=Go.Cb.G.xc_0 (k:=100) (by kernel_rfl)
theorem c80 (a0:AV):XC tbl a6s26 [a0,.bool false,.int .i64 8,.list true [],.list true [],.undef,.undef,.undef,.undef,.undef,.undef,.undef,.undef,.undef,.undef] j6 (.normal,[a0,.bool false,.int .i64 8,.list true [],.list true ((m8 8).map Val.row),.int .i64 8,.undef,.undef,.undef,.undef,.undef,.undef,.undef,.undef,.undef],j6):=Go.Cb.G.xc_0 (k:=100) (by kernel_rfl)
theorem c9i (a0:AV):XC tbl a6s40 [a0,.bool false,.int .i64 8,.list true [],.list true ((m8 8).map Val.row),.int .i64 8,.undef,.undef,.undef,.undef,.undef,.undef,.undef,.undef,.undef] j6 (.normal,[a0,.bool false,.int .i64 8,.list true ((e7 8).map Ent.row),.list true ((m8 8).map Val.row),.int .i64 8,.int .i64 8,.undef,.undef,.undef,.undef,.undef,.undef,.undef,.undef],j6):=Go.Cb.G.xc_0 (k:=100) (by kernel_rfl)
theorem c2t (n:Int) (hn:0≤n∧n < 256) (hj:n.tmod 8=7):EvQ tbl 6 [.int .u8 n] [] (fun a _=>a=.bool true):=by
 have z8:((8:Int)=0)=False:=by simp
 refine EvQ.body (fn:=a6) rfl rfl rfl ?_
 simp +contextual -implicitDefEqProofs only [K6b,SS,rA,rS,rL,rE,reduceCtorEq]
 refine WC.call R4 rfl rfl ?_
 rintro _ _ ⟨rfl,rfl⟩
 simp +contextual -implicitDefEqProofs only [K6b,SS,rA,rS,rL,rE,reduceCtorEq,Bool.not_true,a0V hn,z8,if_false,Option.map_some,hj,show i6 .i64 (F4 1 7)=8 from rfl]
 refine WC.seqX (c9u _) (WC.seqX (c9w _) (WC.seqX (c80 _) (WC.seqX (c9i _) ?_)))
 unfold a6s76
 simp +contextual -implicitDefEqProofs only [K6b,SS,rA,rS,rL,rE,reduceCtorEq]
 refine WC.call X1 rfl rfl ?_
 rintro _ _ ⟨rfl,rfl⟩
 have hrd:=Q7 a2l
 unfold mo0 tL0 a1T at hrd
 simp +contextual -implicitDefEqProofs only [K6b,SS,rA,rS,rL,rE,reduceCtorEq]
 refine WC.call hrd rfl rfl ?_
 rintro _ st1 ⟨rfl,hg1,_⟩
 simp +contextual -implicitDefEqProofs only [K6b,SS,rA,rS,rL,rE,reduceCtorEq]
 refine WC.call (a2o (e7 8) (by decide) st1) rfl rfl ?_
 rintro _ st2 ⟨v0,rfl,hv0,hg2⟩
 have hs0:=(T3 (e7 8)).1
 rw [d3s] at hv0 hs0
 obtain ⟨w1,w2,w3,w4,w5,w6,w7⟩:=hv0.wk
 have hq:=a2c (d:=dL0) (hg1.trans hg2) hv0 hs0 (by decide) (a0N 8 (by decide)) (R3 (by kernel_rfl))
 rw [(J5 (v:=v0) hs0).1 (by rw [c8R]; decide)] at hq
 unfold W7 at hq
 simp +contextual -implicitDefEqProofs only [K6b,SS,rA,rS,rL,rE,reduceCtorEq,w1,w2,w3,w4,w5,w6,w7]
 refine WC.call hq (by simp only [R.allPlain_c,R.allPlain_n,R.plain_agg]; rfl) (by simp only [List.map_cons,List.map_nil,w9,w2]; rfl) ?_
 rintro _ st3 ⟨hg3,pv,rfl,hpv,_,_⟩
 obtain ⟨u1,u2,u3,u4,u5,u6,u7⟩:=hpv.wk
 unfold a1C
 dsimp only at hpv ⊢
 simp +contextual -implicitDefEqProofs only [K6b,SS,rA,rS,rL,rE,reduceCtorEq,u1,u2,u3,u4,u5,u6,u7]
 exact J3 (S:=sL8) (L:=lL8) (k:=8) hL8 ⟨rfl,rfl⟩ (.inl ⟨rfl,rfl⟩) hpv
theorem long_law (n:Int) (hn:0≤n∧n < 256):EvQ tbl 6 [.int .u8 n] [] (fun a _=>a=.bool true):=by
 have hj:n.tmod 8=0∨n.tmod 8=1∨n.tmod 8=2∨n.tmod 8=3∨n.tmod 8=4∨n.tmod 8=5∨n.tmod 8=6∨n.tmod 8=7:=by
  rw [Int.tmod_eq_emod_of_nonneg hn.1]
  omega
 rcases hj with hj|hj|hj|hj|hj|hj|hj|hj
 · exact c3H n hn hj
 · exact c3E n hn hj
 · exact c2R n hn hj
 · exact c3v n hn hj
 · exact c4H n hn hj
 · exact c2D n hn hj
 · exact c2G n hn hj
 · exact c2t n hn hj
end Go.Cb.CodeA
