import Derived.Test.YtbanbicfopmcbaaGreatDoorV2
set_option maxRecDepth 20000
set_option linter.unusedSimpArgs false
set_option linter.unusedVariables false
namespace Go.Cb.CodeA
open Go Go.Cb
open Nat renaming reduceAdd→rA,reduceSub→rS,reduceLeDiff→rL,reduceEqDiff→rE
attribute [local congr] N7 P5 V5 U5 Q8 Q1 Z1 a0e V.runR_congr
/-- a vault's object -/
def cV (ver floor:Int) (v:AV) (mo:Nat) (G:List (List AV)) (B:List AV):List AV:=.ptr 91 0::.int .u64 ver::.int .u64 floor::v::.map mo::.list true G::B
def a25 (M:List (AV×AV)):Prop:=∀ e∈M,∃ s,e.1=.str s
structure NS (T:St) (vo mo:Nat) (ver floor:Int) (v:AV) (n:Nat) (G:List (List AV)) (B:List AV):Prop where
 ov:T[vo]?=some (.cells (cV ver floor v mo G B))
 om:∃ M,T[mo]?=some (.map M)∧a25 M
 ev:EA v n T
 bs:Bs T
 lo:120≤vo∧120≤mo
theorem a34 {s:List Nat}:∀ {M:List (AV×AV)},a25 M→∀ i,∃ z,n4 1 (.str s) M i=some z
 | [],_,_=>⟨none,rfl⟩
 | (k,v)::M,h,i=>by
  obtain ⟨t,ht⟩:=h (k,v) (List.mem_cons_self ..)
  have ht:k=.str t:=ht
  subst ht
  have he:v6 1 (.str s) (.str t)=some (eqN s t):=rfl
  obtain ⟨z,hz⟩:=a34 (s:=s) (M:=M) (fun e he=>h e (List.mem_cons_of_mem _ he)) (i+1)
  unfold n4
  rw [he]
  cases eqN s t
  · exact ⟨z,hz⟩
  · exact ⟨_,rfl⟩
theorem b8r {T:St} {mo:Nat} {M:List (AV×AV)} (h:T[mo]?=some (.map M)) (hM:a25 M) (s:List Nat) (x:Int):∃ M',a25 M'∧∀ call bx,D5 1 call [.map mo,.str s,.int .u64 x] bx T=some (.tuple [],bx,T.set mo (.map M')):=by
 obtain ⟨z,hz⟩:=a34 (s:=s) hM 0
 cases z with
 | none =>
  refine ⟨M++[(.str s,.int .u64 x)],fun e he=>?_,fun call bx=>?_⟩
  · rcases List.mem_append.1 he with he|he
    · exact hM e he
    · rw [List.mem_singleton.1 he]; exact ⟨s,rfl⟩
  · have he:v6 1 (.str s) (.str s)=some (eqN s s):=rfl
    simp only [D5,AV.plain,if_true,h,hz,he,Option.bind_some]
    rfl
 | some p =>
  obtain ⟨i,v⟩:=p
  refine ⟨M.set i (.str s,.int .u64 x),fun e he=>?_,fun call bx=>?_⟩
  · rcases List.mem_or_eq_of_mem_set he with he|he
    · exact hM e he
    · rw [he]; exact ⟨s,rfl⟩
  · simp only [D5,AV.plain,if_true,h,hz]
    rfl
theorem b9z {T:St} {mo:Nat} {M:List (AV×AV)} (h:T[mo]?=some (.map M)) (hM:a25 M) (s:List Nat):∃ M',a25 M'∧∀ call bx,F2 1 call [.map mo,.str s] bx T=some (.tuple [],bx,T.set mo (.map M')):=by
 obtain ⟨z,hz⟩:=a34 (s:=s) hM 0
 cases z with
 | none=>exact ⟨M,hM,fun call bx=>by simp only [F2,h,hz]⟩
 | some p =>
  obtain ⟨i,v⟩:=p
  exact ⟨M.eraseIdx i,fun e he=>hM e (List.mem_of_mem_eraseIdx he),fun call bx=>by simp only [F2,h,hz]⟩
theorem c2n {n:Nat} (hn:n≠0) {x:AV} {l:List AV} (hx:∀ s,x≠.str s):cE n≠x::l:=by
 intro h
 match n,hn with
 | 1,_=>exact hx _ (List.cons.inj h).1.symm
 | 2,_=>exact hx _ (List.cons.inj h).1.symm
 | n+3,_=>exact hx _ (List.cons.inj h).1.symm
theorem EA.setv {T:St} {v:AV} {n vo:Nat} {ver floor:Int} {u:AV} {mo:Nat} {G:List (List AV)} {B:List AV} (h:EA v n T) (hv:T[vo]?=some (.cells (cV ver floor u mo G B))) (x:Cb.Obj):EA v n (T.set vo x):=by
 obtain ⟨o,e,ho⟩:=h
 refine ⟨o,e,fun hn=>⟨M3 (ho hn).1 fun e=>?_,(ho hn).2⟩⟩
 subst e
 have h1:=(ho hn).1
 rw [hv] at h1
 exact c2n hn (fun s h=>by cases h) (Cb.Obj.cells.inj (Option.some.inj h1)).symm
theorem EA.setm {T:St} {v:AV} {n mo:Nat} {M:List (AV×AV)} (h:EA v n T) (hm:T[mo]?=some (.map M)) (x:Cb.Obj):EA v n (T.set mo x):=by
 obtain ⟨o,e,ho⟩:=h
 refine ⟨o,e,fun hn=>⟨M3 (ho hn).1 fun e=>?_,(ho hn).2⟩⟩
 subst e
 have h1:=(ho hn).1
 rw [hm] at h1
 cases h1
theorem Bs.set {T:St} (hb:Bs T) {o:Nat} (ho:120≤o) (x:Cb.Obj):Bs (T.set o x):=fun i hi=>by
 rw [List.getElem?_set_ne (by omega)]; exact hb i hi
theorem NS.setv {T:St} {vo mo:Nat} {ver floor:Int} {v:AV} {n:Nat} {G:List (List AV)} {B:List AV} (h:NS T vo mo ver floor v n G B) {ver' floor':Int} {v':AV} {n':Nat} {G':List (List AV)} {B':List AV} (hv:EA v' n' T) :
 NS (T.set vo (.cells (cV ver' floor' v' mo G' B'))) vo mo ver' floor' v' n' G' B':=by
 obtain ⟨M,hM,hK⟩:=h.om
 exact ⟨a2p h.ov,⟨M,M3 hM fun e=>(by subst e; rw [h.ov] at hM; cases hM),hK⟩,hv.setv h.ov _,h.bs.set h.lo.1 _,h.lo⟩
theorem NS.setm {T:St} {vo mo:Nat} {ver floor:Int} {v:AV} {n:Nat} {G:List (List AV)} {B:List AV} (h:NS T vo mo ver floor v n G B) {M':List (AV×AV)} (hK:a25 M'):NS (T.set mo (.map M')) vo mo ver floor v n G B:=by
 obtain ⟨M,hM,_⟩:=h.om
 exact ⟨M3 h.ov fun e=>(by subst e; rw [h.ov] at hM; cases hM),⟨M',a2p hM,hK⟩,h.ev.setm hM _,h.bs.set h.lo.2 _,h.lo⟩
theorem NS.gr {T T':St} {vo mo:Nat} {ver floor:Int} {v:AV} {n:Nat} {G:List (List AV)} {B:List AV} (h:NS T vo mo ver floor v n G B) (hg:Gr T T'):NS T' vo mo ver floor v n G B:=by
 obtain ⟨M,hM,hK⟩:=h.om
 exact ⟨hg _ _ h.ov,⟨M,hg _ _ hM,hK⟩,h.ev.gr hg,h.bs.gr hg,h.lo⟩
theorem NS.len {T:St} {vo mo:Nat} {ver floor:Int} {v:AV} {n:Nat} {G:List (List AV)} {B:List AV} (h:NS T vo mo ver floor v n G B):120≤T.length:=h.bs.lt (i:=30) (by decide)
def L4 (ver:Int) (i:Nat):List AV:=[.str (idE i),.str (tyE i),.int .u64 ver]
/-- what has gone, among the first i -/
def gr (n2:Nat) (ver:Int) (i:Nat):List (List AV):=((List.range i).filter (Nat.ble n2 ·)).map (L4 ver)
theorem EA.lenL {v:AV} {n:Nat} {T:St} (h:EA v n T) (call:b9) (bx:AV) (st:St):r8 call [v] bx st=some (.int .i64 n,bx,st):=by
 obtain ⟨o,rfl,-⟩:=h
 cases n <;> rfl
theorem EA.sl {v:AV} {n:Nat} {T:St} (h:EA v n T) (hn:n≠0):∃ o,v=.sl o 0 n 4∧T[o]?=some (.cells (cE n)):=by
 obtain ⟨o,rfl,ho⟩:=h
 cases n with
 | zero=>exact absurd rfl hn
 | succ n=>exact ⟨o,rfl,(ho hn).1⟩
theorem a8e {n2:Nat} {ver:Int} {i:Nat}:gr n2 ver (i+1)=bif Nat.ble n2 i then gr n2 ver i++[L4 ver i] else gr n2 ver i:=by
 unfold gr
 rw [List.range_succ,List.filter_append,List.map_append]
 cases h:Nat.ble n2 i <;> simp [List.filter_cons,h]
theorem b3I (a:List Nat):eqN a a=true:=by rw [a1T]; simp
theorem b55 {n2:Nat} {ver:Int} {i:Nat}:∀ r∈gr n2 ver i,r.length=3:=fun r hr=>by
 obtain ⟨j,_,rfl⟩:=List.mem_map.1 hr
 rfl
theorem a9X {G:List (List AV)} (h:∀ r∈G,r.length=3):i8 3 G=true:=b0A h
/-- what stands as floor when the first k are left out -/
def flo (floor:Int) (G:List (List AV)):Nat→Int
 | 0=>floor
 | k+1=>match G[k]? with
  | some [_,_,.int _ x]=>x
  | _=>0
theorem b5i {floor:Int} {G:List (List AV)} {k:Nat} {s t:List Nat} {x:Int} (h:G[k]?=some [.str s,.str t,.int .u64 x]):flo floor G (k+1)=x:=by
 show (match G[k]? with|some [_,_,.int _ x]=>x|_=>0)=x
 rw [h]
theorem b0X {T:St} {vo mo:Nat} {ver floor:Int} {v v':AV} {n n2:Nat} {G:List (List AV)} {B:List AV} (h:NS T vo mo ver floor v n G B) (hv':EA v' n2 T) (hn:n < 4) (hn2:n2 < 4) (hle:n≤n2+1) (hG:G.length≤40) (hGr:∀ r∈G,∃ s t x,r=[.str s,.str t,.int .u64 x]) :
 EvQ tbl 18 [.ptr vo 0,.agg [v']] T (fun r T'=>r=.tuple []∧NS T' vo mo ver (flo floor (G++gr n2 ver n) ((G++gr n2 ver n).length - 40)) v' n2 ((G++gr n2 ver n).drop ((G++gr n2 ver n).length - 40)) B):=by
 obtain ⟨w1,w2,w3,w4,w5,w6,w7⟩:=hv'.wk
 obtain ⟨u1,u2,u3,u4,u5,u6,u7⟩:=h.ev.wk
 have hov:=h.ov
 unfold cV at hov
 refine EvQ.body (fn:=a18) rfl rfl rfl ?_
 simp +contextual -implicitDefEqProofs only [K18,SS,rA,rS,rL,rE,reduceCtorEq,w1,w2,w3,w4,w5,w6,w7,u1,u2,u3,u4,u5,u6,u7,hov]
 refine WC.call (a4G h.len h.ev hn) rfl (by simp only [List.map_cons,List.map_nil,E3,u2]) ?_
 rintro a T1 ⟨hva,hg1⟩
 have hla:=hva.lenL
 obtain ⟨a1,a2,a3,a4,a5,a6,a7⟩:=hva.wk
 have h1:=h.gr hg1
 have hv1:=hv'.gr hg1
 simp +contextual -implicitDefEqProofs only [K18,SS,rA,rS,rL,rE,reduceCtorEq,a1,a2,a3,a4,a5,a6,a7,hla]
 refine WC.loopR (fun mm fr T'=>∃ (i:Nat) (x3 x4 x5:AV),i≤n∧mm=n - i∧fr=[.ptr vo 0,.agg [v'],.box [v'],x3,x4,x5,.undef,.undef,.undef,a,.int .i64 n,.int .i64 i,.undef,.undef,.undef]∧NS T' vo mo ver floor v n (G++gr n2 ver i) B∧EA v' n2 T'∧EA a n T') (m:=n) ⟨0,_,_,_,Nat.zero_le _,rfl,rfl,by rw [show gr n2 ver 0=[] from rfl,List.append_nil]; exact h1,hv1,hva⟩ ?_
 rintro mm fr T' ⟨i,x3,x4,x5,hi,rfl,rfl,hN,hv2,hva2⟩
 simp +contextual -implicitDefEqProofs only [K18,SS,rA,rS,rL,rE,reduceCtorEq,ltN]
 by_cases hil:i < n
 · obtain ⟨o,rfl,ho⟩:=hva2.sl (by omega)
   have hml:((i:Int) < (n:Int))=True:=by simp; omega
   have hld:=a8X ho hn hil
   have er:H6 i=[.str (tyE i),.str (idE i),.list false (ksE i),.list false (vsE i)]:=rfl
   rw [er] at hld
   have hov2:=hN.ov
   unfold cV at hov2
   obtain ⟨M,hM,hK⟩:=hN.om
   simp +contextual -implicitDefEqProofs only [K18,SS,rA,rS,rL,rE,reduceCtorEq,hil,hld,hml,if_true,w1,w2,w3,w4,w5,w6,w7]
   refine WC.call (b5j hv2 hn2 (show i < 3 by omega)) rfl (by simp only [List.map_cons,List.map_nil,E3,w2]; rfl) ?_
   rintro _ _ ⟨rfl,h7⟩
   replace h7:=h7.symm
   subst h7
   by_cases hi2:i < n2
   · have hb:Nat.blt i n2=true:=by rw [Nat.blt_eq]; exact hi2
     have hg:gR n2 i=H6 i:=by unfold gR; rw [hb]; rfl
     rw [hb,hg,er]
     have hgr:gr n2 ver (i+1)=gr n2 ver i:=by rw [a8e,show Nat.ble n2 i=false by rw [← Bool.not_eq_true,Nat.ble_eq]; omega]; rfl
     simp +contextual -implicitDefEqProofs only [K18,SS,rA,rS,rL,rE,reduceCtorEq,b3I,J0 (show i+1 < 2 ^ 63 by omega)]
     exact WC.next (m':=n - (i+1)) (by omega) ⟨i+1,_,_,_,hil,rfl,rfl,by rw [hgr]; exact hN,hv2,hva2⟩
   · have hb:Nat.blt i n2=false:=by rw [← Bool.not_eq_true,Nat.blt_eq]; exact hi2
     have hg:gR n2 i=a5A:=by unfold gR; rw [hb]; rfl
     rw [hb,hg]
     unfold a5A
     have hro:i8 3 (G++gr n2 ver i)=true:=a9X fun r hr=>(List.mem_append.1 hr).elim (fun hr=>let ⟨s,t,x,e⟩:=hGr r hr; by rw [e]; rfl) (b55 r)
     have hgr:gr n2 ver (i+1)=gr n2 ver i++[L4 ver i]:=by rw [a8e,show Nat.ble n2 i=true by rw [Nat.ble_eq]; omega]; rfl
     have hsg:∀ y:Cb.Obj,(T'.set vo y)[vo]?=some y:=fun y=>a2p hN.ov
     have hne:vo≠mo:=fun e=>(by subst e; rw [hN.ov] at hM; cases hM)
     have hlg:(gr n2 ver i).length≤3:=by
      unfold gr
      rw [List.length_map]
      exact Nat.le_trans (List.length_filter_le _ _) (by rw [List.length_range]; omega)
     have hdc:decide (((G++gr n2 ver i).length+1)*40≤2 ^ 47)=true:=decide_eq_true (by rw [List.length_append]; omega)
     obtain ⟨M',hK',hmd⟩:=b9z (T:=T'.set vo (.cells (cV ver floor v mo (G++gr n2 ver i++[L4 ver i]) B))) (M3 hM hne) hK (idE i)
     have hN3:=(hN.setv (ver':=ver) (floor':=floor) (G':=G++gr n2 ver i++[L4 ver i]) (B':=B) hN.ev).setm hK'
     have hv3:=(hv2.setv hN.ov (.cells (cV ver floor v mo (G++gr n2 ver i++[L4 ver i]) B))).setm (M3 hM hne) (.map M')
     have ha3:=(hva2.setv hN.ov (.cells (cV ver floor v mo (G++gr n2 ver i++[L4 ver i]) B))).setm (M3 hM hne) (.map M')
     unfold cV L4 at hmd
     simp +contextual -implicitDefEqProofs only [K18,SS,rA,rS,rL,rE,reduceCtorEq,hov2,hsg,List.set_set,hro,hdc,hmd,J0 (show i+1 < 2 ^ 63 by omega)]
     exact WC.next (m':=n - (i+1)) (by omega) ⟨i+1,_,_,_,hil,rfl,rfl,by rw [hgr,← List.append_assoc]; exact hN3,hv3,ha3⟩
 · obtain rfl:i=n:=by omega
   simp +contextual -implicitDefEqProofs only [K18,SS,rA,rS,rL,rE,reduceCtorEq,hil]
   refine WC.leave ?_
   have hG1r:∀ r∈G++gr n2 ver i,∃ s t x,r=[.str s,.str t,.int .u64 x]:=fun r hr=>(List.mem_append.1 hr).elim (hGr r) fun hr=>let ⟨j,_,e⟩:=List.mem_map.1 hr; ⟨_,_,_,e.symm⟩
   generalize hG1:G++gr n2 ver i=G1 at *
   simp +contextual -implicitDefEqProofs only [K18,SS,rA,rS,rL,rE,reduceCtorEq,w1,w2,w3,w4,w5,w6,w7,a1,a2,a3,a4,a5,a6,a7]
   refine WC.call (a4G hN.len hv2 hn2) rfl (by simp only [List.map_cons,List.map_nil,E3,w2]) ?_
   rintro b T2 ⟨hvb,hg2⟩
   have hlb:=hvb.lenL
   obtain ⟨b1,b2,b3,b4,b5,b6,b7⟩:=hvb.wk
   have hN2:=hN.gr hg2
   have hv3:=hv2.gr hg2
   simp +contextual -implicitDefEqProofs only [K18,SS,rA,rS,rL,rE,reduceCtorEq,a1,a2,a3,a4,a5,a6,a7,b1,b2,b3,b4,b5,b6,b7,hlb]
   refine WC.loopR (fun mm fr T'=>∃ (j:Nat) (x6 x7 x8:AV),j≤n2∧mm=n2 - j∧fr=[.ptr vo 0,.agg [v'],.box [v'],x3,x4,x5,x6,x7,x8,a,.int .i64 i,.int .i64 i,b,.int .i64 n2,.int .i64 j]∧NS T' vo mo ver floor v i G1 B∧EA v' n2 T'∧EA b n2 T') (m:=n2) ⟨0,_,_,_,Nat.zero_le _,rfl,rfl,hN2,hv3,hvb⟩ ?_
   rintro mm fr T3 ⟨j,x6,x7,x8,hj,rfl,rfl,hN3,hv4,hvb3⟩
   simp +contextual -implicitDefEqProofs only [K18,SS,rA,rS,rL,rE,reduceCtorEq,ltN]
   by_cases hjl:j < n2
   · obtain ⟨o,rfl,ho⟩:=hvb3.sl (by omega)
     have hml:((j:Int) < (n2:Int))=True:=by simp; omega
     have hld:=a8X ho hn2 hjl
     have er:H6 j=[.str (tyE j),.str (idE j),.list false (ksE j),.list false (vsE j)]:=rfl
     rw [er] at hld
     have hov2:=hN3.ov
     unfold cV at hov2
     obtain ⟨M,hM,hK⟩:=hN3.om
     obtain ⟨u1,u2,u3,u4,u5,u6,u7⟩:=hN3.ev.wk
     simp +contextual -implicitDefEqProofs only [K18,SS,rA,rS,rL,rE,reduceCtorEq,hjl,hld,hml,if_true,hov2,u1,u2,u3,u4,u5,u6,u7]
     refine WC.call (b5j hN3.ev hn (show j < 3 by omega)) rfl (by simp only [List.map_cons,List.map_nil,E3,u2]; rfl) ?_
     rintro _ _ ⟨rfl,h7⟩
     replace h7:=h7.symm
     subst h7
     by_cases hj2:j < i
     · have hb:Nat.blt j i=true:=by rw [Nat.blt_eq]; exact hj2
       have hg:gR i j=H6 j:=by unfold gR; rw [hb]; rfl
       rw [hb,hg,er]
       have hsm:=b7V (show j < 3 by omega) T3
       rw [er] at hsm
       simp +contextual -implicitDefEqProofs only [K18,SS,rA,rS,rL,rE,reduceCtorEq,Bool.not_true]
       refine WC.call hsm rfl rfl ?_
       rintro _ _ ⟨rfl,h7⟩
       replace h7:=h7.symm
       subst h7
       simp +contextual -implicitDefEqProofs only [K18,SS,rA,rS,rL,rE,reduceCtorEq,Bool.not_true,J0 (show j+1 < 2 ^ 63 by omega)]
       exact WC.next (m':=n2 - (j+1)) (by omega) ⟨j+1,_,_,_,hjl,rfl,rfl,hN3,hv4,hvb3⟩
     · have hb:Nat.blt j i=false:=by rw [← Bool.not_eq_true,Nat.blt_eq]; exact hj2
       have hg:gR i j=a5A:=by unfold gR; rw [hb]; rfl
       rw [hb,hg]
       unfold a5A
       obtain ⟨M',hK',hms⟩:=b8r hM hK (idE j) ver
       simp +contextual -implicitDefEqProofs only [K18,SS,rA,rS,rL,rE,reduceCtorEq,hov2,Bool.not_false,hms,J0 (show j+1 < 2 ^ 63 by omega)]
       exact WC.next (m':=n2 - (j+1)) (by omega) ⟨j+1,_,_,_,hjl,rfl,rfl,hN3.setm hK',hv4.setm hM _,hvb3.setm hM _⟩
   · obtain rfl:j=n2:=by omega
     simp +contextual -implicitDefEqProofs only [K18,SS,rA,rS,rL,rE,reduceCtorEq,hjl]
     refine WC.leave ?_
     simp +contextual -implicitDefEqProofs only [K18,SS,rA,rS,rL,rE,reduceCtorEq,w1,w2,w3,w4,w5,w6,w7]
     refine WC.loopR (fun mm fr T'=>∃ (k:Nat),k≤G1.length - 40∧mm=G1.length - 40 - k∧fr=[.ptr vo 0,.agg [v'],.box [v'],x3,x4,x5,x6,x7,x8,a,.int .i64 i,.int .i64 i,b,.int .i64 j,.int .i64 j]∧NS T' vo mo ver (flo floor G1 k) v i (G1.drop k) B∧EA v' j T') (m:=G1.length - 40) ⟨0,Nat.zero_le _,rfl,rfl,by rw [List.drop_zero]; exact hN3,hv4⟩ ?_
     rintro mm fr T4 ⟨k,hk,rfl,rfl,hN4,hv5⟩
     have hov4:=hN4.ov
     unfold cV at hov4
     have hlt:ltI 40 ((G1.drop k).length:Int)=decide (k < G1.length - 40):=by rw [ltI_eq]; exact decide_eq_decide.2 (by rw [List.length_drop]; omega)
     simp +contextual -implicitDefEqProofs only [K18,SS,rA,rS,rL,rE,reduceCtorEq,hov4,hlt]
     by_cases hkl:k < G1.length - 40
     · rw [decide_eq_true hkl]
       obtain ⟨r0,rest,hr0⟩:∃ r0 rest,G1.drop k=r0::rest:=by
        cases hd:G1.drop k with
        | nil=>have:=congrArg List.length hd; rw [List.length_drop] at this; simp at this; omega
        | cons r0 rest=>exact ⟨_,_,rfl⟩
       have hmem:∀ r∈r0::rest,∃ s t x,r=[.str s,.str t,.int .u64 x]:=fun r hr=>hG1r r (List.mem_of_mem_drop (hr0 ▸ hr))
       have hro:i8 3 (r0::rest)=true:=a9X fun r hr=>let ⟨s,t,x,e⟩:=hmem r hr; by rw [e]; rfl
       have hrl:1 < (r0::rest).length:=by rw [← hr0,List.length_drop]; omega
       obtain ⟨s0,t0,x0,rfl⟩:=hmem r0 (List.mem_cons_self ..)
       have hsg:∀ y:Cb.Obj,(T4.set vo y)[vo]?=some y:=fun y=>a2p hN4.ov
       have hkk:G1[k]?=some [.str s0,.str t0,.int .u64 x0]:=by
        have:=congrArg (·[0]?) hr0
        simpa using this
       have hN5:=hN4.setv (ver':=ver) (floor':=x0) (G':=rest) (B':=B) hN4.ev
       have hv6:=hv5.setv hN4.ov (.cells (cV ver x0 v mo rest B))
       obtain ⟨u1,u2,u3,u4,u5,u6,u7⟩:=hN4.ev.wk
       unfold cV at hN5 hv6
       rw [hr0] at hov4
       have hcd:((1:Int) < ((rest.length+1:Nat):Int))=True:=eq_true (by rw [List.length_cons] at hrl; omega)
       simp +contextual -implicitDefEqProofs only [K18,SS,rA,rS,rL,rE,reduceCtorEq,hov4,hsg,List.set_set,hro,hcd,u1,u2,u3,u4,u5,u6,u7]
       exact WC.next (m':=G1.length - 40 - (k+1)) (by omega) ⟨k+1,hkl,rfl,rfl,by rw [show G1.drop (k+1)=rest by rw [← List.drop_drop,hr0]; rfl,b5i hkk]; exact hN5,hv6⟩
     · rw [decide_eq_false hkl]
       obtain rfl:k=G1.length - 40:=by omega
       simp +contextual -implicitDefEqProofs only [K18,SS,rA,rS,rL,rE,reduceCtorEq]
       refine WC.leave ?_
       obtain ⟨u1,u2,u3,u4,u5,u6,u7⟩:=hN4.ev.wk
       have hN5:=hN4.setv (ver':=ver) (floor':=flo floor G1 (G1.length - 40)) (G':=G1.drop (G1.length - 40)) (B':=B) hv5
       unfold cV at hN5
       simp +contextual -implicitDefEqProofs only [K18,SS,rA,rS,rL,rE,reduceCtorEq,hov4,w1,w2,w3,w4,w5,w6,w7,u1,u2,u3,u4,u5,u6,u7]
       exact WC.ret ⟨_,_,rfl,rfl,hN5⟩
end Go.Cb.CodeA
