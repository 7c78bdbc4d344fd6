import Derived.Test.YtbanbicfopmcbaaGreatDoorV4
import Derived.KernelRfl
set_option maxRecDepth 20000
set_option linter.unusedSimpArgs false
set_option linter.unusedVariables false
namespace Go.Cb.CodeA
open Go Go.Cb
open Nat renaming reduceAdd→rA,reduceSub→rS,reduceLeDiff→rL,reduceEqDiff→rE
attribute [local congr] N7 P5 V5 U5 Q8 Q1 Z1 a0e V.runR_congr
theorem c07 {T:St} (hb:Bs T):EvQ tbl 7 [.ptr 91 0] T (fun r T'=>r=.tuple [.ptr (T.length+1) 0,.int .i64 0]∧NS T' (T.length+1) T.length 0 0 .nils 0 [] (Bc 0 0 false 0 0 false)):=by
 have hl:120≤T.length:=hb.lt (i:=30) (by decide)
 refine EvQ.body (fn:=a7) rfl rfl rfl ?_
 simp +contextual -implicitDefEqProofs only [K7,SS,rA,rS,rL,rE,reduceCtorEq]
 refine WC.ret ⟨_,_,rfl,by rw [List.length_append]; rfl,?_⟩
 have e1:(T++[.map []]++[.cells (cV 0 0 .nils T.length [] (Bc 0 0 false 0 0 false))])[T.length+1]?=some (.cells (cV 0 0 .nils T.length [] (Bc 0 0 false 0 0 false))):=by
  rw [List.getElem?_append_right (by simp)]; simp
 have e2:(T++[.map []]++[.cells (cV 0 0 .nils T.length [] (Bc 0 0 false 0 0 false))])[T.length]?=some (.map []):=by
  rw [List.getElem?_append_left (by simp)]; exact b6q _ _
 exact ⟨e1,⟨[],e2,fun e h=>by cases h⟩,⟨0,rfl,fun h=>absurd rfl h⟩,(hb.gr (Gr.app _ _)).gr (Gr.app _ _),by omega,hl⟩
/-- what is asked of lists of names, by the kernel -/
def S1 (l:List (List AV)) (s:List Nat) (b:Bool):Prop:=Go.Cb.G.callG tbl 400 21 [.list false l,.str s] []=some (.bool b,[])
def a3J (l:List (List AV)):Prop:=Go.Cb.G.callG tbl 400 22 [.list false l] []=some (.tuple [],[])
theorem b8N:S1 [[.str C9]] b88 false:=by unfold S1; kernel_rfl
theorem c0U:S1 [[.str C9]] b8U false:=by unfold S1; kernel_rfl
theorem b8k:S1 [[.str C9]] C9 true:=by unfold S1; kernel_rfl
theorem c0c:S1 [] [53] false:=by unfold S1; kernel_rfl
theorem b9L:S1 [[.str [53]]] [53] true:=by unfold S1; kernel_rfl
theorem b5f:a3J []:=by unfold a3J; kernel_rfl
theorem b5c:a3J [[.str [53]]]:=by unfold a3J; kernel_rfl
theorem at0 {f:Nat} {as:List AV} {r:AV} (h:Ev tbl f as [] r []) (T:St):∃ ρ:Nat→Nat,Ev tbl f (as.map (AV.rn ρ)) T (r.rn ρ) T :=
 ⟨_,a4d (T:=T) (n:=0) (q:=id) (fun a b h=>absurd h (Nat.not_lt_zero _)) (fun a h=>absurd h (Nat.not_lt_zero _)) rfl (fun a h=>absurd h (Nat.not_lt_zero _)) h⟩
theorem a3m (ρ:Nat→Nat):N4 ρ [[.str C9]]=[[.str C9]]:=rfl
theorem b0S (ρ:Nat→Nat):N4 ρ [[.str [53]]]=[[.str [53]]]:=rfl
theorem a0q {l:List (List AV)} {s:List Nat} {b:Bool} (h:S1 l s b) (hl:∀ ρ,N4 ρ l=l) (T:St):EvQ tbl 21 [.list false l,.str s] T (fun r T'=>r=.bool b∧T'=T):=by
 obtain ⟨ρ,h1⟩:=at0 (Go.Cb.G.ev_ofG h) T
 have e:[AV.list false l,.str s].map (AV.rn ρ)=[.list false l,.str s]:=by
  show [AV.list false (N4 ρ l),.str s]=_
  rw [hl]
 rw [e] at h1
 exact EvQ.of_ev h1 ⟨rfl,rfl⟩
theorem a3k {l:List (List AV)} (h:a3J l) (hl:∀ ρ,N4 ρ l=l) (T:St):EvQ tbl 22 [.list false l] T (fun r T'=>r=.tuple []∧T'=T):=by
 obtain ⟨ρ,h1⟩:=at0 (Go.Cb.G.ev_ofG h) T
 have e:[AV.list false l].map (AV.rn ρ)=[.list false l]:=by
  show [AV.list false (N4 ρ l)]=_
  rw [hl]
 rw [e] at h1
 exact EvQ.of_ev h1 ⟨rfl,rfl⟩
def n9 (vs:List Int):List (List AV):=vs.map (L4 · 2)
theorem WC.callA {β:Type} {f m:Nat} {as as':List AV} {bx:AV} {st:St} {k:Nat→AV×St→Option β} {P:AV→St→Prop} {Q:β→Prop}
 (h:EvQ tbl f as' st P) (hp:m7 (as.take m)=true) (hw:(as.take m).map AV.weak=as') (hk:∀ r st',P r st'→kept st st' (as.drop m)=true∧WC (fun n=>k n (r,st')) Q):WC (fun n=>Go.Cb.obind (p2 (r9 f m (k5 tbl n) as bx st)) (k n)) Q:=by
 obtain ⟨r,st',he,hq⟩:=h
 obtain ⟨n0,h0⟩:=he.ge
 obtain ⟨hkk,hkw⟩:=hk r st' hq
 refine WC.obind (P:=fun x=>x=(r,st')) ⟨n0,(r,st'),fun n hn=>?_,rfl⟩ (fun a ha=>ha ▸ hkw)
 simp only [r9,n6,hp,if_true,hw,h0 n hn,Option.map_some,hkk,a2t]
theorem a8n (call:b9) (bx:AV) (st:St) (agg:Bool) (n o off p f:Nat):t8 agg n call [.ptr o off,.ptr p f] bx st=if Nat.beq o p=true then q8 agg n call [.ptr o off] bx st else none:=b8 rfl
theorem b0J (n:Nat):(n.beq n=true)=True:=by simp
theorem a6v {st:St} {o:Nat} {x:Cb.Obj} (h:st[o]?=some x):kept st st [.ptr o 0]=true:=by
 simp only [kept,I4,h,Bool.and_true]
 exact (V4 _ _).2 rfl
theorem b1r (T:St):EvQ tbl 19 [.list false [[.str C9]]] T (fun a T'=>T'=T∧a=.list true [[.str C9]]):=by
 refine EvQ.of_ext (fn:=a19) (r:=(.list true [[.str C9]],T)) rfl rfl ?_ ⟨rfl,rfl⟩
 rfl
/-- is something of it later? -/
def I6 (vs:List Int) (q:Int):Bool:=ltI 0 q && vs.any (fun x=>ltI q x)
theorem a4h {vs:List Int} {q:Int} {j:Nat} (hj:j < vs.length):I6 (vs.take (j+1)) q=(I6 (vs.take j) q || (ltI 0 q && ltI q vs[j])):=by
 unfold I6
 rw [List.take_succ_eq_append_getElem hj,List.any_append,List.any_cons,List.any_nil,Bool.or_false]
 cases ltI 0 q <;> simp
theorem a5r {vs:List Int} {j:Nat} (hj:j < vs.length):(n9 vs)[j]?=some (L4 vs[j] 2):=by
 unfold n9
 rw [List.getElem?_map,List.getElem?_eq_getElem hj]; rfl
theorem a3M (vs:List Int):i8 3 (n9 vs)=true:=a9X fun r hr=>by
 obtain ⟨x,_,rfl⟩:=List.mem_map.1 hr
 rfl
def gsV (b:Bool):List (List AV):=bif b then [[.str [53]]] else []
def Z6 (q floor ver:Int):Int:=bif ltI q floor || ltI ver q then 0 else q
theorem b1T {T:St} {vo mo:Nat} {ver floor:Int} {v:AV} {n:Nat} {vs:List Int} {B:List AV} (h:NS T vo mo ver floor v n (n9 vs) B) (hn:n < 3) (hvs:vs.length≤40) (q:Int) (hq:0≤q) :
 EvQ tbl 9 [.ptr vo 0,.list false [[.str C9]],.int .u64 q] T (fun r T'=>∃ t o1 o2,r=.agg [.list t [[.str C9]],.int .u64 (Z6 q floor ver),.int .u64 ver,.list o1 [],.list o2 (gsV (I6 vs (Z6 q floor ver)))]):=by
 have hov:=h.ov
 unfold cV at hov
 obtain ⟨u1,u2,u3,u4,u5,u6,u7⟩:=h.ev.wk
 refine EvQ.body (fn:=a9) rfl rfl rfl ?_
 simp +contextual -implicitDefEqProofs only [K9,SS,rA,rS,rL,rE,reduceCtorEq,hov]
 cases hb:(ltI q floor || ltI ver q) with
 | true =>
  simp +contextual -implicitDefEqProofs only [K9,SS,rA,rS,rL,rE,reduceCtorEq,hov,a8n,b0J,if_true]
  refine WC.callA (b1r T) rfl rfl ?_
  rintro _ _ ⟨h7,rfl⟩
  replace h7:=h7.symm
  subst h7
  refine ⟨a6v h.ov,?_⟩
  simp +contextual -implicitDefEqProofs only [K9,SS,rA,rS,rL,rE,reduceCtorEq,hov,u1,u2,u3,u4,u5,u6,u7,List.set_nil]
  refine WC.call (a4G h.len h.ev (by omega)) rfl (by simp only [List.map_cons,List.map_nil,E3,u2]) ?_
  rintro a T1 ⟨hva,hg1⟩
  have hla:=hva.lenL
  obtain ⟨a1,a2,a3,a4,a5,a6,a7⟩:=hva.wk
  have hN1:=h.gr hg1
  simp +contextual -implicitDefEqProofs only [K9,SS,rA,rS,rL,rE,reduceCtorEq,a1,a2,a3,a4,a5,a6,a7,hla,List.set_nil]
  refine WC.loopR (fun mm fr T'=>∃ (i:Nat) (x5:AV),i≤n∧mm=n - i∧fr=[.ptr vo 0,.list false [[.str C9]],.int .u64 0,.box [.list true [],.int .u64 0,.int .u64 0,.list true [],.list true []],.box [.list false [[.str C9]],.int .u64 0,.int .u64 ver,.list true [],.list true []],x5,.undef,a,.int .i64 n,.int .i64 i,.undef,.undef,.undef]∧T'=T1) (m:=n) ⟨0,_,Nat.zero_le _,rfl,rfl,rfl⟩ ?_
  rintro mm fr T' ⟨i,x5,hi,rfl,rfl,h7⟩
  subst h7
  simp +contextual -implicitDefEqProofs only [K9,SS,rA,rS,rL,rE,reduceCtorEq,ltN]
  by_cases hil:i < n
  · obtain ⟨o,rfl,ho⟩:=hva.sl (by omega)
    have hml:((i:Int) < (n:Int))=True:=by simp; omega
    have hld:=a8X ho (show n < 4 by omega) hil
    have er:H6 i=[.str (tyE i),.str (idE i),.list false (ksE i),.list false (vsE i)]:=rfl
    rw [er] at hld
    have hcn:S1 [[.str C9]] (tyE i) false:=by
     have:i=0∨i=1:=by omega
     rcases this with rfl|rfl
     · exact b8N
     · exact c0U
    simp +contextual -implicitDefEqProofs only [K9,SS,rA,rS,rL,rE,reduceCtorEq,hil,hld,hml,if_true]
    refine WC.call (a0q hcn a3m T') rfl rfl ?_
    rintro _ _ ⟨rfl,h7⟩
    replace h7:=h7.symm
    subst h7
    simp +contextual -implicitDefEqProofs only [K9,SS,rA,rS,rL,rE,reduceCtorEq,J0 (show i+1 < 2 ^ 63 by omega)]
    exact WC.next (m':=n - (i+1)) (by omega) ⟨i+1,_,hil,rfl,rfl,rfl⟩
  · obtain rfl:i=n:=by omega
    simp +contextual -implicitDefEqProofs only [K9,SS,rA,rS,rL,rE,reduceCtorEq,hil]
    refine WC.leave ?_
    have hov1:=hN1.ov
    unfold cV at hov1
    simp +contextual -implicitDefEqProofs only [K9,SS,rA,rS,rL,rE,reduceCtorEq,hov1,a1,a2,a3,a4,a5,a6,a7]
    have hgl:(n9 vs).length=vs.length:=by unfold n9; rw [List.length_map]
    have hgr:=a3M vs
    rw [hgl]
    refine WC.loopR (fun mm fr T''=>∃ (j:Nat) (x6:AV),j≤vs.length∧mm=vs.length - j∧fr=[.ptr vo 0,.list false [[.str C9]],.int .u64 0,.box [.list true [],.int .u64 0,.int .u64 0,.list true [],.list true []],.box [.list false [[.str C9]],.int .u64 0,.int .u64 ver,.list true [],.list true (gsV (I6 (vs.take j) 0))],x5,x6,a,.int .i64 i,.int .i64 i,.list false (n9 vs),.int .i64 vs.length,.int .i64 j]∧T''=T') (m:=vs.length) ⟨0,_,Nat.zero_le _,rfl,by rw [show I6 (vs.take 0) 0=false by unfold I6; cases ltI 0 0 <;> rfl]; rfl,rfl⟩ ?_
    rintro mm fr T'' ⟨j,x6,hj,rfl,rfl,h7⟩
    subst h7
    simp +contextual -implicitDefEqProofs only [K9,SS,rA,rS,rL,rE,reduceCtorEq,ltN]
    by_cases hjl:j < vs.length
    · have hat:=a5r hjl
      have hml:((j:Int) < ((n9 vs).length:Int))=True:=eq_true (by rw [hgl]; omega)
      have hnx:=a4h (q:=0) hjl
      revert hat hnx
      generalize vs[j]=x
      intro hat hnx
      unfold L4 at hat
      simp +contextual -implicitDefEqProofs only [K9,SS,rA,rS,rL,rE,reduceCtorEq,hjl,hat,hml,hgr,if_true,Int.toNat_natCast,show idE 2=[53] from rfl,show tyE 2=C9 from rfl]
      cases hc:(ltI 0 0 && ltI 0 x) with
      | false =>
       rw [hc,Bool.or_false] at hnx
       simp +contextual -implicitDefEqProofs only [K9,SS,rA,rS,rL,rE,reduceCtorEq,J0 (show j+1 < 2 ^ 63 by omega)]
       exact WC.next (m':=vs.length - (j+1)) (by omega) ⟨j+1,_,hjl,rfl,by rw [hnx],rfl⟩
      | true =>
       rw [hc,Bool.or_true] at hnx
       simp +contextual -implicitDefEqProofs only [K9,SS,rA,rS,rL,rE,reduceCtorEq]
       refine WC.call (a0q b8k a3m T'') rfl rfl ?_
       rintro _ _ ⟨rfl,h7⟩
       replace h7:=h7.symm
       subst h7
       simp +contextual -implicitDefEqProofs only [K9,SS,rA,rS,rL,rE,reduceCtorEq]
       cases hb2:I6 (vs.take j) 0 with
       | false =>
        refine WC.call (a0q c0c (fun ρ=>rfl) T'') rfl rfl ?_
        rintro _ _ ⟨rfl,h7⟩
        replace h7:=h7.symm
        subst h7
        simp +contextual -implicitDefEqProofs only [K9,SS,rA,rS,rL,rE,reduceCtorEq,Bool.not_false,J0 (show j+1 < 2 ^ 63 by omega),show gsV false=[] from rfl,show decide (1*16≤2 ^ 47)=true from rfl,if_true]
        exact WC.next (m':=vs.length - (j+1)) (by omega) ⟨j+1,_,hjl,rfl,by rw [hnx]; rfl,rfl⟩
       | true =>
        refine WC.call (a0q b9L b0S T'') rfl rfl ?_
        rintro _ _ ⟨rfl,h7⟩
        replace h7:=h7.symm
        subst h7
        simp +contextual -implicitDefEqProofs only [K9,SS,rA,rS,rL,rE,reduceCtorEq,Bool.not_true,J0 (show j+1 < 2 ^ 63 by omega)]
        exact WC.next (m':=vs.length - (j+1)) (by omega) ⟨j+1,_,hjl,rfl,by rw [hnx],rfl⟩
    · obtain rfl:j=vs.length:=by omega
      simp +contextual -implicitDefEqProofs only [K9,SS,rA,rS,rL,rE,reduceCtorEq,hjl]
      refine WC.leave ?_
      rw [List.take_length]
      simp +contextual -implicitDefEqProofs only [K9,SS,rA,rS,rL,rE,reduceCtorEq]
      have hsr:EvQ tbl 22 [.list false (gsV (I6 vs 0))] T'' (fun r T'=>r=.tuple []∧T'=T''):=by
       cases I6 vs 0
       · exact a3k b5f (fun ρ=>rfl) T''
       · exact a3k b5c b0S T''
      refine WC.call hsr rfl rfl ?_
      rintro _ _ ⟨rfl,h7⟩
      replace h7:=h7.symm
      subst h7
      simp +contextual -implicitDefEqProofs only [K9,SS,rA,rS,rL,rE,reduceCtorEq]
      have hsn:Z6 q floor ver=0:=by unfold Z6; rw [hb]; rfl
      exact WC.ret ⟨_,_,rfl,_,_,_,by rw [hsn]; rfl⟩
 | false =>
  simp +contextual -implicitDefEqProofs only [K9,SS,rA,rS,rL,rE,reduceCtorEq,hov,a8n,b0J,if_true]
  refine WC.callA (b1r T) rfl rfl ?_
  rintro _ _ ⟨h7,rfl⟩
  replace h7:=h7.symm
  subst h7
  refine ⟨a6v h.ov,?_⟩
  simp +contextual -implicitDefEqProofs only [K9,SS,rA,rS,rL,rE,reduceCtorEq,hov,u1,u2,u3,u4,u5,u6,u7,List.set_nil]
  refine WC.call (a4G h.len h.ev (by omega)) rfl (by simp only [List.map_cons,List.map_nil,E3,u2]) ?_
  rintro a T1 ⟨hva,hg1⟩
  have hla:=hva.lenL
  obtain ⟨a1,a2,a3,a4,a5,a6,a7⟩:=hva.wk
  have hN1:=h.gr hg1
  simp +contextual -implicitDefEqProofs only [K9,SS,rA,rS,rL,rE,reduceCtorEq,a1,a2,a3,a4,a5,a6,a7,hla,List.set_nil]
  refine WC.loopR (fun mm fr T'=>∃ (i:Nat) (x5:AV),i≤n∧mm=n - i∧fr=[.ptr vo 0,.list false [[.str C9]],.int .u64 q,.box [.list true [],.int .u64 0,.int .u64 0,.list true [],.list true []],.box [.list false [[.str C9]],.int .u64 q,.int .u64 ver,.list true [],.list true []],x5,.undef,a,.int .i64 n,.int .i64 i,.undef,.undef,.undef]∧T'=T1) (m:=n) ⟨0,_,Nat.zero_le _,rfl,rfl,rfl⟩ ?_
  rintro mm fr T' ⟨i,x5,hi,rfl,rfl,h7⟩
  subst h7
  simp +contextual -implicitDefEqProofs only [K9,SS,rA,rS,rL,rE,reduceCtorEq,ltN]
  by_cases hil:i < n
  · obtain ⟨o,rfl,ho⟩:=hva.sl (by omega)
    have hml:((i:Int) < (n:Int))=True:=by simp; omega
    have hld:=a8X ho (show n < 4 by omega) hil
    have er:H6 i=[.str (tyE i),.str (idE i),.list false (ksE i),.list false (vsE i)]:=rfl
    rw [er] at hld
    have hcn:S1 [[.str C9]] (tyE i) false:=by
     have:i=0∨i=1:=by omega
     rcases this with rfl|rfl
     · exact b8N
     · exact c0U
    simp +contextual -implicitDefEqProofs only [K9,SS,rA,rS,rL,rE,reduceCtorEq,hil,hld,hml,if_true]
    refine WC.call (a0q hcn a3m T') rfl rfl ?_
    rintro _ _ ⟨rfl,h7⟩
    replace h7:=h7.symm
    subst h7
    simp +contextual -implicitDefEqProofs only [K9,SS,rA,rS,rL,rE,reduceCtorEq,J0 (show i+1 < 2 ^ 63 by omega)]
    exact WC.next (m':=n - (i+1)) (by omega) ⟨i+1,_,hil,rfl,rfl,rfl⟩
  · obtain rfl:i=n:=by omega
    simp +contextual -implicitDefEqProofs only [K9,SS,rA,rS,rL,rE,reduceCtorEq,hil]
    refine WC.leave ?_
    have hov1:=hN1.ov
    unfold cV at hov1
    simp +contextual -implicitDefEqProofs only [K9,SS,rA,rS,rL,rE,reduceCtorEq,hov1,a1,a2,a3,a4,a5,a6,a7]
    have hgl:(n9 vs).length=vs.length:=by unfold n9; rw [List.length_map]
    have hgr:=a3M vs
    rw [hgl]
    refine WC.loopR (fun mm fr T''=>∃ (j:Nat) (x6:AV),j≤vs.length∧mm=vs.length - j∧fr=[.ptr vo 0,.list false [[.str C9]],.int .u64 q,.box [.list true [],.int .u64 0,.int .u64 0,.list true [],.list true []],.box [.list false [[.str C9]],.int .u64 q,.int .u64 ver,.list true [],.list true (gsV (I6 (vs.take j) q))],x5,x6,a,.int .i64 i,.int .i64 i,.list false (n9 vs),.int .i64 vs.length,.int .i64 j]∧T''=T') (m:=vs.length) ⟨0,_,Nat.zero_le _,rfl,by rw [show I6 (vs.take 0) q=false by unfold I6; cases ltI 0 q <;> rfl]; rfl,rfl⟩ ?_
    rintro mm fr T'' ⟨j,x6,hj,rfl,rfl,h7⟩
    subst h7
    simp +contextual -implicitDefEqProofs only [K9,SS,rA,rS,rL,rE,reduceCtorEq,ltN]
    by_cases hjl:j < vs.length
    · have hat:=a5r hjl
      have hml:((j:Int) < ((n9 vs).length:Int))=True:=eq_true (by rw [hgl]; omega)
      have hnx:=a4h (q:=q) hjl
      revert hat hnx
      generalize vs[j]=x
      intro hat hnx
      unfold L4 at hat
      simp +contextual -implicitDefEqProofs only [K9,SS,rA,rS,rL,rE,reduceCtorEq,hjl,hat,hml,hgr,if_true,Int.toNat_natCast,show idE 2=[53] from rfl,show tyE 2=C9 from rfl]
      cases hc:(ltI 0 q && ltI q x) with
      | false =>
       rw [hc,Bool.or_false] at hnx
       simp +contextual -implicitDefEqProofs only [K9,SS,rA,rS,rL,rE,reduceCtorEq,J0 (show j+1 < 2 ^ 63 by omega)]
       exact WC.next (m':=vs.length - (j+1)) (by omega) ⟨j+1,_,hjl,rfl,by rw [hnx],rfl⟩
      | true =>
       rw [hc,Bool.or_true] at hnx
       simp +contextual -implicitDefEqProofs only [K9,SS,rA,rS,rL,rE,reduceCtorEq]
       refine WC.call (a0q b8k a3m T'') rfl rfl ?_
       rintro _ _ ⟨rfl,h7⟩
       replace h7:=h7.symm
       subst h7
       simp +contextual -implicitDefEqProofs only [K9,SS,rA,rS,rL,rE,reduceCtorEq]
       cases hb2:I6 (vs.take j) q with
       | false =>
        refine WC.call (a0q c0c (fun ρ=>rfl) T'') rfl rfl ?_
        rintro _ _ ⟨rfl,h7⟩
        replace h7:=h7.symm
        subst h7
        simp +contextual -implicitDefEqProofs only [K9,SS,rA,rS,rL,rE,reduceCtorEq,Bool.not_false,J0 (show j+1 < 2 ^ 63 by omega),show gsV false=[] from rfl,show decide (1*16≤2 ^ 47)=true from rfl,if_true]
        exact WC.next (m':=vs.length - (j+1)) (by omega) ⟨j+1,_,hjl,rfl,by rw [hnx]; rfl,rfl⟩
       | true =>
        refine WC.call (a0q b9L b0S T'') rfl rfl ?_
        rintro _ _ ⟨rfl,h7⟩
        replace h7:=h7.symm
        subst h7
        simp +contextual -implicitDefEqProofs only [K9,SS,rA,rS,rL,rE,reduceCtorEq,Bool.not_true,J0 (show j+1 < 2 ^ 63 by omega)]
        exact WC.next (m':=vs.length - (j+1)) (by omega) ⟨j+1,_,hjl,rfl,by rw [hnx],rfl⟩
    · obtain rfl:j=vs.length:=by omega
      simp +contextual -implicitDefEqProofs only [K9,SS,rA,rS,rL,rE,reduceCtorEq,hjl]
      refine WC.leave ?_
      rw [List.take_length]
      simp +contextual -implicitDefEqProofs only [K9,SS,rA,rS,rL,rE,reduceCtorEq]
      have hsr:EvQ tbl 22 [.list false (gsV (I6 vs q))] T'' (fun r T'=>r=.tuple []∧T'=T''):=by
       cases I6 vs q
       · exact a3k b5f (fun ρ=>rfl) T''
       · exact a3k b5c b0S T''
      refine WC.call hsr rfl rfl ?_
      rintro _ _ ⟨rfl,h7⟩
      replace h7:=h7.symm
      subst h7
      simp +contextual -implicitDefEqProofs only [K9,SS,rA,rS,rL,rE,reduceCtorEq]
      have hsn:Z6 q floor ver=q:=by unfold Z6; rw [hb]; rfl
      exact WC.ret ⟨_,_,rfl,_,_,_,by rw [hsn]; rfl⟩
end Go.Cb.CodeA
