/-
 RulesFrags: what reach answers, and what it leaves behind.
-/
import Derived.Test.YtendfdoplhhjbaaGreatDoorFU
set_option maxRecDepth 20000
set_option linter.unusedSimpArgs false
set_option linter.unusedVariables false
namespace Go.Cb.CodeA
open Go Go.Cb
open Nat renaming reduceAdd→rA,reduceSub→rS,reduceLeDiff→rL,reduceEqDiff→rE
attribute [local congr] L8 M4 Q9 R5 O5 N9 Y9 Y8 V.runR_congr
/-- texts as an object of their own -/
def X3 (s:List (List Nat)):Cb.Obj:=.cells (s.map AV.str)
def n7:Option Nat→List (List Nat)→AV
 | none,_=>.nils
 | some o,s=>.sl o 0 s.length 1
def R2 (c:Nat) (st:St):Option Nat→List (List Nat)→Prop
 | none,s=>s=[]
 | some o,s=>st[o]?=some (X3 s)∧o≠c∧s≠[]
def S2 (st:St) (v:Option Nat) (s:List (List Nat)) (n:List Nat):St:=(match v with|none=>st|some o=>st.set o .dead)++[X3 (s++[n])]
theorem a8W {c:Nat} {st:St} {v:Option Nat} {s:List (List Nat)} (h:R2 c st v s) (n:List Nat) {X:Cb.Obj} (hc:st[c]?=some X):R2 c (S2 st v s n) (some st.length) (s++[n])∧(S2 st v s n)[c]?=some X:=by
 have hl:=(List.getElem?_eq_some_iff.1 hc).1
 refine ⟨⟨?_,by omega,by simp⟩,?_⟩
 · unfold S2
   cases v with
   | none=>exact P0 _ _
   | some o=>rw [List.getElem?_append_right (by simp)]; simp
 · unfold S2
   cases v with
   | none=>exact a4i hc
   | some o=>exact a4i (by rw [X8 (Ne.symm h.2.1)]; exact hc)
/-- fragments that are come to -/
def n6 (G:List FG):Nat→List SK→Option Nat→List (List Nat)→St→Option (Option Nat×List (List Nat)×St)
 | 0,_,_,_,_=>none
 | _+1,[],v,s,st=>some (v,s,st)
 | n+1,.fld _ sub::l,v,s,st=>match n6 G n (sub.map SK.spr) v s st with
  | some (v2,s2,st2)=>n6 G n l v2 s2 st2
  | none=>none
 | n+1,.spr nm::l,v,s,st=>match I7 nm G with
  | none=>n6 G n l v s st
  | some f=>match a2e s nm with
   | true=>n6 G n l v s st
   | false=>match n6 G n f.sub (some st.length) (s++[nm]) (S2 st v s nm) with
    | some (v2,s2,st2)=>n6 G n l v2 s2 st2
    | none=>none
theorem q6 {G:List FG} {c:Nat} {X:Cb.Obj}:∀ {n:Nat} {l:List SK} {v:Option Nat} {s:List (List Nat)} {st:St} {v':Option Nat} {s':List (List Nat)} {st':St},n6 G n l v s st=some (v',s',st')→R2 c st v s→st[c]?=some X→R2 c st' v' s'∧st'[c]?=some X∧s.length≤s'.length
 | 0,_,_,_,_,_,_,_,h,_,_=>by cases h
 | n+1,[],v,s,st,v',s',st',h,hv,hc=>by
  simp only [n6,Option.some.injEq,Prod.mk.injEq] at h
  obtain ⟨rfl,rfl,rfl⟩:=h
  exact ⟨hv,hc,Nat.le_refl _⟩
 | n+1,.fld nm sub::l,v,s,st,v',s',st',h,hv,hc=>by
  simp only [n6] at h
  split at h
  · rename_i h1
    obtain ⟨a,b,d⟩:=q6 h1 hv hc
    obtain ⟨a',b',d'⟩:=q6 h a b
    exact ⟨a',b',by omega⟩
  · cases h
 | n+1,.spr nm::l,v,s,st,v',s',st',h,hv,hc=>by
  simp only [n6] at h
  split at h
  · exact q6 h hv hc
  · split at h
    · exact q6 h hv hc
    · split at h
      · rename_i h1
        have hp:=a8W hv nm hc
        obtain ⟨a,b,d⟩:=q6 h1 hp.1 hp.2
        obtain ⟨a',b',d'⟩:=q6 h a b
        exact ⟨a',b',by simp at d; omega⟩
      · cases h
theorem b5i (n:List Nat) (st:St):EvQ tbl 67 [.nils,.str n] st (fun a st'=>st'=st∧a=.int .i64 (-1)):=by
 refine EvQ.body (fn:=a67) rfl rfl rfl ?_
 have hlt:ltI 0 ((0:Nat):Int)=false:=rfl
 have hlt2:ltI 0 0=false:=rfl
 simp +contextual -implicitDefEqProofs only [K67,SS,rA,rS,rL,rE,reduceCtorEq]
 refine WC.loopR (fun mm fr st'=>st'=st∧fr=[.nils,.str n,.int .i64 0,.undef,.int .i64 0,.int .i64 0]) (m:=0) ⟨rfl,rfl⟩ ?_
 rintro mm fr st' ⟨rfl,rfl⟩
 simp +contextual -implicitDefEqProofs only [K67,SS,rA,rS,rL,rE,reduceCtorEq,hlt,hlt2]
 refine WC.leave ?_
 simp +contextual -implicitDefEqProofs only [K67,SS,rA,rS,rL,rE,reduceCtorEq]
 exact WC.ret ⟨_,_,rfl,rfl,rfl⟩
theorem b4w (l:List (List Nat)) (hl:l.length≤10000) (n:List Nat) {o:Nat} {st:St} (ho:st[o]?=some (X3 l)):EvQ tbl 67 [.sl o 0 l.length 1,.str n] st (fun a st'=>st'=st∧a=.int .i64 (nI (pI (fun x=>eqN n x) l))):=by
 unfold X3 at ho
 refine EvQ.body (fn:=a67) rfl rfl rfl ?_
 simp +contextual -implicitDefEqProofs only [K67,SS,rA,rS,rL,rE,reduceCtorEq]
 refine WC.loopR (fun mm fr st'=>st'=st∧∃ (i:Nat) (v3:AV),i≤l.length∧mm=l.length - i∧pI (fun x=>eqN n x) l=(pI (fun x=>eqN n x) (l.drop i)).map (fun j=>j+i)∧fr=[.sl o 0 l.length 1,.str n,.int .i64 0,v3,.int .i64 l.length,.int .i64 i]) (m:=l.length) ⟨rfl,0,_,Nat.zero_le _,rfl,by simp,rfl⟩ ?_
 rintro mm fr st' ⟨rfl,i,v3,hi,rfl,hidx,rfl⟩
 simp +contextual -implicitDefEqProofs only [K67,SS,rA,rS,rL,rE,reduceCtorEq]
 by_cases hil:i < l.length
 · have e2:(l.map AV.str).drop i=.str l[i]::(l.map AV.str).drop (i+1):=by
    rw [List.drop_eq_getElem_cons (by simpa using hil),List.getElem_map]
   rw [List.drop_eq_getElem_cons hil,a0V] at hidx
   revert e2 hidx
   generalize l[i]=x
   intro hidx e2
   have hil':((i:Nat):Int) < ((l.length:Nat):Int):=by omega
   simp +contextual -implicitDefEqProofs only [K67,SS,rA,rS,rL,rE,reduceCtorEq,hil,hil',ho,e2,Nat.mul_one]
   refine WC.br (fun hx=>?_) (fun hx=>?_)
   · simp +contextual -implicitDefEqProofs only [K67,SS,rA,rS,rL,rE,reduceCtorEq]
     refine WC.leaveR ?_
     simp +contextual -implicitDefEqProofs only [K67,SS,rA,rS,rL,rE,reduceCtorEq]
     refine WC.ret ⟨_,_,rfl,rfl,?_⟩
     rw [hidx,if_pos hx]
     show _=AV.int .i64 ((0+i:Nat):Int)
     rw [Nat.zero_add]; rfl
   · simp +contextual -implicitDefEqProofs only [K67,SS,rA,rS,rL,rE,reduceCtorEq,E4 (show i+1 < 2 ^ 63 by omega)]
     refine WC.next (m':=l.length - (i+1)) (by omega) ⟨rfl,i+1,_,hil,rfl,?_,rfl⟩
     rw [hidx,if_neg (by rw [hx]; decide),Option.map_map]
     congr 1
     funext j
     show j+1+i=j+(i+1)
     omega
 · simp +contextual -implicitDefEqProofs only [K67,SS,rA,rS,rL,rE,reduceCtorEq,hil]
   refine WC.leave ?_
   simp +contextual -implicitDefEqProofs only [K67,SS,rA,rS,rL,rE,reduceCtorEq]
   refine WC.ret ⟨_,_,rfl,rfl,?_⟩
   rw [hidx,List.drop_of_length_le (by omega)]
   rfl
theorem c06 {c:Nat} {v:Option Nat} {s:List (List Nat)} (hs:s.length≤10000) (n:List Nat) {st:St} (hv:R2 c st v s):EvQ tbl 32 [n7 v s,.str n] st (fun a st'=>st'=st∧a=.bool (a2e s n)):=by
 cases v with
 | none =>
  obtain rfl:s=[]:=hv
  refine EvQ.body (fn:=a32) rfl rfl rfl ?_
  have hlt:ltI (-1) 0=true:=rfl
  unfold n7
  simp +contextual -implicitDefEqProofs only [K32,SS,rA,rS,rL,rE,reduceCtorEq]
  refine WC.call (b5i n st) rfl rfl ?_
  rintro _ _ ⟨rfl,rfl⟩
  simp +contextual -implicitDefEqProofs only [K32,SS,rA,rS,rL,rE,reduceCtorEq,hlt]
  exact WC.ret ⟨_,_,rfl,rfl,rfl⟩
 | some o =>
  refine EvQ.body (fn:=a32) rfl rfl rfl ?_
  unfold n7
  simp +contextual -implicitDefEqProofs only [K32,SS,rA,rS,rL,rE,reduceCtorEq]
  refine WC.call (b4w s hs n hv.1) rfl rfl ?_
  rintro _ _ ⟨rfl,rfl⟩
  simp +contextual -implicitDefEqProofs only [K32,SS,rA,rS,rL,rE,reduceCtorEq,b2z]
  exact WC.ret ⟨_,_,rfl,rfl,rfl⟩
theorem b0K (r:Option FG):∃ fn fo fs b,a0O (Option.map FG.fk r)=.tuple [.agg [.str fn,.str fo,.list false fs],.bool b]:=by
 cases r with
 | none=>exact ⟨[],[],[],false,rfl⟩
 | some f=>exact ⟨f.nm,f.on,f.sub.map SK.row,true,rfl⟩
theorem b3Z (sub:List (List Nat)):sub.map a0a=(sub.map SK.spr).map SK.row:=by rw [List.map_map]; rfl
theorem Y4 (v:Option Nat) (s:List (List Nat)):(n7 v s).weak=n7 v s∧(n7 v s).weak1=n7 v s∧(n7 v s).strip=n7 v s∧(n7 v s).stripB=n7 v s∧(n7 v s).plain=true:=by
 cases v <;> exact ⟨rfl,rfl,rfl,rfl,rfl⟩
theorem b8O (G:List FG) (hG:G.length≤10000) (hsub:∀ f∈G,f.sub.length≤10000) (hsub2:∀ f∈G,∀ n b,SK.fld n b∈f.sub→b.length≤10000) {c:Nat} {si ops ou:AV}:∀ (N:Nat) {l:List SK} (hl:l.length≤10000) (hl2:∀ n b,SK.fld n b∈l→b.length≤10000) {v:Option Nat} {s:List (List Nat)} {st:St} {v':Option Nat} {s':List (List Nat)} {st':St}
 (hf:n6 G N l v s st=some (v',s',st')) (hs:s'.length≤9000) (hv:R2 c st v s) (hc:st[c]?=some (chk si ops (G.map FG.fk) ou)),
 EvQ tbl 30 [.ptr c 0,.list false (l.map SK.row),n7 v s] st (fun a st2=>st2=st'∧a=n7 v' s'):=by
 intro N
 induction N using Nat.strongRecOn with
 | _ N ih =>
 intro l hl hl2 v s st v' s' st' hf hs hv hc
 refine EvQ.body (fn:=a30) rfl rfl rfl ?_
 obtain ⟨w1,w2,w3,w4,w5⟩:=Y4 v s
 simp +contextual -implicitDefEqProofs only [K30,SS,rA,rS,rL,rE,reduceCtorEq,List.length_map,w1,w2,w3,w4,w5]
 refine WC.loopR (fun mm fr st2=>∃ (i M:Nat) (v2:Option Nat) (s2:List (List Nat)) (v4 v5 v6:AV),i≤l.length∧mm=l.length - i∧M≤N∧n6 G M (l.drop i) v2 s2 st2=some (v',s',st')∧R2 c st2 v2 s2∧st2[c]?=some (chk si ops (G.map FG.fk) ou)∧fr=[.ptr c 0,.list false (l.map SK.row),n7 v2 s2,.list true [],v4,v5,v6,.list false (l.map SK.row),.int .i64 l.length,.int .i64 i]) (m:=l.length) ⟨0,N,v,s,_,_,_,Nat.zero_le _,rfl,Nat.le_refl _,hf,hv,hc,rfl⟩ ?_
 rintro mm fr st2 ⟨i,M,v2,s2,v4,v5,v6,hi,rfl,hM,hfl,hv2,hc2,rfl⟩
 obtain ⟨w1,w2,w3,w4,w5⟩:=Y4 v2 s2
 have hle:=(q6 hfl hv2 hc2).2.2
 simp +contextual -implicitDefEqProofs only [K30,SS,rA,rS,rL,rE,reduceCtorEq]
 by_cases hil:i < l.length
 · rw [List.drop_eq_getElem_cons hil] at hfl
   have e2:(l.map SK.row)[i]?=some (l[i]).row:=by rw [List.getElem?_map,List.getElem?_eq_getElem hil]; rfl
   have hmem:l[i]∈l:=List.getElem_mem hil
   revert e2 hfl hmem
   generalize l[i]=x
   intro hfl e2 hmem
   obtain ⟨M,rfl⟩:∃ j,M=j+1:=⟨M - 1,by cases M with|zero=>cases hfl|succ M=>rfl⟩
   cases x with
   | fld nm sub =>
    rw [show (SK.fld nm sub).row=[.int .u8 1,.str [],.str nm,.str [],.list false [],.list false [],.list false (sub.map a0a)] from rfl] at e2
    simp only [n6] at hfl
    simp +contextual -implicitDefEqProofs only [K30,SS,rA,rS,rL,rE,reduceCtorEq,hil,e2]
    refine WC.call (a6s (G.map FG.fk) (by simpa using hG) nm hc2) rfl rfl ?_
    rintro _ _ ⟨rfl,rfl⟩
    rw [a0G]
    obtain ⟨fn,fo,fs,b,hsh⟩:=b0K (I7 nm G)
    rw [hsh]
    split at hfl
    · rename_i v3 s3 st3 h3
      obtain ⟨hv3,hc3,hl3⟩:=q6 h3 hv2 hc2
      have hl4:=(q6 hfl hv3 hc3).2.2
      simp +contextual -implicitDefEqProofs only [K30,SS,rA,rS,rL,rE,reduceCtorEq,e12,Bool.not_false]
      refine WC.call (ih M (by omega) (l:=sub.map SK.spr) (by have:=hl2 nm sub hmem; simpa using this) (fun n b h=>by simp at h) h3 (by omega) hv2 hc2) (by cases v2 <;> rfl) (by rw [← b3Z]; cases v2 <;> rfl) ?_
      rintro _ _ ⟨rfl,rfl⟩
      obtain ⟨z1,z2,z3,z4,z5⟩:=Y4 v3 s3
      simp +contextual -implicitDefEqProofs only [K30,SS,rA,rS,rL,rE,reduceCtorEq,z1,z2,z3,z4,z5,E4 (show i+1 < 2 ^ 63 by omega)]
      exact WC.next (m':=l.length - (i+1)) (by omega) ⟨i+1,M,v3,s3,_,_,_,hil,rfl,by omega,hfl,hv3,hc3,rfl⟩
    · cases hfl
   | spr nm =>
    rw [show (SK.spr nm).row=[.int .u8 2,.str [],.str nm,.str [],.list false [],.list false [],.list false []] from rfl] at e2
    simp only [n6] at hfl
    simp +contextual -implicitDefEqProofs only [K30,SS,rA,rS,rL,rE,reduceCtorEq,hil,e2]
    refine WC.call (a6s (G.map FG.fk) (by simpa using hG) nm hc2) rfl rfl ?_
    rintro _ _ ⟨rfl,rfl⟩
    rw [a0G]
    cases hfg:I7 nm G with
    | none =>
     rw [hfg] at hfl
     rw [show a0O (Option.map FG.fk none)=.tuple [.agg [.str [],.str [],.list false []],.bool false] from rfl]
     simp +contextual -implicitDefEqProofs only [K30,SS,rA,rS,rL,rE,reduceCtorEq,e22,Bool.not_true,w1,w2,w3,w4,w5,E4 (show i+1 < 2 ^ 63 by omega)]
     exact WC.next (m':=l.length - (i+1)) (by omega) ⟨i+1,M,v2,s2,_,_,_,hil,rfl,by omega,hfl,hv2,hc2,rfl⟩
    | some f =>
     rw [hfg] at hfl
     dsimp only at hfl
     rw [show a0O (Option.map FG.fk (some f))=.tuple [.agg [.str f.nm,.str f.on,.list false (f.sub.map SK.row)],.bool true] from rfl]
     simp +contextual -implicitDefEqProofs only [K30,SS,rA,rS,rL,rE,reduceCtorEq,e22,Bool.not_true,w1,w2,w3,w4,w5]
     refine WC.call (c06 (by omega) nm hv2) (by cases v2 <;> rfl) (by cases v2 <;> rfl) ?_
     rintro _ _ ⟨rfl,rfl⟩
     cases hh:a2e s2 nm with
     | true =>
      rw [hh] at hfl
      simp +contextual -implicitDefEqProofs only [K30,SS,rA,rS,rL,rE,reduceCtorEq,e22,Bool.not_true,w1,w2,w3,w4,w5,E4 (show i+1 < 2 ^ 63 by omega)]
      exact WC.next (m':=l.length - (i+1)) (by omega) ⟨i+1,M,v2,s2,_,_,_,hil,rfl,by omega,hfl,hv2,hc2,rfl⟩
     | false =>
      rw [hh] at hfl
      dsimp only at hfl
      split at hfl
      · rename_i v3 s3 st3 h3
        have hpu:=a8W hv2 nm hc2
        obtain ⟨hv3,hc3,hl3⟩:=q6 h3 hpu.1 hpu.2
        have hl4:=(q6 hfl hv3 hc3).2.2
        have hfm:f∈G:=a0n hfg
        have hcall:=ih M (by omega) (l:=f.sub) (hsub f hfm) (fun n b h=>hsub2 f hfm n b h) h3 (by omega) hpu.1 hpu.2
        obtain ⟨z1,z2,z3,z4,z5⟩:=Y4 v3 s3
        rw [List.length_append] at hl3
        simp only [List.length_cons,List.length_nil] at hl3
        have fin:∀ (v4 v5 v6:AV),∃ m' fr' st'',(Ex.normal,[AV.ptr c 0,.list false (l.map SK.row),n7 v3 s3,.list true [],v4,v5,v6,.list false (l.map SK.row),.int .i64 l.length,.int .i64 (((i+1:Nat)):Int)],st3)=(Ex.normal,fr',st'')∧m' < l.length - i∧∃ (i M:Nat) (v2:Option Nat) (s2:List (List Nat)) (v4 v5 v6:AV),i≤l.length∧m'=l.length - i∧M≤N∧n6 G M (l.drop i) v2 s2 st''=some (v',s',st')∧R2 c st'' v2 s2∧st''[c]?=some (chk si ops (G.map FG.fk) ou)∧fr'=[.ptr c 0,.list false (l.map SK.row),n7 v2 s2,.list true [],v4,v5,v6,.list false (l.map SK.row),.int .i64 l.length,.int .i64 i] :=
         fun v4 v5 v6=>⟨l.length - (i+1),_,_,rfl,by omega,i+1,M,v3,s3,_,_,_,hil,rfl,by omega,hfl,hv3,hc3,rfl⟩
        cases v2 with
        | none =>
         obtain rfl:s2=[]:=hv2
         rw [show n7 none []=.nils from rfl]
         simp +contextual -implicitDefEqProofs only [K30,SS,rA,rS,rL,rE,reduceCtorEq,e22,hh,Bool.not_false,show (1:Nat)*16≤2 ^ 47 from by decide]
         refine WC.call (P:=fun a st2=>st2=st3∧a=n7 v3 s3) (by exact hcall) rfl rfl ?_
         rintro _ _ ⟨rfl,rfl⟩
         simp +contextual -implicitDefEqProofs only [K30,SS,rA,rS,rL,rE,reduceCtorEq,e22,Bool.not_true,z1,z2,z3,z4,z5,E4 (show i+1 < 2 ^ 63 by omega)]
         exact WC.ret (.inl (fin _ _ _))
        | some o =>
         have ho:=hv2.1
         have hb:(s2.length+1)*16≤2 ^ 47:=by omega
         unfold X3 at ho
         rw [show n7 (some o) s2=.sl o 0 s2.length 1 from rfl]
         have q1:∀ k,n7 (some k) (s2++[nm])=.sl k 0 (s2.length+1) 1:=fun k=>by show AV.sl k 0 (s2++[nm]).length 1=_; rw [List.length_append]; rfl
         have q2:∀ X:St,S2 X (some o) s2 nm=X.set o .dead++[.cells (s2.map AV.str++[.str nm])]:=fun X=>by show X.set o .dead++[Cb.Obj.cells ((s2++[nm]).map AV.str)]=_; rw [List.map_append]; rfl
         rw [q1,q2] at hcall
         simp +contextual -implicitDefEqProofs only [K30,SS,rA,rS,rL,rE,reduceCtorEq,e22,hh,Bool.not_false,ho,List.length_map,Nat.mul_one,hb]
         refine WC.call hcall rfl rfl ?_
         rintro _ _ ⟨rfl,rfl⟩
         simp +contextual -implicitDefEqProofs only [K30,SS,rA,rS,rL,rE,reduceCtorEq,e22,Bool.not_true,z1,z2,z3,z4,z5,E4 (show i+1 < 2 ^ 63 by omega)]
         exact WC.ret (.inl (fin _ _ _))
      · cases hfl
 · simp +contextual -implicitDefEqProofs only [K30,SS,rA,rS,rL,rE,reduceCtorEq,hil]
   refine WC.leave ?_
   simp +contextual -implicitDefEqProofs only [K30,SS,rA,rS,rL,rE,reduceCtorEq,w1,w2,w3,w4,w5]
   rw [List.drop_of_length_le (by omega)] at hfl
   obtain ⟨M,rfl⟩:∃ j,M=j+1:=⟨M - 1,by cases M with|zero=>cases hfl|succ M=>rfl⟩
   simp only [n6,Option.some.injEq,Prod.mk.injEq] at hfl
   obtain ⟨rfl,rfl,rfl⟩:=hfl
   exact WC.ret ⟨_,_,rfl,rfl,w1⟩
end Go.Cb.CodeA
