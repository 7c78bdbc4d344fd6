/-
 RulesFrags: Contains over lists of texts; flat.
-/
import Derived.Test.YtendfdoplhhjbaaGreatDoorFS
set_option maxRecDepth 20000
set_option linter.unusedSimpArgs false
set_option linter.unusedVariables false
namespace Go.Cb.CodeA
open Go Go.Cb
open Nat renaming reduceAdd→rA,reduceSub→rS,reduceLeDiff→rL,reduceEqDiff→rE
attribute [local congr] L8 M4 Q9 R5 O5 N9 Y9 Y8 V.runR_congr
def H2 (x:List Nat):List AV:=[.str x]
/-- the first place of which it holds -/
def pI {α:Type} (p:α→Bool):List α→Option Nat
 | []=>none
 | x::xs=>if p x then some 0 else (pI p xs).map (fun j=>j+1)
def nI:Option Nat→Int
 | some i=>(i:Int)
 | none=>-1
theorem a0V {α:Type} (p:α→Bool) (x:α) (xs:List α):pI p (x::xs)=if p x then some 0 else (pI p xs).map (fun j=>j+1):=rfl
theorem a9u {α:Type} {p:α→Bool}:∀ {l:List α} {i:Nat},pI p l=some i→∃ x,l[i]?=some x∧p x=true∧i < l.length
 | [],_,h=>by cases h
 | x::xs,i,h=>by
  rw [a0V] at h
  by_cases hx:p x=true
  · rw [if_pos hx] at h; cases h; exact ⟨x,rfl,hx,by simp⟩
  · rw [if_neg hx] at h
    cases hq:pI p xs with
    | none=>rw [hq] at h; cases h
    | some j =>
     rw [hq] at h; cases h
     obtain ⟨y,h1,h2,h3⟩:=a9u hq
     exact ⟨y,by simpa using h1,h2,by simp; omega⟩
theorem a8Z {α:Type} {p:α→Bool}:∀ {l:List α},pI p l=none→∀ x∈l,p x=false
 | [],_=>by simp
 | y::ys,h=>by
  rw [a0V] at h
  by_cases hx:p y=true
  · rw [if_pos hx] at h; cases h
  · rw [if_neg hx] at h
    have hq:pI p ys=none:=by cases hq:pI p ys with|none=>rfl|some j=>rw [hq] at h; cases h
    intro x hm
    rcases List.mem_cons.1 hm with rfl|hm
    · simpa using hx
    · exact a8Z hq x hm
theorem b2z {α:Type} (p:α→Bool) (l:List α):(!ltI (nI (pI p l)) 0)=l.any p:=by
 rw [ltI_eq]
 cases hq:pI p l with
 | none =>
  rw [show l.any p=false by rw [List.any_eq_false]; intro x hx; simp [a8Z hq x hx]]
  rfl
 | some i =>
  obtain ⟨x,h1,h2,h3⟩:=a9u hq
  rw [show l.any p=true by rw [List.any_eq_true]; exact ⟨x,List.mem_of_getElem? h1,h2⟩]
  show (!decide (((i:Nat):Int) < 0))=true
  rw [decide_eq_false (by omega)]; rfl
def a2e (l:List (List Nat)) (n:List Nat):Bool:=l.any (fun x=>eqN n x)
theorem b8r (l:List (List Nat)) (hl:l.length≤10000) (n:List Nat) (st:St):EvQ tbl 67 [.list false (l.map H2),.str n] st (fun a st'=>st'=st∧a=.int .i64 (nI (pI (fun x=>eqN n x) l))):=by
 refine EvQ.body (fn:=a67) rfl rfl rfl ?_
 simp +contextual -implicitDefEqProofs only [K67,SS,rA,rS,rL,rE,reduceCtorEq,List.length_map]
 refine WC.loopR (fun mm fr st'=>st'=st∧∃ (i:Nat) (v3:AV),i≤l.length∧mm=l.length - i∧pI (fun x=>eqN n x) l=(pI (fun x=>eqN n x) (l.drop i)).map (fun j=>j+i)∧fr=[.list false (l.map H2),.str n,.int .i64 0,v3,.int .i64 l.length,.int .i64 i]) (m:=l.length) ⟨rfl,0,_,Nat.zero_le _,rfl,by simp,rfl⟩ ?_
 rintro mm fr st' ⟨rfl,i,v3,hi,rfl,hidx,rfl⟩
 simp +contextual -implicitDefEqProofs only [K67,SS,rA,rS,rL,rE,reduceCtorEq]
 by_cases hil:i < l.length
 · have e2:(l.map H2)[i]?=some (H2 l[i]):=by rw [List.getElem?_map,List.getElem?_eq_getElem hil]; rfl
   rw [List.drop_eq_getElem_cons hil,a0V] at hidx
   revert e2 hidx
   generalize l[i]=x
   intro hidx e2
   simp +contextual -implicitDefEqProofs only [K67,SS,rA,rS,rL,rE,reduceCtorEq,hil,e2,H2]
   refine WC.br (fun hx=>?_) (fun hx=>?_)
   · simp +contextual -implicitDefEqProofs only [K67,SS,rA,rS,rL,rE,reduceCtorEq]
     refine WC.leaveR ?_
     simp +contextual -implicitDefEqProofs only [K67,SS,rA,rS,rL,rE,reduceCtorEq]
     refine WC.ret ⟨_,_,rfl,rfl,?_⟩
     rw [hidx,if_pos hx]
     show _=AV.int .i64 ((0+i:Nat):Int)
     rw [Nat.zero_add]; rfl
   · simp +contextual -implicitDefEqProofs only [K67,SS,rA,rS,rL,rE,reduceCtorEq,E4 (show i+1 < 2 ^ 63 by omega)]
     refine WC.next (m':=l.length - (i+1)) (by omega) ⟨rfl,i+1,_,hil,rfl,?_,rfl⟩
     rw [hidx,if_neg (by rw [hx]; decide),Option.map_map]
     congr 1
     funext j
     show j+1+i=j+(i+1)
     omega
 · simp +contextual -implicitDefEqProofs only [K67,SS,rA,rS,rL,rE,reduceCtorEq,hil]
   refine WC.leave ?_
   simp +contextual -implicitDefEqProofs only [K67,SS,rA,rS,rL,rE,reduceCtorEq]
   refine WC.ret ⟨_,_,rfl,rfl,?_⟩
   rw [hidx,List.drop_of_length_le (by omega)]
   rfl
theorem b1r (l:List (List Nat)) (hl:l.length≤10000) (n:List Nat) (st:St):EvQ tbl 32 [.list false (l.map H2),.str n] st (fun a st'=>st'=st∧a=.bool (a2e l n)):=by
 refine EvQ.body (fn:=a32) rfl rfl rfl ?_
 simp +contextual -implicitDefEqProofs only [K32,SS,rA,rS,rL,rE,reduceCtorEq]
 refine WC.call (b8r l hl n st) rfl rfl ?_
 rintro _ _ ⟨rfl,rfl⟩
 simp +contextual -implicitDefEqProofs only [K32,SS,rA,rS,rL,rE,reduceCtorEq,b2z]
 exact WC.ret ⟨_,_,rfl,rfl,rfl⟩

/-- a selection: a field with what it spreads, or a fragment that is spread -/
inductive SK where
 | fld (nm:List Nat) (sub:List (List Nat))
 | spr (nm:List Nat)
def a0a (n:List Nat):List AV:=[.int .u8 2,.str [],.str n,.str [],.list false [],.list false [],.list false []]
def N0 (n:List Nat) (sub:List (List Nat)):List AV:=[.int .u8 1,.str [],.str n,.str [],.list false [],.list false [],.list false (sub.map a0a)]
def SK.row:SK→List AV
 | .fld n sub=>N0 n sub
 | .spr n=>a0a n
structure FG where
 nm:List Nat
 on:List Nat
 sub:List SK
def FG.fk (f:FG):FK:=⟨f.nm,f.on,f.sub.map SK.row⟩
def I7 (n:List Nat):List FG→Option FG
 | []=>none
 | f::fs=>if eqN f.nm n then some f else I7 n fs
theorem a0G (n:List Nat):∀ G:List FG,R4 n (G.map FG.fk)=(I7 n G).map FG.fk
 | []=>rfl
 | f::fs=>by
  rw [List.map_cons,R4,I7]
  show (if eqN f.nm n then _ else _)=_
  split
  · rfl
  · exact a0G n fs
/-- the fields that are told, and the fragments that are known -/
def A0 (G:List FG):Nat→List SK→List (List Nat)→Option (List (List Nat×List (List Nat))×List (List Nat))
 | 0,_,_=>none
 | _+1,[],seen=>some ([],seen)
 | n+1,.fld nm sub::l,seen=>match A0 G n l seen with
  | some (o,s)=>some ((nm,sub)::o,s)
  | none=>none
 | n+1,.spr nm::l,seen=>match I7 nm G with
  | none=>A0 G n l seen
  | some f=>match a2e seen nm with
   | true=>A0 G n l seen
   | false=>match A0 G n f.sub (seen++[nm]) with
    | some (o1,s1)=>match A0 G n l s1 with
     | some (o2,s2)=>some (o1++o2,s2)
     | none=>none
    | none=>none
theorem C3 {G:List FG}:∀ {n:Nat} {l:List SK} {seen:List (List Nat)} {o:List (List Nat×List (List Nat))} {s:List (List Nat)},A0 G n l seen=some (o,s)→seen.length≤s.length
 | 0,_,_,_,_,h=>by cases h
 | n+1,[],seen,o,s,h=>by simp only [A0,Option.some.injEq,Prod.mk.injEq] at h; rw [h.2]; exact Nat.le_refl _
 | n+1,.fld nm sub::l,seen,o,s,h=>by
  simp only [A0] at h
  split at h
  · rename_i hq
    simp only [Option.some.injEq,Prod.mk.injEq] at h
    rw [← h.2]; exact C3 hq
  · cases h
 | n+1,.spr nm::l,seen,o,s,h=>by
  simp only [A0] at h
  split at h
  · exact C3 h
  · split at h
    · exact C3 h
    · split at h
      · rename_i h1
        split at h
        · rename_i h2
          simp only [Option.some.injEq,Prod.mk.injEq] at h
          have a:=C3 h1
          have b:=C3 h2
          rw [← h.2]; simp at a; omega
        · cases h
      · cases h
def B0 (x:List Nat×List (List Nat)):List AV:=N0 x.1 x.2
def C5 (s:List (List Nat)):Cb.Obj:=.cells [.list true (s.map H2)]
theorem b45 {st:St} {p:Nat} {x:Cb.Obj} (h:st[p]?=some x):st.set p x=st:=by
 obtain ⟨hp,rfl⟩:=List.getElem?_eq_some_iff.1 h
 simp
theorem U3 {st:St} {p:Nat} {x y:Cb.Obj} (h:st[p]?=some x):(st.set p y)[p]?=some y:=by
 have hp:=(List.getElem?_eq_some_iff.1 h).1
 rw [List.getElem?_set_self hp]
theorem X8 {st:St} {p c:Nat} {y:Cb.Obj} (h:c≠p):(st.set p y)[c]?=st[c]?:=List.getElem?_set_ne (Ne.symm h)
theorem a0n {n:List Nat}:∀ {G:List FG} {f:FG},I7 n G=some f→f∈G
 | [],_,h=>by cases h
 | g::G,f,h=>by
  rw [I7] at h
  split at h
  · cases h; simp
  · exact List.mem_cons_of_mem _ (a0n h)
theorem a9y:∀ o:List (List Nat×List (List Nat)),j6 7 (o.map B0)=true
 | []=>rfl
 | _::_=>rfl
theorem b7G:∀ o:List (List Nat),j6 1 (o.map H2)=true
 | []=>rfl
 | _::_=>rfl
theorem e11:eqI 1 1=true:=rfl
theorem e12:eqI 1 2=false:=rfl
theorem e21:eqI 2 1=false:=rfl
theorem e22:eqI 2 2=true:=rfl
theorem c6u (G:List FG) (hG:G.length≤10000):∀ (N:Nat) {l:List SK} (hl:l.length≤10000) {seen:List (List Nat)} {out:List (List Nat×List (List Nat))} {s':List (List Nat)} (hf:A0 G N l seen=some (out,s')) (ho:out.length≤10000) (hs:s'.length≤10000)
 (hsub:∀ f∈G,f.sub.length≤10000) {c p:Nat} (hcp:c≠p) {s ops ou:AV} {st:St} (hc:st[c]?=some (chk s ops (G.map FG.fk) ou)) (hp:st[p]?=some (C5 seen)),
 EvQ tbl 112 [.ptr c 0,.list false (l.map SK.row),.ptr p 0] st (fun a st'=>st'=st.set p (C5 s')∧a=.list false (out.map B0)):=by
 intro N
 induction N using Nat.strongRecOn with
 | _ N ih =>
 intro l hl seen out s' hf ho hs hsub c p hcp s ops ou st hc hp
 refine EvQ.body (fn:=a112) rfl rfl rfl ?_
 simp +contextual -implicitDefEqProofs only [N3,SS,rA,rS,rL,rE,reduceCtorEq,List.length_map]
 refine WC.loopR (fun mm fr st'=>∃ (i:Nat) (o1 o2:List (List Nat×List (List Nat))) (s1:List (List Nat)) (M:Nat) (v5 v6 v7 v11:AV),i≤l.length∧mm=l.length - i∧M≤N∧A0 G M (l.drop i) s1=some (o2,s')∧out=o1++o2∧st'=st.set p (C5 s1)∧fr=[.ptr c 0,.list false (l.map SK.row),.ptr p 0,.list true [],.list true (o1.map B0),v5,v6,v7,.list false (l.map SK.row),.int .i64 l.length,.int .i64 i,v11]) (m:=l.length) ⟨0,[],out,seen,N,_,_,_,_,Nat.zero_le _,rfl,Nat.le_refl _,hf,rfl,(b45 hp).symm,rfl⟩ ?_
 rintro mm fr st' ⟨i,o1,o2,s1,M,v5,v6,v7,v11,hi,rfl,hM,hfl,rfl,rfl,rfl⟩
 have hs1:=C3 hfl
 have hp':(st.set p (C5 s1))[p]?=some (C5 s1):=U3 hp
 have hc':(st.set p (C5 s1))[c]?=some (chk s ops (G.map FG.fk) ou):=by rw [X8 hcp]; exact hc
 simp +contextual -implicitDefEqProofs only [N3,SS,rA,rS,rL,rE,reduceCtorEq]
 by_cases hil:i < l.length
 · rw [List.drop_eq_getElem_cons hil] at hfl
   have e2:(l.map SK.row)[i]?=some (l[i]).row:=by rw [List.getElem?_map,List.getElem?_eq_getElem hil]; rfl
   revert e2 hfl
   generalize l[i]=x
   intro hfl e2
   obtain ⟨M,rfl⟩:∃ j,M=j+1:=⟨M - 1,by cases M with|zero=>cases hfl|succ M=>rfl⟩
   cases x with
   | fld nm sub =>
    rw [show (SK.fld nm sub).row=[.int .u8 1,.str [],.str nm,.str [],.list false [],.list false [],.list false (sub.map a0a)] from rfl] at e2
    simp only [A0] at hfl
    split at hfl
    · rename_i o s hq
      simp only [Option.some.injEq,Prod.mk.injEq] at hfl
      obtain ⟨rfl,rfl⟩:=hfl
      simp +contextual -implicitDefEqProofs only [N3,SS,rA,rS,rL,rE,reduceCtorEq,hil,e2,e11,a9y,List.length_map]
      have hb:(o1.length+1)*128≤2 ^ 47:=by simp at ho; omega
      simp +contextual -implicitDefEqProofs only [N3,SS,rA,rS,rL,rE,reduceCtorEq,hb,E4 (show i+1 < 2 ^ 63 by omega)]
      exact WC.next (m':=l.length - (i+1)) (by omega) ⟨i+1,o1++[(nm,sub)],o,s1,M,_,_,_,_,hil,rfl,by omega,hq,by rw [List.append_assoc]; rfl,rfl,by rw [List.map_append]; rfl⟩
    · cases hfl
   | spr nm =>
    rw [show (SK.spr nm).row=[.int .u8 2,.str [],.str nm,.str [],.list false [],.list false [],.list false []] from rfl] at e2
    simp only [A0] at hfl
    simp +contextual -implicitDefEqProofs only [N3,SS,rA,rS,rL,rE,reduceCtorEq,hil,e2,e21,e22]
    refine WC.call (a6s (G.map FG.fk) (by simpa using hG) nm hc') rfl rfl ?_
    rintro _ _ ⟨rfl,rfl⟩
    rw [a0G]
    cases hfg:I7 nm G with
    | none =>
     rw [hfg] at hfl
     rw [show a0O (Option.map FG.fk none)=.tuple [.agg [.str [],.str [],.list false []],.bool false] from rfl]
     simp +contextual -implicitDefEqProofs only [N3,SS,rA,rS,rL,rE,reduceCtorEq,E4 (show i+1 < 2 ^ 63 by omega)]
     exact WC.next (m':=l.length - (i+1)) (by omega) ⟨i+1,o1,o2,s1,M,_,_,_,_,hil,rfl,by omega,hfl,rfl,rfl,rfl⟩
    | some f =>
     rw [hfg] at hfl
     rw [show a0O (Option.map FG.fk (some f))=.tuple [.agg [.str f.nm,.str f.on,.list false (f.sub.map SK.row)],.bool true] from rfl]
     generalize hB:st.set p (C5 s1)=B at *
     unfold C5 at hp'
     simp +contextual -implicitDefEqProofs only [N3,SS,rA,rS,rL,rE,reduceCtorEq,hp']
     refine WC.call (b1r s1 (by omega) nm B) rfl rfl ?_
     rintro _ _ ⟨rfl,rfl⟩
     dsimp only at hfl
     cases hh:a2e s1 nm with
     | true =>
      rw [hh] at hfl
      simp +contextual -implicitDefEqProofs only [N3,SS,rA,rS,rL,rE,reduceCtorEq,hh,E4 (show i+1 < 2 ^ 63 by omega)]
      exact WC.next (m':=l.length - (i+1)) (by omega) ⟨i+1,o1,o2,s1,M,_,_,_,_,hil,rfl,by omega,hfl,rfl,hB.symm,rfl⟩
     | false =>
      rw [hh] at hfl
      dsimp only at hfl
      split at hfl
      · rename_i o3 s3 h3
        split at hfl
        · rename_i o4 s4 h4
          simp only [Option.some.injEq,Prod.mk.injEq] at hfl
          obtain ⟨rfl,rfl⟩:=hfl
          have l3:=C3 h3
          have l4:=C3 h4
          simp only [List.length_append,List.length_cons,List.length_nil] at l3 ho
          have hb1:(s1.length+1)*16≤2 ^ 47:=by omega
          have hp2:=U3 (y:=.cells [.list false (s1.map H2)]) hp'
          simp +contextual -implicitDefEqProofs only [N3,SS,rA,rS,rL,rE,reduceCtorEq,hh,hp',b7G,List.length_map,hb1,hp2,List.set_set]
          have hfm:f∈G:=a0n hfg
          refine WC.call (ih M (by omega) (l:=f.sub) (hsub f hfm) h3 (by omega) (by omega) hsub hcp (st:=List.set _ p (.cells [.list true (s1.map H2++[[.str nm]])])) (by rw [X8 hcp]; exact hc') (by rw [U3 hp']; unfold C5; rw [List.map_append]; rfl)) rfl rfl ?_
          rintro _ _ ⟨rfl,rfl⟩
          have hb2:(o1.length+o3.length)*128≤2 ^ 47:=by omega
          simp +contextual -implicitDefEqProofs only [N3,SS,rA,rS,rL,rE,reduceCtorEq,a9y,List.length_map,hb2,E4 (show i+1 < 2 ^ 63 by omega),List.set_set]
          exact WC.next (m':=l.length - (i+1)) (by omega) ⟨i+1,o1++o3,o4,s3,M,_,_,_,_,hil,rfl,by omega,h4,by rw [List.append_assoc],by rw [← hB,List.set_set],by rw [List.map_append]⟩
        · cases hfl
      · cases hfl
 · simp +contextual -implicitDefEqProofs only [N3,SS,rA,rS,rL,rE,reduceCtorEq,hil]
   refine WC.leave ?_
   simp +contextual -implicitDefEqProofs only [N3,SS,rA,rS,rL,rE,reduceCtorEq]
   rw [List.drop_of_length_le (by omega)] at hfl
   obtain ⟨M,rfl⟩:∃ j,M=j+1:=⟨M - 1,by cases M with|zero=>cases hfl|succ M=>rfl⟩
   simp only [A0,Option.some.injEq,Prod.mk.injEq] at hfl
   obtain ⟨rfl,rfl⟩:=hfl
   exact WC.ret ⟨_,_,rfl,rfl,by rw [List.append_nil]; rfl⟩
end Go.Cb.CodeA
