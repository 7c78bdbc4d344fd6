/-
 RulesFrags: merge, where all fields are one.
-/
import Derived.Test.YtendfdoplhhjbaaGreatDoorFT
import Derived.KernelRfl
set_option maxRecDepth 20000
set_option linter.unusedSimpArgs false
set_option linter.unusedVariables false
namespace Go.Cb.CodeA
open Go Go.Cb
open Nat renaming reduceAdd→rA,reduceSub→rS,reduceLeDiff→rL,reduceEqDiff→rE
attribute [local congr] L8 M4 Q9 R5 O5 N9 Y9 Y8 V.runR_congr
theorem WC.callA {β:Type} {f m:Nat} {as as':List AV} {bx:AV} {st:St} {k:Nat→AV×St→Option β} {P:AV→St→Prop} {Q:β→Prop}
 (h:EvQ tbl f as' st P) (hp:l7 (as.take m)=true) (hw:(as.take m).map AV.weak=as') (hk:∀ r st',P r st'→kept st st' (as.drop m)=true∧WC (fun n=>k n (r,st')) Q):WC (fun n=>Go.Cb.obind (p2 (n4 f m (e8 tbl n) as bx st)) (k n)) Q:=by
 obtain ⟨r,st',he,hq⟩:=h
 obtain ⟨n0,h0⟩:=he.ge
 obtain ⟨hkk,hkw⟩:=hk r st' hq
 refine WC.obind (P:=fun x=>x=(r,st')) ⟨n0,(r,st'),fun n hn=>?_,rfl⟩ (fun a ha=>ha ▸ hkw)
 simp only [n4,k5,hp,if_true,hw,h0 n hn,Option.map_some,hkk,V0]
theorem c0L (call:b7) (bx:AV) (st:St) (agg:Bool) (n o off p f:Nat):u9 agg n call [.ptr o off,.ptr p f] bx st=if Nat.beq o p=true then n9 agg n call [.ptr o off] bx st else none:=b6 rfl
theorem enn:eqN [] []=true:=rfl
theorem b3K (n:Nat):Nat.beq n n=true:=Nat.beq_refl n
theorem b6e (n:List Nat) (sub:List (List Nat)) (st:St):EvQ tbl 9 [.agg (N0 n sub)] st (fun a st'=>st'=st∧a=.str n):=by
 unfold N0
 refine EvQ.body (fn:=a9) rfl rfl rfl ?_
 simp +contextual -implicitDefEqProofs only [K9,SS,rA,rS,rL,rE,reduceCtorEq,enn,Bool.not_true]
 exact WC.ret ⟨_,_,rfl,rfl,rfl⟩
theorem d17 (n m:List Nat) (sub sub2:List (List Nat)) {b:Nat} {st:St} (hb:st[b]?=some (.cells (N0 m sub2))):EvQ tbl 114 [.agg (N0 n sub),.ptr b 0] st (fun a st'=>st'=st∧a=.bool (eqN n m)):=by
 unfold N0 at hb ⊢
 refine EvQ.body (fn:=a114) rfl rfl rfl ?_
 have hk:kept st st [AV.ptr b 0]=true:=by
  simp only [kept,I4,hb,Bool.and_true]
  rw [Z8]
 simp +contextual -implicitDefEqProofs only [b5s,SS,rA,rS,rL,rE,reduceCtorEq,hb,c0L,b3K]
 refine WC.callA (b6e n sub st) rfl rfl ?_
 rintro _ _ ⟨rfl,rfl⟩
 refine ⟨hk,?_⟩
 simp +contextual -implicitDefEqProofs only [b5s,SS,rA,rS,rL,rE,reduceCtorEq,List.set_nil]
 refine WC.call (b6e m sub2 _) rfl rfl ?_
 rintro _ _ ⟨rfl,rfl⟩
 simp +contextual -implicitDefEqProofs only [b5s,SS,rA,rS,rL,rE,reduceCtorEq,List.set_nil]
 exact WC.ret ⟨_,_,rfl,rfl,rfl⟩
theorem d01 {x y:List Nat×List (List Nat)} {O:List (List Nat×List (List Nat))} (h:eqN x.1 y.1=true) {b:Nat} {st:St} (hb:st[b]?=some (.cells (B0 y))):EvQ tbl 113 [.list false ((x::O).map B0),.func 114 [] [.ptr b 0]] st (fun a st'=>st'=st∧a=.int .i64 0):=by
 refine EvQ.body (fn:=a113) rfl rfl rfl ?_
 rw [List.map_cons]
 generalize hl:B0 x::O.map B0=L
 have h0:L[0]?=some (N0 x.1 x.2):=by rw [← hl]; rfl
 have hlen:L.length=O.length+1:=by rw [← hl]; simp
 simp +contextual -implicitDefEqProofs only [b0J,SS,rA,rS,rL,rE,reduceCtorEq]
 refine WC.loopR (fun mm fr st'=>st'=st∧∃ v3:AV,fr=[.list false L,.func 114 [] [.ptr b 0],.int .i64 0,v3,.int .i64 L.length,.int .i64 ((0:Nat):Int)]) (m:=0) ⟨rfl,_,rfl⟩ ?_
 rintro mm fr st' ⟨rfl,v3,rfl⟩
 have hlt:ltI ((0:Nat):Int) (L.length:Int)=true:=by rw [ltI_eq]; simp; omega
 unfold N0 at h0
 simp +contextual -implicitDefEqProofs only [b0J,SS,rA,rS,rL,rE,reduceCtorEq,hlt,h0]
 refine WC.callV (d17 x.1 y.1 x.2 y.2 hb) rfl rfl ?_
 rintro _ _ ⟨rfl,rfl⟩
 simp +contextual -implicitDefEqProofs only [b0J,SS,rA,rS,rL,rE,reduceCtorEq,h]
 refine WC.leaveR ?_
 simp +contextual -implicitDefEqProofs only [b0J,SS,rA,rS,rL,rE,reduceCtorEq]
 exact WC.ret ⟨_,_,rfl,rfl,rfl⟩
theorem a8B (st:St) (y z:Cb.Obj):(st++[y]).set st.length z=st++[z]:=by
 rw [List.set_append_right _ _ (Nat.le_refl _),Nat.sub_self]; rfl
def a2s:List Nat×List (List Nat):=([110,97,109,101],[])
theorem c6j (b:Nat) (st:St):EvQ tbl 182 [.list false [],.func 168 [] [.ptr b 0]] st (fun a st'=>st'=st∧a=.int .i64 (-1)):=by
 refine EvQ.body (fn:=a182) rfl rfl rfl ?_
 have hlt:ltI 0 ((0:Nat):Int)=false:=rfl
 simp +contextual -implicitDefEqProofs only [b4u,SS,rA,rS,rL,rE,reduceCtorEq]
 refine WC.loopR (fun mm fr st'=>st'=st∧fr=[.list false [],.func 168 [] [.ptr b 0],.int .i64 0,.undef,.int .i64 ((0:Nat):Int),.int .i64 0]) (m:=0) ⟨rfl,rfl⟩ ?_
 rintro mm fr st' ⟨rfl,rfl⟩
 simp +contextual -implicitDefEqProofs only [b4u,SS,rA,rS,rL,rE,reduceCtorEq,hlt]
 refine WC.leave ?_
 simp +contextual -implicitDefEqProofs only [b4u,SS,rA,rS,rL,rE,reduceCtorEq]
 exact WC.ret ⟨_,_,rfl,rfl,rfl⟩
theorem c3E (b:Nat) (st:St):EvQ tbl 167 [.list false [],.func 168 [] [.ptr b 0]] st (fun a st'=>st'=st∧a=.bool false):=by
 refine EvQ.body (fn:=a167) rfl rfl rfl ?_
 have hlt:ltI (-1) 0=true:=rfl
 simp +contextual -implicitDefEqProofs only [d7K,SS,rA,rS,rL,rE,reduceCtorEq]
 refine WC.call (c6j b st) rfl rfl ?_
 rintro _ _ ⟨rfl,rfl⟩
 simp +contextual -implicitDefEqProofs only [d7K,SS,rA,rS,rL,rE,reduceCtorEq,hlt]
 exact WC.ret ⟨_,_,rfl,rfl,rfl⟩
def noO:Cb.Obj:=.cells [.list false []]
theorem d78 (st:St):EvQ tbl 149 [.list false [],.list false []] st (fun a st'=>st'=st++[noO]∧a=.bool true):=by
 refine EvQ.body (fn:=a149) rfl rfl rfl ?_
 have e00:eqI ((0:Nat):Int) ((0:Nat):Int)=true:=rfl
 simp +contextual -implicitDefEqProofs only [d2d,SS,rA,rS,rL,rE,reduceCtorEq,P0,e00]
 refine WC.call (c3E st.length _) rfl rfl ?_
 rintro _ _ ⟨rfl,rfl⟩
 simp +contextual -implicitDefEqProofs only [d2d,SS,rA,rS,rL,rE,reduceCtorEq]
 exact WC.ret ⟨_,_,rfl,rfl,rfl⟩
theorem c3k (st:St):EvQ tbl 150 [.list false [],.list false [],.func 151 [] []] st (fun a st'=>st'=st∧a=.bool true):=by
 refine EvQ.body (fn:=a150) rfl rfl rfl ?_
 have e00:eqI ((0:Nat):Int) ((0:Nat):Int)=true:=rfl
 have hlt:ltI 0 ((0:Nat):Int)=false:=rfl
 simp +contextual -implicitDefEqProofs only [b4j,SS,rA,rS,rL,rE,reduceCtorEq,e00]
 refine WC.loopR (fun mm fr st'=>st'=st∧fr=[.list false [],.list false [],.func 151 [] [],.bool false,.undef,.undef,.undef,.list false [],.int .i64 ((0:Nat):Int),.int .i64 0]) (m:=0) ⟨rfl,rfl⟩ ?_
 rintro mm fr st' ⟨rfl,rfl⟩
 simp +contextual -implicitDefEqProofs only [b4j,SS,rA,rS,rL,rE,reduceCtorEq,hlt]
 refine WC.leave ?_
 simp +contextual -implicitDefEqProofs only [b4j,SS,rA,rS,rL,rE,reduceCtorEq]
 exact WC.ret ⟨_,_,rfl,rfl,rfl⟩
theorem b7C (n:List Nat) (st:St):EvQ tbl 115 [.agg (N0 n []),.agg (N0 n [])] st (fun a st'=>st'=st++[noO]∧a=.bool true):=by
 unfold N0
 refine EvQ.body (fn:=a115) rfl rfl rfl ?_
 simp +contextual -implicitDefEqProofs only [b5e,SS,rA,rS,rL,rE,reduceCtorEq,a1Z]
 refine WC.call (d78 st) rfl rfl ?_
 rintro _ _ ⟨rfl,rfl⟩
 simp +contextual -implicitDefEqProofs only [b5e,SS,rA,rS,rL,rE,reduceCtorEq]
 refine WC.call (c3k _) rfl rfl ?_
 rintro _ _ ⟨rfl,rfl⟩
 simp +contextual -implicitDefEqProofs only [b5e,SS,rA,rS,rL,rE,reduceCtorEq]
 exact WC.ret ⟨_,_,rfl,rfl,rfl⟩
/-- fields of which none is against another -/
def b18 (O:List (List Nat×List (List Nat))):Prop:=O.length≤1∨∀ x∈O,x=a2s
/-- what merging leaves behind -/
def E0:Nat→List (List Nat×List (List Nat))→St
 | _,[]=>[]
 | 0,x::xs=>.cells (B0 x)::E0 1 xs
 | n+1,x::xs=>.cells (B0 x)::noO::E0 (n+2) xs
theorem a0i:∀ (n:Nat) (O:List (List Nat×List (List Nat))) (x:List Nat×List (List Nat)),E0 n (O++[x])=E0 n O++(if n+O.length=0 then [.cells (B0 x)] else [.cells (B0 x),noO])
 | 0,[],x=>rfl
 | n+1,[],x=>by simp [E0]
 | 0,y::O,x=>by rw [List.cons_append,E0,E0,a0i 1 O x]; simp
 | n+1,y::O,x=>by rw [List.cons_append,E0,E0,a0i (n+2) O x]; simp
theorem b9l (G:List FG) (hG:G.length≤10000) {N:Nat} {l:List SK} (hl:l.length≤10000) {out:List (List Nat×List (List Nat))} {s':List (List Nat)} (hf:A0 G N l []=some (out,s')) (ho:out.length≤10000) (hs:s'.length≤10000)
 (hsub:∀ f∈G,f.sub.length≤10000) (hp:b18 out) {c:Nat} {s ops ou:AV} {st:St} (hc:st[c]?=some (chk s ops (G.map FG.fk) ou)) :
 EvQ tbl 68 [.ptr c 0,.list false (l.map SK.row)] st (fun a st'=>st'=st++C5 s'::E0 0 out∧a=.tuple []):=by
 have hcl:=(List.getElem?_eq_some_iff.1 hc).1
 refine EvQ.body (fn:=a68) rfl rfl rfl ?_
 simp +contextual -implicitDefEqProofs only [K68,SS,rA,rS,rL,rE,reduceCtorEq]
 refine WC.call (c6u G hG N hl (seen:=[]) hf ho hs hsub (c:=c) (p:=st.length) (by omega) (st:=st++[.cells [.list true []]]) (a4i hc) (P0 _ _)) rfl rfl ?_
 rintro _ _ ⟨rfl,rfl⟩
 simp +contextual -implicitDefEqProofs only [K68,SS,rA,rS,rL,rE,reduceCtorEq,List.length_map]
 rw [show (st++[Cb.Obj.cells [.list true []]]).set st.length (C5 s')=st++[C5 s'] from a8B _ _ _]
 refine WC.loopR (fun mm fr st'=>∃ (i:Nat) (v4 v5 v6:AV),i≤out.length∧mm=out.length - i∧st'=st++C5 s'::E0 0 (out.take i)∧fr=[.ptr c 0,.list false (l.map SK.row),.ptr st.length 0,.list false (out.map B0),v4,v5,v6,.list false (out.map B0),.int .i64 out.length,.int .i64 i]) (m:=out.length) ⟨0,_,_,_,Nat.zero_le _,rfl,by simp [E0],rfl⟩ ?_
 rintro mm fr st' ⟨i,v4,v5,v6,hi,rfl,rfl,rfl⟩
 simp +contextual -implicitDefEqProofs only [K68,SS,rA,rS,rL,rE,reduceCtorEq]
 by_cases hil:i < out.length
 · have e2:(out.map B0)[i]?=some (B0 out[i]):=by rw [List.getElem?_map,List.getElem?_eq_getElem hil]; rfl
   have htk:out.take (i+1)=out.take i++[out[i]]:=by rw [List.take_add_one,List.getElem?_eq_getElem hil]; rfl
   obtain ⟨x0,O,hO⟩:∃ x0 O,out=x0::O:=by cases out with|nil=>simp at hil|cons a b=>exact ⟨a,b,rfl⟩
   have hkey:eqN x0.1 (out[i]).1=true∧(0 < i→x0=a2s∧out[i]=a2s):=by
    rcases hp with hp|hp
    · have:i=0:=by omega
      subst this
      subst hO
      exact ⟨a1Z _,fun h=>absurd h (Nat.lt_irrefl _)⟩
    · have h1:=hp x0 (by rw [hO]; simp)
      have h2:=hp out[i] (List.getElem_mem hil)
      exact ⟨by rw [h1,h2]; exact a1Z _,fun _=>⟨h1,h2⟩⟩
   revert e2 htk hkey
   generalize out[i]=x
   intro e2 htk hkey
   generalize hB:st++C5 s'::E0 0 (out.take i)=B at *
   rw [show B0 x=[.int .u8 1,.str [],.str x.1,.str [],.list false [],.list false [],.list false (x.2.map a0a)] from rfl] at e2
   simp +contextual -implicitDefEqProofs only [K68,SS,rA,rS,rL,rE,reduceCtorEq,hil,e2,P0,a8B]
   refine WC.call (P:=fun a st'=>st'=B++[.cells (B0 x)]∧a=.int .i64 0) (by rw [hO]; exact d01 hkey.1 (P0 _ _)) rfl rfl ?_
   rintro _ _ ⟨rfl,rfl⟩
   have hob:=a0i 0 (out.take i) x
   rw [← htk,List.length_take,Nat.min_eq_left hi] at hob
   rcases Nat.eq_zero_or_pos i with h0|h0
   · have hlt:ltI 0 ((i:Nat):Int)=false:=by rw [ltI_eq,h0]; rfl
     rw [if_pos (by omega)] at hob
     simp +contextual -implicitDefEqProofs only [K68,SS,rA,rS,rL,rE,reduceCtorEq,hlt,E4 (show i+1 < 2 ^ 63 by omega)]
     exact WC.next (m':=out.length - (i+1)) (by omega) ⟨i+1,_,_,_,hil,rfl,by rw [hob,← hB]; simp,rfl⟩
   · have hlt:ltI 0 ((i:Nat):Int)=true:=by rw [ltI_eq]; simp; omega
     rw [if_neg (by omega)] at hob
     obtain ⟨rfl,rfl⟩:=hkey.2 h0
     have e0:(out.map B0)[0]?=some [.int .u8 1,.str [],.str [110,97,109,101],.str [],.list false [],.list false [],.list false []]:=by rw [hO]; rfl
     have hon:B0 a2s=[.int .u8 1,.str [],.str [110,97,109,101],.str [],.list false [],.list false [],.list false []]:=rfl
     have ha:=b7C [110,97,109,101] (B++[Cb.Obj.cells (B0 a2s)])
     rw [hon] at ha
     have hlo:ltI 0 ((out.length:Nat):Int)=true:=by rw [ltI_eq]; simp; omega
     simp +contextual -implicitDefEqProofs only [K68,SS,rA,rS,rL,rE,reduceCtorEq,hlt,e0,hlo,hon,P0]
     refine WC.call ha rfl rfl ?_
     rintro _ _ ⟨rfl,rfl⟩
     simp +contextual -implicitDefEqProofs only [K68,SS,rA,rS,rL,rE,reduceCtorEq,E4 (show i+1 < 2 ^ 63 by omega)]
     exact WC.next (m':=out.length - (i+1)) (by omega) ⟨i+1,_,_,_,hil,rfl,by rw [hob,← hB,hon]; simp,rfl⟩
 · simp +contextual -implicitDefEqProofs only [K68,SS,rA,rS,rL,rE,reduceCtorEq,hil]
   refine WC.leave ?_
   simp +contextual -implicitDefEqProofs only [K68,SS,rA,rS,rL,rE,reduceCtorEq]
   refine WC.ret ⟨_,_,rfl,?_,rfl⟩
   rw [List.take_of_length_le (by omega)]
end Go.Cb.CodeA
