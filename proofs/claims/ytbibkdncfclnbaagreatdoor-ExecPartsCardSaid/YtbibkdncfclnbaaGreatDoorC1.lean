import Derived.Test.YtbibkdncfclnbaaGreatDoorD4
import Derived.Test.YtbibkdncfclnbaaGreatDoorXAms1
set_option maxRecDepth 20000
set_option linter.unusedSimpArgs false
set_option linter.unusedVariables false
namespace Go.Cb.CodeA
open Go Go.Cb
open Nat renaming reduceAdd→rA,reduceSub→rS,reduceLeDiff→rL,reduceEqDiff→rE
attribute [local congr] i7 j1 j2 j3 j0 i8 k6 j9 V.runR_congr
theorem Gr.refl (st:St):Gr st st:=fun _ _ h=>h
theorem Gr.trans {a b c:St} (h:Gr a b) (h':Gr b c):Gr a c:=fun o x hx=>h' o x (h o x hx)
theorem Gr.app (st t:St):Gr st (st++t):=fun o x h=>by
 rw [List.getElem?_append_left (AB.1 h).1]; exact h
def pI {α:Type} (p:α→Bool):List α→Option Nat
 | []=>none
 | x::xs=>if p x then some 0 else (pI p xs).map (fun j=>j+1)
def nI:Option Nat→Int
 | some i=>(i:Int)
 | none=>-1
theorem T8 {α:Type} (p:α→Bool) (x:α) (xs:List α):pI p (x::xs)=if p x then some 0 else (pI p xs).map (fun j=>j+1):=rfl
theorem J8 {α:Type} {p:α→Bool}:∀ {l:List α} {i:Nat},pI p l=some i→∃ x,l[i]?=some x∧p x=true∧i < l.length
 | [],_,h=>by cases h
 | x::xs,i,h=>by
  rw [T8] at h
  by_cases hx:p x=true
  · rw [if_pos hx] at h; cases h; exact ⟨x,rfl,hx,by simp⟩
  · rw [if_neg hx] at h
    cases hq:pI p xs with
    | none=>rw [hq] at h; cases h
    | some j =>
     rw [hq] at h; cases h
     obtain ⟨y,h1,h2,h3⟩:=J8 hq
     exact ⟨y,by simpa using h1,h2,by simp; omega⟩
theorem b4D {α:Type} {p:α→Bool}:∀ {l:List α},pI p l=none→∀ x∈l,p x=false
 | [],_=>by simp
 | y::ys,h=>by
  rw [T8] at h
  by_cases hx:p y=true
  · rw [if_pos hx] at h; cases h
  · rw [if_neg hx] at h
    have hq:pI p ys=none:=by cases hq:pI p ys with|none=>rfl|some j=>rw [hq] at h; cases h
    intro x hm
    rcases List.mem_cons.1 hm with rfl|hm
    · simpa using hx
    · exact b4D hq x hm
theorem b25 {α:Type} (p:α→Bool) (l:List α):(!ltI (nI (pI p l)) 0)=l.any p:=by
 rw [ltI_eq]
 cases hq:pI p l with
 | none =>
  rw [show l.any p=false by rw [List.any_eq_false]; intro x hx; simp [b4D hq x hx]]
  rfl
 | some i =>
  obtain ⟨x,h1,h2,h3⟩:=J8 hq
  rw [show l.any p=true by rw [List.any_eq_true]; exact ⟨x,List.mem_of_getElem? h1,h2⟩]
  show (!decide (((i:Nat):Int) < 0))=true
  rw [decide_eq_false (by omega)]; rfl
def l6 (l:List (List Nat)) (n:List Nat):Bool:=l.any (fun x=>eqN n x)
theorem a2t (l:List (List Nat)) (hl:l.length≤100000000) (n:List Nat) (st:St):EvQ tbl 90 [.list false (l.map e8),.str n] st (fun a st'=>st'=st∧a=.int .i64 (nI (pI (fun x=>eqN n x) l))):=by
 refine EvQ.body (fn:=a90) rfl rfl rfl ?_
 simp +contextual -implicitDefEqProofs only [K90,SS,rA,rS,rL,rE,reduceCtorEq,AF]
 refine WC.loopR (fun mm fr st'=>st'=st∧∃ (i:Nat) (v3:AV),i≤l.length∧mm=l.length - i∧pI (fun x=>eqN n x) l=(pI (fun x=>eqN n x) (l.drop i)).map (fun j=>j+i)∧fr=[.list false (l.map e8),.str n,.int .i64 0,v3,.int .i64 l.length,.int .i64 i]) (m:=l.length) ⟨rfl,0,_,Nat.zero_le _,rfl,by simp,rfl⟩ ?_
 rintro mm fr st' ⟨rfl,i,v3,hi,rfl,hidx,rfl⟩
 simp +contextual -implicitDefEqProofs only [K90,SS,rA,rS,rL,rE,reduceCtorEq]
 by_cases hil:i < l.length
 · have e2:(l.map e8)[i]?=some (e8 l[i]):=by rw [AQ,AD hil]; rfl
   rw [List.drop_eq_getElem_cons hil,T8] at hidx
   revert e2 hidx
   generalize l[i]=x
   intro hidx e2
   simp +contextual -implicitDefEqProofs only [K90,SS,rA,rS,rL,rE,reduceCtorEq,hil,e2,e8]
   refine WC.br (fun hx=>?_) (fun hx=>?_)
   · simp +contextual -implicitDefEqProofs only [K90,SS,rA,rS,rL,rE,reduceCtorEq]
     refine WC.leaveR ?_
     simp +contextual -implicitDefEqProofs only [K90,SS,rA,rS,rL,rE,reduceCtorEq]
     refine WC.ret ⟨_,_,rfl,rfl,?_⟩
     rw [hidx,if_pos hx]
     show _=AV.int .i64 ((0+i:Nat):Int)
     rw [Nat.zero_add]; rfl
   · simp +contextual -implicitDefEqProofs only [K90,SS,rA,rS,rL,rE,reduceCtorEq,s9 (show i+1 < 2 ^ 63 by omega)]
     refine WC.next (m':=l.length - (i+1)) (by omega) ⟨rfl,i+1,_,hil,rfl,?_,rfl⟩
     rw [hidx,if_neg (by rw [hx]; decide),Option.map_map]
     congr 1
     funext j
     show j+1+i=j+(i+1)
     omega
 · simp +contextual -implicitDefEqProofs only [K90,SS,rA,rS,rL,rE,reduceCtorEq,hil]
   refine WC.leave ?_
   simp +contextual -implicitDefEqProofs only [K90,SS,rA,rS,rL,rE,reduceCtorEq]
   refine WC.ret ⟨_,_,rfl,rfl,?_⟩
   rw [hidx,List.drop_of_length_le (by omega)]
   rfl
theorem I0 (l:List (List Nat)) (hl:l.length≤100000000) (n:List Nat) (st:St):EvQ tbl 44 [.list false (l.map e8),.str n] st (fun a st'=>st'=st∧a=.bool (l6 l n)):=by
 refine EvQ.body (fn:=a44) rfl rfl rfl ?_
 simp +contextual -implicitDefEqProofs only [K44,SS,rA,rS,rL,rE,reduceCtorEq]
 refine WC.call (a2t l hl n st) rfl rfl ?_
 rintro _ _ ⟨rfl,rfl⟩
 simp +contextual -implicitDefEqProofs only [K44,SS,rA,rS,rL,rE,reduceCtorEq,b25]
 exact WC.ret ⟨_,_,rfl,rfl,rfl⟩
theorem c0j (cf:Nat) (caps:List AV) (hc:caps.map AV.weak=caps) (p:Dir→Bool) (l:List Dir) (hl:l.length≤100000000) (st:St)
 (h:∀ f∈l,EvQ tbl cf (.agg f.row::caps) st (fun a st'=>st'=st∧a=.bool (p f))) :
 EvQ tbl 202 [.list false (l.map Dir.row),.func cf [] caps] st (fun a st'=>st'=st∧a=.int .i64 (nI (pI p l))):=by
 refine EvQ.body (fn:=a202) rfl rfl rfl ?_
 simp +contextual -implicitDefEqProofs only [a2D,SS,rA,rS,rL,rE,reduceCtorEq,AF]
 refine WC.loopR (fun mm fr st'=>st'=st∧∃ (i:Nat) (v3:AV),i≤l.length∧mm=l.length - i∧pI p l=(pI p (l.drop i)).map (fun j=>j+i)∧fr=[.list false (l.map Dir.row),.func cf [] caps,.int .i64 0,v3,.int .i64 l.length,.int .i64 i]) (m:=l.length) ⟨rfl,0,_,Nat.zero_le _,rfl,by simp,rfl⟩ ?_
 rintro mm fr st' ⟨rfl,i,v3,hi,rfl,hidx,rfl⟩
 simp +contextual -implicitDefEqProofs only [a2D,SS,rA,rS,rL,rE,reduceCtorEq]
 by_cases hil:i < l.length
 · have e2:(l.map Dir.row)[i]?=some (l[i]).row:=by rw [AQ,AD hil]; rfl
   have hf:=h _ (List.getElem_mem hil)
   rw [List.drop_eq_getElem_cons hil,T8] at hidx
   revert hidx e2 hf
   generalize l[i]=x
   intro hidx e2 hf
   obtain ⟨dn,das⟩:=x
   have e2:(l.map Dir.row)[i]?=some [.str dn,.list false (das.map Arg.row)]:=e2
   have hf:EvQ tbl cf (.agg [.str dn,.list false (das.map Arg.row)]::caps) st' _:=hf
   simp +contextual -implicitDefEqProofs only [a2D,SS,rA,rS,rL,rE,reduceCtorEq,hil,e2]
   refine WC.callV hf rfl (by simp only [List.nil_append,List.cons_append,AG,hc]; rfl) ?_
   rintro _ st2 ⟨rfl,rfl⟩
   simp +contextual -implicitDefEqProofs only [a2D,SS,rA,rS,rL,rE,reduceCtorEq]
   refine WC.br (fun hx=>?_) (fun hx=>?_)
   · simp +contextual -implicitDefEqProofs only [a2D,SS,rA,rS,rL,rE,reduceCtorEq]
     refine WC.leaveR ?_
     simp +contextual -implicitDefEqProofs only [a2D,SS,rA,rS,rL,rE,reduceCtorEq]
     refine WC.ret ⟨_,_,rfl,rfl,?_⟩
     rw [hidx,if_pos hx]
     show _=AV.int .i64 ((0+i:Nat):Int)
     rw [Nat.zero_add]; rfl
   · simp +contextual -implicitDefEqProofs only [a2D,SS,rA,rS,rL,rE,reduceCtorEq,s9 (show i+1 < 2 ^ 63 by omega)]
     refine WC.next (m':=l.length - (i+1)) (by omega) ⟨rfl,i+1,_,hil,rfl,?_,rfl⟩
     rw [hidx,if_neg (by rw [hx]; decide),Option.map_map]
     congr 1
     funext j
     show j+1+i=j+(i+1)
     omega
 · simp +contextual -implicitDefEqProofs only [a2D,SS,rA,rS,rL,rE,reduceCtorEq,hil]
   refine WC.leave ?_
   simp +contextual -implicitDefEqProofs only [a2D,SS,rA,rS,rL,rE,reduceCtorEq]
   refine WC.ret ⟨_,_,rfl,rfl,?_⟩
   rw [hidx,List.drop_of_length_le (by omega)]
   rfl
theorem c1a (cf:Nat) (caps:List AV) (hc:caps.map AV.weak=caps) (p:Frag→Bool) (l:List Frag) (hl:l.length≤100000000) (st:St)
 (h:∀ f∈l,EvQ tbl cf (.agg f.row::caps) st (fun a st'=>st'=st∧a=.bool (p f))) :
 EvQ tbl 170 [.list false (l.map Frag.row),.func cf [] caps] st (fun a st'=>st'=st∧a=.int .i64 (nI (pI p l))):=by
 refine EvQ.body (fn:=a170) rfl rfl rfl ?_
 simp +contextual -implicitDefEqProofs only [a2K,SS,rA,rS,rL,rE,reduceCtorEq,AF]
 refine WC.loopR (fun mm fr st'=>st'=st∧∃ (i:Nat) (v3:AV),i≤l.length∧mm=l.length - i∧pI p l=(pI p (l.drop i)).map (fun j=>j+i)∧fr=[.list false (l.map Frag.row),.func cf [] caps,.int .i64 0,v3,.int .i64 l.length,.int .i64 i]) (m:=l.length) ⟨rfl,0,_,Nat.zero_le _,rfl,by simp,rfl⟩ ?_
 rintro mm fr st' ⟨rfl,i,v3,hi,rfl,hidx,rfl⟩
 simp +contextual -implicitDefEqProofs only [a2K,SS,rA,rS,rL,rE,reduceCtorEq]
 by_cases hil:i < l.length
 · have e2:(l.map Frag.row)[i]?=some (l[i]).row:=by rw [AQ,AD hil]; rfl
   have hf:=h _ (List.getElem_mem hil)
   rw [List.drop_eq_getElem_cons hil,T8] at hidx
   revert hidx e2 hf
   generalize l[i]=x
   intro hidx e2 hf
   obtain ⟨gn,gon,gsub⟩:=x
   have e2:(l.map Frag.row)[i]?=some [.str gn,.str gon,.list false (gsub.map Sel.row)]:=e2
   have hf:EvQ tbl cf (.agg [.str gn,.str gon,.list false (gsub.map Sel.row)]::caps) st' _:=hf
   simp +contextual -implicitDefEqProofs only [a2K,SS,rA,rS,rL,rE,reduceCtorEq,hil,e2]
   refine WC.callV hf rfl (by simp only [List.nil_append,List.cons_append,AG,hc]; rfl) ?_
   rintro _ st2 ⟨rfl,rfl⟩
   simp +contextual -implicitDefEqProofs only [a2K,SS,rA,rS,rL,rE,reduceCtorEq]
   refine WC.br (fun hx=>?_) (fun hx=>?_)
   · simp +contextual -implicitDefEqProofs only [a2K,SS,rA,rS,rL,rE,reduceCtorEq]
     refine WC.leaveR ?_
     simp +contextual -implicitDefEqProofs only [a2K,SS,rA,rS,rL,rE,reduceCtorEq]
     refine WC.ret ⟨_,_,rfl,rfl,?_⟩
     rw [hidx,if_pos hx]
     show _=AV.int .i64 ((0+i:Nat):Int)
     rw [Nat.zero_add]; rfl
   · simp +contextual -implicitDefEqProofs only [a2K,SS,rA,rS,rL,rE,reduceCtorEq,s9 (show i+1 < 2 ^ 63 by omega)]
     refine WC.next (m':=l.length - (i+1)) (by omega) ⟨rfl,i+1,_,hil,rfl,?_,rfl⟩
     rw [hidx,if_neg (by rw [hx]; decide),Option.map_map]
     congr 1
     funext j
     show j+1+i=j+(i+1)
     omega
 · simp +contextual -implicitDefEqProofs only [a2K,SS,rA,rS,rL,rE,reduceCtorEq,hil]
   refine WC.leave ?_
   simp +contextual -implicitDefEqProofs only [a2K,SS,rA,rS,rL,rE,reduceCtorEq]
   refine WC.ret ⟨_,_,rfl,rfl,?_⟩
   rw [hidx,List.drop_of_length_le (by omega)]
   rfl
theorem b3r (cf:Nat) (caps:List AV) (hc:caps.map AV.weak=caps) (p:Dir→Bool) (l:List Dir) (hl:l.length≤100000000) (st:St)
 (h:∀ f∈l,EvQ tbl cf (.agg f.row::caps) st (fun a st'=>st'=st∧a=.bool (p f))) :
 EvQ tbl 186 [.list false (l.map Dir.row),.func cf [] caps] st (fun a st'=>st'=st∧a=.bool (l.any p)):=by
 refine EvQ.body (fn:=a186) rfl rfl rfl ?_
 simp +contextual -implicitDefEqProofs only [c8i,SS,rA,rS,rL,rE,reduceCtorEq]
 refine WC.call (c0j cf caps hc p l hl st h) rfl rfl ?_
 rintro _ _ ⟨rfl,rfl⟩
 simp +contextual -implicitDefEqProofs only [c8i,SS,rA,rS,rL,rE,reduceCtorEq,b25]
 exact WC.ret ⟨_,_,rfl,rfl,rfl⟩
structure Cfg where
 so:Nat
 ops:List (List AV)
 frags:List Frag
 typ:List Nat
 vk:Int
 vn:Int
 vs:List Nat
 vks:List (List Nat)
 vls:List Val
 poss:List Nat→List (List Nat)
structure Cfg.OK (K:Cfg):Prop where
 ks:K.vks.length≤100000000
 ev:K.vk=6→K.vks.length=K.vls.length
 frags:K.frags.length≤3000∧∀ f∈K.frags,b02 f.sub
 poss:∀ n,(K.poss n).length≤100000000
def s7 (K:Cfg) (sn out:AV):List AV:=[.ptr K.so 0,.list false K.ops,.list false (K.frags.map Frag.row),.str K.typ,.int .u8 K.vk,.int .i64 K.vn,.str K.vs,.list false (K.vks.map e8),.list false (K.vls.map Val.row),sn,out]
def Val.kind:Val→Int|.mk k _ _ _ _=>k
def Val.num:Val→Int|.mk _ n _ _ _=>n
def Val.text:Val→List Nat|.mk _ _ s _ _=>s
def Cfg.get (K:Cfg) (n:List Nat):Val:=(if eqI K.vk 6 then (match pI (fun x=>eqN n x) K.vks with|some i=>K.vls[i]?|none=>none) else none).getD Val.none
theorem c2P {K:Cfg} (hK:K.OK) (n:List Nat) (st:St):EvQ tbl 79 [.agg [.int .u8 K.vk,.int .i64 K.vn,.str K.vs,.list false (K.vks.map e8),.list false (K.vls.map Val.row)],.str n] st (fun a st'=>st'=st∧∃ b,a=.tuple [.agg (K.get n).row,.bool b]):=by
 refine EvQ.body (fn:=a79) rfl rfl rfl ?_
 simp +contextual -implicitDefEqProofs only [K79,SS,rA,rS,rL,rE,reduceCtorEq]
 refine WC.call (a2t K.vks hK.ks n _) rfl rfl ?_
 rintro _ _ ⟨rfl,rfl⟩
 unfold Cfg.get
 cases hq:pI (fun x=>eqN n x) K.vks with
 | none =>
  simp +contextual -implicitDefEqProofs only [K79,SS,rA,rS,rL,rE,reduceCtorEq,nI,show ltI (-1) 0=true from rfl]
  refine WC.ret ⟨_,_,rfl,rfl,false,?_⟩
  rw [show (if eqI K.vk 6=true then none else none:Option Val)=none by split <;> rfl,Option.getD_none,Val.none_row]
  rfl
 | some i =>
  obtain ⟨_,_,_,hi⟩:=J8 hq
  have ei:ltI (i:Int) 0=false:=by rw [ltI_eq]; simp
  rcases e9 (eqI K.vk 6) with h6|h6
  · have hil:i < K.vls.length:=by rw [← hK.ev (by rw [eqI_eq] at h6; simpa using h6)]; exact hi
    have e2:(K.vls.map Val.row)[i]?=some (K.vls[i]).row:=by rw [AQ,AD hil]; rfl
    have e3:K.vls[i]?=some K.vls[i]:=AD hil
    rw [if_pos h6]
    dsimp only
    rw [e3]
    revert e2
    generalize K.vls[i]=u
    intro e2
    obtain ⟨k1,n1,s1,ks1,ls1,e1⟩:=u.row_cells
    rw [Option.getD_some,e1]
    rw [e1] at e2
    simp +contextual -implicitDefEqProofs only [K79,SS,rA,rS,rL,rE,reduceCtorEq,nI,ei,h6,e2]
    exact WC.ret ⟨_,_,rfl,rfl,_,rfl⟩
  · rw [h6,if_neg (by decide)]
    simp +contextual -implicitDefEqProofs only [K79,SS,rA,rS,rL,rE,reduceCtorEq,nI,ei,h6]
    refine WC.ret ⟨_,_,rfl,rfl,false,?_⟩
    rw [Option.getD_none,Val.none_row]
    rfl
def ifN:List Nat:=[105,102]
def b0G:List Nat:=[115,107,105,112]
def a2Q:List Nat:=[105,110,99,108,117,100,101]
def Cfg.val (K:Cfg) (v:Val):Val:=if eqI v.kind 7 then K.get v.text else v
def J4 (K:Cfg):List Arg→Bool
 | []=>false
 | a::as=>if eqN a.n ifN then eqI (K.val a.v).kind 3 && eqI (K.val a.v).num 1 else J4 K as
theorem d0Y {K:Cfg} (hK:K.OK) {c:Nat} {sn out:AV} (d:Dir) (hd:d.as.length≤3000) {st:St} (h:st[c]?=some (.cells (s7 K sn out))):EvQ tbl 188 [.ptr c 0,.agg [.str d.n,.list false (d.as.map Arg.row)]] st (fun a st'=>st'=st∧a=.bool (J4 K d.as)):=by
 obtain ⟨dn,das⟩:=d
 have hd:das.length≤3000:=hd
 show EvQ tbl 188 [.ptr c 0,.agg [.str dn,.list false (das.map Arg.row)]] st (fun a st'=>st'=st∧a=.bool (J4 K das))
 refine EvQ.body (fn:=a188) rfl rfl rfl ?_
 simp +contextual -implicitDefEqProofs only [Y4,SS,rA,rS,rL,rE,reduceCtorEq,AF]
 refine WC.loopR (fun mm fr st'=>st'=st∧∃ (i:Nat) (v4 v5:AV),i≤das.length∧mm=das.length - i∧J4 K das=J4 K (das.drop i)∧fr=[.ptr c 0,.agg [.str dn,.list false (das.map Arg.row)],.box [.str dn,.list false (das.map Arg.row)],.bool false,v4,v5,.list false (das.map Arg.row),.int .i64 das.length,.int .i64 i]) (m:=das.length) ⟨rfl,0,_,_,Nat.zero_le _,rfl,rfl,rfl⟩ ?_
 rintro mm fr st' ⟨rfl,i,v4,v5,hi,rfl,hy,rfl⟩
 by_cases hil:i < das.length
 · have e2:(das.map Arg.row)[i]?=some (das[i]).row:=by rw [AQ,AD hil]; rfl
   rw [List.drop_eq_getElem_cons hil,J4] at hy
   revert e2 hy
   generalize das[i]=x
   intro hy e2
   obtain ⟨an,av⟩:=x
   have e2:(das.map Arg.row)[i]?=some (.str an::av.row):=e2
   have hgen:∀ (w:Val) (v5:AV),K.val av=w→WC (fun n=>i6 (k7 tbl n) n ((ACode.blk 1 a188s18).seq a188s24) [.ptr c 0,.agg [.str dn,.list false (das.map Arg.row)],.box [.str dn,.list false (das.map Arg.row)],.bool false,.box (.str an::av.row),.box w.row,.list false (das.map Arg.row),.int .i64 das.length,.int .i64 i] st')
    (LQ (fun mm fr st'_1=>st'_1=st'∧∃ (i:Nat) (v4 v5:AV),i≤das.length∧mm=das.length - i∧J4 K das=J4 K (das.drop i)∧fr=[.ptr c 0,.agg [.str dn,.list false (das.map Arg.row)],.box [.str dn,.list false (das.map Arg.row)],.bool false,v4,v5,.list false (das.map Arg.row),.int .i64 das.length,.int .i64 i]) (das.length - i) (fun n=>b5m (b52 0 some) (i6 (k7 tbl n) n (a188s31.seq ACode.ret))) (fun o=>∃ r st'_1,finK [ResK.v 3] (some o)=some (r,st'_1)∧st'_1=st'∧r=.bool (J4 K das))):=by
    intro w v5 hw
    rw [hw] at hy
    obtain ⟨k1,n1,s1,ks1,ls1,e1⟩:=av.row_cells
    obtain ⟨wk,wn,ws,wks,wls⟩:=w
    have hy:J4 K das=if eqN an ifN then eqI wk 3 && eqI wn 1 else J4 K (das.drop (i+1)):=hy
    rw [e1]
    simp +contextual -implicitDefEqProofs only [Y4,SS,rA,rS,rL,rE,reduceCtorEq,Val.row_eq]
    refine WC.br (fun hx=>?_) (fun hx=>?_)
    · rw [if_pos (show eqN an ifN=true from hx)] at hy
      rcases e9 (eqI wk 3) with h3|h3
      · simp +contextual -implicitDefEqProofs only [Y4,SS,rA,rS,rL,rE,reduceCtorEq,Val.row_eq,h3]
        refine WC.leaveR ?_
        simp +contextual -implicitDefEqProofs only [Y4,SS,rA,rS,rL,rE,reduceCtorEq]
        exact WC.ret ⟨_,_,rfl,rfl,by rw [hy,h3]; rfl⟩
      · simp +contextual -implicitDefEqProofs only [Y4,SS,rA,rS,rL,rE,reduceCtorEq,Val.row_eq,h3]
        refine WC.leaveR ?_
        simp +contextual -implicitDefEqProofs only [Y4,SS,rA,rS,rL,rE,reduceCtorEq]
        exact WC.ret ⟨_,_,rfl,rfl,by rw [hy,h3]; rfl⟩
    · rw [if_neg (by rw [show eqN an ifN=false from hx]; decide)] at hy
      simp +contextual -implicitDefEqProofs only [Y4,SS,rA,rS,rL,rE,reduceCtorEq,s9 (show i+1 < 2 ^ 63 by omega)]
      exact WC.next (m':=das.length - (i+1)) (by omega) ⟨rfl,i+1,_,_,hil,rfl,hy,rfl⟩
   obtain ⟨ak,anum,atx,aks,als⟩:=av
   rw [Val.row_eq] at e2 hgen
   simp +contextual -implicitDefEqProofs only [Y4,SS,rA,rS,rL,rE,reduceCtorEq,hil,e2]
   refine WC.br (fun hx=>?_) (fun hx=>?_)
   · simp +contextual -implicitDefEqProofs only [Y4,SS,rA,rS,rL,rE,reduceCtorEq,h,s7]
     refine WC.call (c2P hK atx _) rfl rfl ?_
     rintro _ _ ⟨rfl,b,rfl⟩
     have:=hgen (K.get atx) .undef (by unfold Cfg.val; rw [if_pos (show eqI (Val.mk ak anum atx aks als).kind 7=true from hx)]; rfl)
     revert this
     generalize K.get atx=g
     intro this
     obtain ⟨gk,gn,gs,gks,gls⟩:=g
     rw [Val.row_eq] at this ⊢
     simp +contextual -implicitDefEqProofs only [Y4,SS,rA,rS,rL,rE,reduceCtorEq] at this ⊢
     exact this
   · have:=hgen (.mk ak anum atx aks als) .undef (by unfold Cfg.val; rw [if_neg (by rw [show eqI (Val.mk ak anum atx aks als).kind 7=false from hx]; decide)])
     rw [Val.row_eq] at this
     simp +contextual -implicitDefEqProofs only [Y4,SS,rA,rS,rL,rE,reduceCtorEq] at this ⊢
     exact this
 · simp +contextual -implicitDefEqProofs only [Y4,SS,rA,rS,rL,rE,reduceCtorEq,hil]
   refine WC.leave ?_
   simp +contextual -implicitDefEqProofs only [Y4,SS,rA,rS,rL,rE,reduceCtorEq]
   refine WC.ret ⟨_,_,rfl,rfl,?_⟩
   rw [hy,List.drop_of_length_le (by omega),J4]
   rfl
def b2e (K:Cfg) (d:Dir):Bool:=(eqN d.n b0G && J4 K d.as) || (eqN d.n a2Q && !J4 K d.as)
def B1 (K:Cfg) (ds:List Dir):Bool:=!ds.any (b2e K)
theorem d0n {K:Cfg} (hK:K.OK) {c p:Nat} {sn out:AV} (d:Dir) (hd:d.as.length≤3000) {st:St} (h:st[c]?=some (.cells (s7 K sn out))) (hp:st[p]?=some (.cells [.ptr c 0])):EvQ tbl 187 [.agg d.row,.ptr p 0] st (fun a st'=>st'=st∧a=.bool (b2e K d)):=by
 have hy:=d0Y hK d hd h
 unfold b2e
 obtain ⟨dn,das⟩:=d
 show EvQ tbl 187 [.agg [.str dn,.list false (das.map Arg.row)],.ptr p 0] st _
 revert hy
 show EvQ tbl 188 [.ptr c 0,.agg [.str dn,.list false (das.map Arg.row)]] st (fun a st'=>st'=st∧a=.bool (J4 K das))→EvQ tbl 187 [.agg [.str dn,.list false (das.map Arg.row)],.ptr p 0] st (fun a st'=>st'=st∧a=.bool ((eqN dn b0G && J4 K das) || (eqN dn a2Q && !J4 K das)))
 generalize J4 K das=y
 intro hy
 have two:∀ (b:Bool),(b=true→y=false)→eqN dn [115,107,105,112]=b→EvQ tbl 187 [.agg [.str dn,.list false (das.map Arg.row)],.ptr p 0] st (fun a st'=>st'=st∧a=.bool (eqN dn a2Q && !y)):=by
  intro b hby hb
  refine EvQ.body (fn:=a187) rfl rfl rfl ?_
  cases b with
  | true =>
   obtain rfl:=hby rfl
   simp +contextual -implicitDefEqProofs only [a1N,SS,rA,rS,rL,rE,reduceCtorEq,hb,hp]
   refine WC.call hy rfl rfl ?_
   rintro _ _ ⟨rfl,rfl⟩
   simp +contextual -implicitDefEqProofs only [a1N,SS,rA,rS,rL,rE,reduceCtorEq,hb,hp]
   rcases e9 (eqN dn [105,110,99,108,117,100,101]) with hi|hi
   · simp +contextual -implicitDefEqProofs only [a1N,SS,rA,rS,rL,rE,reduceCtorEq,hb,hp,hi]
     refine WC.call hy rfl rfl ?_
     rintro _ _ ⟨rfl,rfl⟩
     simp +contextual -implicitDefEqProofs only [a1N,SS,rA,rS,rL,rE,reduceCtorEq,hb,hp,hi]
     exact WC.ret ⟨_,_,rfl,rfl,by rw [a2Q,hi]; rfl⟩
   · simp +contextual -implicitDefEqProofs only [a1N,SS,rA,rS,rL,rE,reduceCtorEq,hb,hp,hi]
     exact WC.ret ⟨_,_,rfl,rfl,by rw [a2Q,hi]; rfl⟩
  | false =>
   rcases e9 (eqN dn [105,110,99,108,117,100,101]) with hi|hi
   · simp +contextual -implicitDefEqProofs only [a1N,SS,rA,rS,rL,rE,reduceCtorEq,hb,hp,hi]
     refine WC.call hy rfl rfl ?_
     rintro _ _ ⟨rfl,rfl⟩
     simp +contextual -implicitDefEqProofs only [a1N,SS,rA,rS,rL,rE,reduceCtorEq,hb,hp,hi]
     exact WC.ret ⟨_,_,rfl,rfl,by rw [a2Q,hi]; rfl⟩
   · simp +contextual -implicitDefEqProofs only [a1N,SS,rA,rS,rL,rE,reduceCtorEq,hb,hp,hi]
     exact WC.ret ⟨_,_,rfl,rfl,by rw [a2Q,hi]; rfl⟩
 rcases e9 (eqN dn [115,107,105,112]) with hb|hb
 · cases y with
   | false=>
    have:=two true (fun _=>rfl) hb
    rwa [Bool.and_false,Bool.false_or]
   | true =>
    refine EvQ.body (fn:=a187) rfl rfl rfl ?_
    simp +contextual -implicitDefEqProofs only [a1N,SS,rA,rS,rL,rE,reduceCtorEq,hb,hp]
    refine WC.call hy rfl rfl ?_
    rintro _ _ ⟨rfl,rfl⟩
    simp +contextual -implicitDefEqProofs only [a1N,SS,rA,rS,rL,rE,reduceCtorEq,hb,hp]
    exact WC.ret ⟨_,_,rfl,rfl,by rw [b0G,hb]; rfl⟩
 · have:=two false (fun h=>by cases h) hb
   rw [b0G,hb,Bool.false_and,Bool.false_or]
   exact this
theorem c6P {K:Cfg} (hK:K.OK) {c:Nat} {sn out:AV} (s:Sel) (hs:s.OK) {st:St} (h:st[c]?=some (.cells (s7 K sn out))) :
 EvQ tbl 168 [.ptr c 0,.agg s.row] st (fun a st'=>(∃ ob,st'=st++[ob])∧a=.bool (B1 K (match s with|.mk _ _ _ _ _ ds _=>ds))):=by
 cases hs with
 | mk k al nm on as ds sub ha hd hl hsub =>
  rw [Sel.row_eq]
  dsimp only
  refine EvQ.body (fn:=a168) rfl rfl rfl ?_
  simp +contextual -implicitDefEqProofs only [c8w,SS,rA,rS,rL,rE,reduceCtorEq]
  have h1:(st++[Obj.cells [AV.ptr c 0]])[c]?=some (.cells (s7 K sn out)):=by rw [List.getElem?_append_left (AB.1 h).1]; exact h
  have h2:(st++[Obj.cells [AV.ptr c 0]])[st.length]?=some (.cells [.ptr c 0]):=by rw [List.getElem?_append_right (AJ _),Nat.sub_self]; rfl
  refine WC.call (b3r 187 [.ptr st.length 0] rfl (b2e K) ds (by have:=hd.1; omega) _ (fun d hm=>d0n hK d ((hd.2 d hm).1) h1 h2)) rfl rfl ?_
  rintro _ _ ⟨rfl,rfl⟩
  simp +contextual -implicitDefEqProofs only [c8w,SS,rA,rS,rL,rE,reduceCtorEq]
  exact WC.ret ⟨_,_,rfl,⟨_,rfl⟩,rfl⟩
theorem WC.callA {β:Type} {f m:Nat} {as as':List AV} {bx:AV} {st:St} {k:Nat→AV×St→Option β} {P:AV→St→Prop} {Q:β→Prop}
 (h:EvQ tbl f as' st P) (hp:q7 (as.take m)=true) (hw:(as.take m).map AV.weak=as') (hk:∀ r st',P r st'→kept st st' (as.drop m)=true∧WC (fun n=>k n (r,st')) Q):WC (fun n=>Go.Cb.obind (p2 (C7 f m (k7 tbl n) as bx st)) (k n)) Q:=by
 obtain ⟨r,st',he,hq⟩:=h
 obtain ⟨n0,h0⟩:=he.ge
 obtain ⟨hkk,hkw⟩:=hk r st' hq
 refine WC.obind (P:=fun x=>x=(r,st')) ⟨n0,(r,st'),fun n hn=>?_,rfl⟩ (fun a ha=>ha ▸ hkw)
 simp only [C7,t8,hp,if_true,hw,h0 n hn,AN,hkk,a1W]
theorem Y6 (call:d8) (bx:AV) (st:St) (agg:Bool) (n o off p f:Nat):E3 agg n call [.ptr o off,.ptr p f] bx st=if Nat.beq o p=true then B6 agg n call [.ptr o off] bx st else none:=b9 rfl
def isB (K:Cfg) (n:List Nat):Bool:=eqN n K.typ || l6 (K.poss n) K.typ
theorem c7l {K:Cfg} (hK:K.OK) {c:Nat} {sn out:AV} (n:List Nat) {st:St} (h:st[c]?=some (.cells (s7 K sn out))) (hP:EvQ tbl 42 [.ptr K.so 0,.str n] st (fun a st'=>st'=st∧a=.list false ((K.poss n).map e8))) :
 EvQ tbl 172 [.ptr c 0,.str n] st (fun a st'=>st'=st∧a=.bool (isB K n)):=by
 have hk:kept st st [AV.ptr c 0]=true:=by
  simp only [kept,B8,h,Bool.and_true]
  rw [Q2]
 refine EvQ.body (fn:=a172) rfl rfl rfl ?_
 rcases e9 (eqN n K.typ) with he|he
 · simp +contextual -implicitDefEqProofs only [b5F,SS,rA,rS,rL,rE,reduceCtorEq,h,s7,he]
   exact WC.ret ⟨_,_,rfl,rfl,by rw [isB,he]; rfl⟩
 · simp +contextual -implicitDefEqProofs only [b5F,SS,rA,rS,rL,rE,reduceCtorEq,h,s7,he,Y6,Nat.beq_refl]
   refine WC.callA hP rfl rfl ?_
   rintro _ _ ⟨rfl,rfl⟩
   refine ⟨hk,?_⟩
   simp +contextual -implicitDefEqProofs only [b5F,SS,rA,rS,rL,rE,reduceCtorEq,h,s7,he,Y6,Nat.beq_refl]
   refine WC.call (I0 _ (hK.poss n) _ _) rfl rfl ?_
   rintro _ _ ⟨rfl,rfl⟩
   simp +contextual -implicitDefEqProofs only [b5F,SS,rA,rS,rL,rE,reduceCtorEq,h,s7,he]
   exact WC.ret ⟨_,_,rfl,rfl,by rw [isB,he]; rfl⟩
end Go.Cb.CodeA
