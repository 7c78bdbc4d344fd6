import Derived.Test.YtbibkdncfclnbaaGreatDoorD4
import Derived.Test.YtbibkdncfclnbaaGreatDoorXAms1
set_option maxRecDepth 20000
set_option linter.unusedSimpArgs false
set_option linter.unusedVariables false
namespace Go.Cb.CodeA
open Go Go.Cb
attribute [local congr] j1 k8 l5 k9 k4 j9 m0 m2 V.runR_congr

theorem Gr.refl (st:St):Gr st st:=fun _ _ h=>h
theorem Gr.trans {a b c:St} (h:Gr a b) (h':Gr b c):Gr a c:=fun o x hx=>h' o x (h o x hx)
theorem Gr.app (st t:St):Gr st (st++t):=fun o x h=>by
 rw [List.getElem?_append_left (List.getElem?_eq_some_iff.1 h).1]; exact h
/-- the first place of which it holds -/
def pI {α:Type} (p:α→Bool):List α→Option Nat
 | []=>none
 | x::xs=>if p x then some 0 else (pI p xs).map (fun j=>j+1)
def nI:Option Nat→Int
 | some i=>(i:Int)
 | none=>-1
theorem a1j {α:Type} (p:α→Bool) (x:α) (xs:List α):pI p (x::xs)=if p x then some 0 else (pI p xs).map (fun j=>j+1):=rfl
theorem a1n {α:Type} {p:α→Bool}:∀ {l:List α} {i:Nat},pI p l=some i→∃ x,l[i]?=some x∧p x=true∧i < l.length
 | [],_,h=>by cases h
 | x::xs,i,h=>by
  rw [a1j] at h
  by_cases hx:p x=true
  · rw [if_pos hx] at h; cases h; exact ⟨x,rfl,hx,by simp⟩
  · rw [if_neg hx] at h
    cases hq:pI p xs with
    | none=>rw [hq] at h; cases h
    | some j =>
     rw [hq] at h; cases h
     obtain ⟨y,h1,h2,h3⟩:=a1n hq
     exact ⟨y,by simpa using h1,h2,by simp; omega⟩
def I8 (l:List (List Nat)) (n:List Nat):Bool:=l.any (fun x=>eqN n x)
/-! a collector -/
structure Cfg where
 so:Nat
 ops:List (List AV)
 frags:List Frag
 typ:List Nat
 vk:Int
 vn:Int
 vs:List Nat
 vks:List (List Nat)
 vls:List Val
 poss:List Nat→List (List Nat)
structure Cfg.OK (K:Cfg):Prop where
 ks:K.vks.length≤100000000
 ev:K.vk=6→K.vks.length=K.vls.length
 frags:K.frags.length≤3000∧∀ f∈K.frags,a9a f.sub
 poss:∀ n,(K.poss n).length≤100000000
def E4 (K:Cfg) (sn out:AV):List AV:=[.ptr K.so 0,.list false K.ops,.list false (K.frags.map Frag.row),.str K.typ,.int .u8 K.vk,.int .i64 K.vn,.str K.vs,.list false (K.vks.map j6),.list false (K.vls.map Val.row),sn,out]
def Val.kind:Val→Int|.mk k _ _ _ _=>k
def Val.num:Val→Int|.mk _ n _ _ _=>n
def Val.text:Val→List Nat|.mk _ _ s _ _=>s
def Cfg.get (K:Cfg) (n:List Nat):Val:=(if eqI K.vk 6 then (match pI (fun x=>eqN n x) K.vks with|some i=>K.vls[i]?|none=>none) else none).getD Val.none
def ifN:List Nat:=[105,102]
def c2L:List Nat:=[115,107,105,112]
def c2Y:List Nat:=[105,110,99,108,117,100,101]
def Cfg.val (K:Cfg) (v:Val):Val:=if eqI v.kind 7 then K.get v.text else v
def b5j (K:Cfg):List Arg→Bool
 | []=>false
 | a::as=>if eqN a.n ifN then eqI (K.val a.v).kind 3 && eqI (K.val a.v).num 1 else b5j K as
def c7x (K:Cfg) (d:Dir):Bool:=(eqN d.n c2L && b5j K d.as) || (eqN d.n c2Y && !b5j K d.as)
def L9 (K:Cfg) (ds:List Dir):Bool:=!ds.any (c7x K)
/-- a call beside objects that are told -/
theorem WC.callA {β:Type} {f m:Nat} {as as':List AV} {bx:AV} {st:St} {k:Nat→AV×St→Option β} {P:AV→St→Prop} {Q:β→Prop}
 (h:EvQ tbl f as' st P) (hp:m8 (as.take m)=true) (hw:(as.take m).map AV.weak=as') (hk:∀ r st',P r st'→kept st st' (as.drop m)=true∧WC (fun n=>k n (r,st')) Q):WC (fun n=>Go.Cb.obind (p2 (r9 f m (j7 tbl n) as bx st)) (k n)) Q:=by
 obtain ⟨r,st',he,hq⟩:=h
 obtain ⟨n0,h0⟩:=he.ge
 obtain ⟨hkk,hkw⟩:=hk r st' hq
 refine WC.obind (P:=fun x=>x=(r,st')) ⟨n0,(r,st'),fun n hn=>?_,rfl⟩ (fun a ha=>ha ▸ hkw)
 simp only [r9,p5,hp,if_true,hw,h0 n hn,Option.map_some,hkk,Y9]
theorem a06 (call:b9) (bx:AV) (st:St) (agg:Bool) (n o off p f:Nat):B8 agg n call [.ptr o off,.ptr p f] bx st=if Nat.beq o p=true then r5 agg n call [.ptr o off] bx st else none:=a8 rfl
def isB (K:Cfg) (n:List Nat):Bool:=eqN n K.typ || I8 (K.poss n) K.typ
end Go.Cb.CodeA
