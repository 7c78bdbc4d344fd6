import Derived.Test.YthnliekianmljaaGreatDoorR3
set_option maxRecDepth 20000
set_option linter.unusedSimpArgs false
set_option linter.unusedVariables false
namespace Go.Cb.CodeA
open Go Go.Cb
attribute [local congr] i8 k4 k6 k7 j4 j3 l8 l7 V.runR_congr

/-! lists that are handed over -/
structure Pln (a:AV):Prop where
 st:a.strip=a
 sb:a.stripB=a
 wk:a.weak=a
 pl:a.plain=true
def Handed (n0:Nat) (rows:List (List AV)) (sz:Nat) (a:AV) (st:St):Prop :=
 (rows=[]∧a=.nils)∨(rows≠[]∧∃ o,n0≤o∧a=.sl o 0 rows.length sz∧st[o]?=some (Cb.Obj.cells rows.flatten))
theorem Handed.pln {n0:Nat} {rows:List (List AV)} {sz:Nat} {a:AV} {st:St} (h:Handed n0 rows sz a st):Pln a:=by
 rcases h with ⟨_,rfl⟩|⟨_,o,_,rfl,_⟩ <;> exact ⟨rfl,rfl,rfl,rfl⟩
def Pres (n0:Nat) (st st':St):Prop:=n0≤st'.length∧∀ i x,i < n0→st[i]?=some x→st'[i]?=some x
theorem Pres.trans {n0:Nat} {a b c:St} (h:Pres n0 a b) (h':Pres n0 b c):Pres n0 a c:=⟨h'.1,fun i x hi hx=>h'.2 i x hi (h.2 i x hi hx)⟩
theorem b8t {sz:Nat} {rows:List (List AV)} (h:∀ r∈rows,r.length=sz):rows.flatten.length=rows.length*sz:=by
 induction rows with
 | nil=>simp
 | cons r rows ih =>
  rw [List.flatten_cons,List.length_append,ih (fun x hx=>h x (by simp [hx])),h r (by simp),List.length_cons,Nat.succ_mul]
  omega
/-- one row more -/
theorem Handed.push {n0:Nat} {rows:List (List AV)} {sz:Nat} {a:AV} {st:St} (h:Handed n0 rows sz a st) (hr:∀ x∈rows,x.length=sz) {r:List AV} (hl:r.length=sz) (bytes:Nat) (hb:(rows.length+1)*bytes≤2 ^ 47) (hn:n0≤st.length) :
 ∃ a' st',(∀ call bx,B7 sz bytes call [a,.fresh [r]] bx st=some (a',bx,st'))∧Handed n0 (rows++[r]) sz a' st'∧Pln a'∧Pres n0 st st'∧∀ (i:Nat) (x:Cb.Obj),st[i]?=some x→(rows≠[]→x≠Cb.Obj.cells rows.flatten)→st'[i]?=some x:=by
 rcases h with ⟨rfl,rfl⟩|⟨hne,o,ho,rfl,hob⟩
 · refine ⟨.sl st.length 0 1 sz,st++[Cb.Obj.cells [r].flatten],fun call bx=>?_,Or.inr ⟨by simp,st.length,hn,rfl,?_⟩,⟨rfl,rfl,rfl,rfl⟩,⟨by simp; omega,fun i x hi hx=>?_⟩,fun i x hx _=>?_⟩
   · rw [R.appM_nils,if_pos]
     · rfl
     · exact ⟨rfl,by simp [m7,hl],by simpa using hb,rfl⟩
   · rw [List.getElem?_append_right (Nat.le_refl _)]; simp
   · rw [List.getElem?_append_left (List.getElem?_eq_some_iff.1 hx).1]; exact hx
   · rw [List.getElem?_append_left (List.getElem?_eq_some_iff.1 hx).1]; exact hx
 · refine ⟨.sl st.length 0 (rows.length+1) sz,st.set o Cb.Obj.dead++[Cb.Obj.cells (rows.flatten++[r].flatten)],fun call bx=>?_,Or.inr ⟨by simp,st.length,hn,by simp,?_⟩,⟨rfl,rfl,rfl,rfl⟩,⟨by simp; omega,fun i x hi hx=>?_⟩,fun i x hx hxx=>?_⟩
   · rw [R.appM_sl,hob]
     dsimp only
     rw [if_pos]
     · rfl
     · exact ⟨rfl,rfl,by simp [m7,hl],b8t hr,by simpa using hb,rfl⟩
   · rw [List.getElem?_append_right (by simp)]; simp
   · have hlt:=(List.getElem?_eq_some_iff.1 hx).1
     rw [List.getElem?_append_left (by simpa using hlt),List.getElem?_set_ne (by omega)]
     exact hx
   · have hlt:=(List.getElem?_eq_some_iff.1 hx).1
     rw [List.getElem?_append_left (by simpa using hlt),List.getElem?_set_ne]
     · exact hx
     · intro e
       subst e
       rw [hob] at hx
       exact hxx hne (Option.some.inj hx).symm
abbrev OutH (n0:Nat) (F:List Sel) (a:AV) (st:St):Prop:=Handed n0 (F.map Sel.row) 7 a st
abbrev SeenH (n0:Nat) (s:List (List Nat)) (a:AV) (st:St):Prop:=Handed n0 (s.map b9) 1 a st
theorem a9U {F:List Sel} {s:List (List Nat)} (h:F.map Sel.row≠[]) (h':s.map b9≠[]):(F.map Sel.row).flatten≠(s.map b9).flatten:=by
 cases F with
 | nil=>exact absurd rfl h
 | cons x F =>
  cases s with
  | nil=>exact absurd rfl h'
  | cons y s =>
   obtain ⟨k,al,nm,on,as,ds,sub⟩:=x
   rw [List.map_cons,List.map_cons,Sel.row_eq]
   simp [b9]
/-- a field more -/
theorem OutH.push {n0:Nat} {F:List Sel} {s:List (List Nat)} {a b:AV} {st:St} (h:OutH n0 F a st) (hs:SeenH n0 s b st) (x:Sel) (hF:F.length≤1000000) (hn:n0≤st.length) :
 ∃ a' st',(∀ call bx,B7 7 128 call [a,.fresh [x.row]] bx st=some (a',bx,st'))∧OutH n0 (F++[x]) a' st'∧SeenH n0 s b st'∧Pln a'∧Pres n0 st st':=by
 obtain ⟨a',st',h1,h2,h3,h4,h5⟩:=Handed.push h (by intro r hr; obtain ⟨v,_,rfl⟩:=List.mem_map.1 hr; exact v.row_len) x.row_len 128 (by rw [List.length_map]; omega) hn
 refine ⟨a',st',h1,by rw [OutH,List.map_append]; exact h2,?_,h3,h4⟩
 rcases hs with hs|⟨hne,o,ho,e,hob⟩
 · exact Or.inl hs
 · exact Or.inr ⟨hne,o,ho,e,h5 _ _ hob (fun hx e=>a9U hx hne (by simpa using e.symm))⟩
/-- a fragment more -/
theorem SeenH.push {n0:Nat} {F:List Sel} {s:List (List Nat)} {a b:AV} {st:St} (h:OutH n0 F a st) (hs:SeenH n0 s b st) (nm:List Nat) (hF:s.length≤1000000) (hn:n0≤st.length) :
 ∃ b' st',(∀ call bx,B7 1 16 call [b,.fresh [[.str nm]]] bx st=some (b',bx,st'))∧OutH n0 F a st'∧SeenH n0 (s++[nm]) b' st'∧Pln b'∧Pres n0 st st':=by
 obtain ⟨b',st',h1,h2,h3,h4,h5⟩:=Handed.push hs (by intro r hr; obtain ⟨v,_,rfl⟩:=List.mem_map.1 hr; rfl) (r:=[.str nm]) rfl 16 (by rw [List.length_map]; omega) hn
 refine ⟨b',st',h1,?_,by rw [SeenH,List.map_append]; exact h2,h3,h4⟩
 rcases h with h|⟨hne,o,ho,e,hob⟩
 · exact Or.inl h
 · exact Or.inr ⟨hne,o,ho,e,h5 _ _ hob (fun hx e=>a9U hne hx (by simpa using e))⟩
theorem c6W {n0:Nat} {s:List (List Nat)} {b:AV} {st:St} (h:SeenH n0 s b st) (hs:s.length≤10000) (n:List Nat):EvQ tbl 51 [b,.str n] st (fun a st'=>st'=st∧a=.bool (o9 s n)):=by
 rcases h with ⟨he,rfl⟩|⟨hne,o,ho,rfl,hob⟩
 · have e:s=[]:=by simpa using he
   subst e
   exact c90 n st
 · rw [List.length_map]
   exact c9H s hs n o st hob
/-- the first of which it holds -/
def fF (fr:List Frag) (nm:List Nat):Option Frag:=fr.find? fun f=>eqN f.n nm
theorem b2d (f:Frag) (fr:List Frag) (nm:List Nat):fF (f::fr) nm=if eqN f.n nm then some f else fF fr nm:=by
 unfold fF
 rw [List.find?_cons]
 cases eqN f.n nm <;> rfl
theorem b9E (nm:List Nat):∀ (fr:List Frag),fF fr nm=(pI (fun f:Frag=>eqN f.n nm) fr).bind fun i=>fr[i]?
 | []=>rfl
 | f::fr=>by
  rw [b2d,F3,b9E nm fr]
  split
  · rfl
  · cases pI (fun f:Frag=>eqN f.n nm) fr <;> rfl
inductive Sel.Kd:Sel→Prop
 | mk (k:Int) (al nm on:List Nat) (as:List Arg) (ds:List Dir) (sub:List Sel) (hk:k=1∨k=2∨k=3) (h:∀ s∈sub,Sel.Kd s):Sel.Kd (.mk k al nm on as ds sub)
end Go.Cb.CodeA
