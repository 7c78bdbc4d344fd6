/-
 RulesFrags: merge and reach told otherwise, for documents of a plain form.
-/
import Derived.Test.YtendfdoplhhjbaaGreatDoorFV
set_option maxRecDepth 20000
set_option linter.unusedSimpArgs false
set_option linter.unusedVariables false
namespace Go.Cb.CodeA
open Go Go.Cb Go.Cb.G
def a8d:List AV→Option (List Nat)
 | [.int .u8 k,.str [],.str n,.str [],.list false [],.list false [],.list false []]=>if k=2 then some n else none
 | _=>none
def a2M:List (List AV)→Option (List (List Nat))
 | []=>some []
 | r::rs=>match a8d r,a2M rs with
  | some n,some ns=>some (n::ns)
  | _,_=>none
def b4I:List AV→Option SK
 | [.int .u8 k,.str [],.str n,.str [],.list false [],.list false [],.list false sub]=>if k=1 then (match a2M sub with|some s=>some (.fld n s)|none=>none) else if k=2 then (match sub with|[]=>some (.spr n)|_=>none) else none
 | _=>none
def a4j:List (List AV)→Option (List SK)
 | []=>some []
 | r::rs=>match b4I r,a4j rs with
  | some n,some ns=>some (n::ns)
  | _,_=>none
def a8s:List (List AV)→Option (List FG)
 | []=>some []
 | r::rs=>match r with
  | [.str nm,.str on,.list false sub]=>match a4j sub,a8s rs with
   | some s,some ns=>some (⟨nm,on,s⟩::ns)
   | _,_=>none
  | _=>none
theorem b1C {r:List AV} {n:List Nat} (h:a8d r=some n):r=a0a n:=by
 unfold a8d at h
 split at h
 · split at h
   · rename_i hk
     cases h
     rw [hk]; rfl
   · cases h
 · cases h
theorem a5l:∀ {rs:List (List AV)} {ns:List (List Nat)},a2M rs=some ns→rs=ns.map a0a
 | [],_,h=>by cases h; rfl
 | r::rs,ns,h=>by
  simp only [a2M] at h
  split at h
  · rename_i h1 h2
    cases h
    rw [b1C h1,a5l h2]; rfl
  · cases h
theorem c3p {r:List AV} {x:SK} (h:b4I r=some x):r=x.row:=by
 unfold b4I at h
 split at h
 · split at h
   · rename_i hk
     split at h
     · rename_i hs
       cases h
       rw [hk,a5l hs]; rfl
     · cases h
   · split at h
     · rename_i hk
       split at h
       · cases h
         rw [hk]; rfl
       · cases h
     · cases h
 · cases h
theorem a0I:∀ {rs:List (List AV)} {ns:List SK},a4j rs=some ns→rs=ns.map SK.row
 | [],_,h=>by cases h; rfl
 | r::rs,ns,h=>by
  simp only [a4j] at h
  split at h
  · rename_i h1 h2
    cases h
    rw [c3p h1,a0I h2]; rfl
  · cases h
theorem a3Y:∀ {rs:List (List AV)} {ns:List FG},a8s rs=some ns→rs=(ns.map FG.fk).map FK.row
 | [],_,h=>by cases h; rfl
 | r::rs,ns,h=>by
  simp only [a8s] at h
  split at h
  · split at h
    · rename_i h1 h2
      cases h
      rw [a0I h1,a3Y h2]; rfl
    · cases h
  · cases h
def N4 {α:Type} (n:Nat) (l:List α):Bool:=Nat.ble l.length n
def b0F (l:List SK):Bool:=l.all fun x=>match x with|.fld _ b=>N4 100 b|.spr _=>true
def okG (G:List FG):Bool:=N4 100 G && G.all fun f=>N4 100 f.sub && b0F f.sub
def a7l (o:List (List Nat×List (List Nat))):Bool:=N4 1 o || o.all fun x=>eqN x.1 [110,97,109,101] && x.2.isEmpty
theorem G6 {α:Type} {n:Nat} {l:List α} (h:N4 n l=true):l.length≤n:=Nat.le_of_ble_eq_true h
theorem a9o {l:List SK} (h:b0F l=true):∀ n b,SK.fld n b∈l→b.length≤10000:=fun n b hm=>by
 have:=(List.all_eq_true.1 h) _ hm
 exact Nat.le_trans (G6 (show N4 100 b=true from this)) (by decide)
theorem b2q {G:List FG} (h:okG G=true):G.length≤10000∧(∀ f∈G,f.sub.length≤10000)∧∀ f∈G,∀ n b,SK.fld n b∈f.sub→b.length≤10000:=by
 unfold okG at h
 rw [Bool.and_eq_true] at h
 have hall:∀ f∈G,N4 100 f.sub=true∧b0F f.sub=true:=fun f hf=>by
  have:=(List.all_eq_true.1 h.2) _ hf
  rwa [Bool.and_eq_true] at this
 exact ⟨Nat.le_trans (G6 h.1) (by decide),fun f hf=>Nat.le_trans (G6 (hall f hf).1) (by decide),fun f hf=>a9o (hall f hf).2⟩
theorem b2g {o:List (List Nat×List (List Nat))} (h:a7l o=true):b18 o:=by
 unfold a7l at h
 rw [Bool.or_eq_true] at h
 rcases h with h|h
 · exact .inl (G6 h)
 · refine .inr fun x hx=>?_
   have:=(List.all_eq_true.1 h) _ hx
   rw [Bool.and_eq_true] at this
   obtain ⟨a,b⟩:=x
   have h1:a=[110,97,109,101]:=by have:=this.1; rw [W9] at this; simpa using this
   have h2:b=[]:=by have:=this.2; cases b with|nil=>rfl|cons _ _=>cases this
   rw [h1,h2]; rfl
/-- a store, its objects reckoned out -/
def fOb {β:Type} (o:Cb.Obj) (k:Cb.Obj→β):β:=match o with
 | .cells cs=>fL cs fun cs=>k (.cells cs)
 | .map es=>k (.map es)
 | .dead=>k .dead
def fSt {β:Type} (s:St) (k:St→β):β:=match s with
 | []=>k []
 | o::os=>fOb o fun o=>fSt os fun os=>k (o::os)
theorem c6U {β:Type} (o:Cb.Obj) (k:Cb.Obj→β):fOb o k=k o:=by cases o <;> simp only [fOb,fL_eq]
theorem a6Z {β:Type}:∀ (s:St) (k:St→β),fSt s k=k s
 | [],k=>rfl
 | o::os,k=>by rw [fSt,c6U,a6Z os]
/-- a long list with a short one behind it, reckoned out -/
noncomputable def b4e {ρ β:Type} (l r:List β) (k:List β→Option ρ):Option ρ:=Nat.rec (motive:=fun _=>List β→(List β→Option ρ)→Option ρ) (fun l k=>T5 l r k) (fun _ ih l k=>K0 l (k (l++r)) ih k) (Nat.div (u7 l) 8) l k
theorem b0e {ρ β:Type} (r:List β):∀ (q:Nat) (l:List β) (k:List β→Option ρ),Nat.rec (motive:=fun _=>List β→(List β→Option ρ)→Option ρ) (fun l k=>T5 l r k) (fun _ ih l k=>K0 l (k (l++r)) ih k) q l k=k (l++r)
 | 0,l,k=>U4 r l k
 | q+1,l,k=>by
  show K0 l (k (l++r)) (fun l k=>Nat.rec (motive:=fun _=>List β→(List β→Option ρ)→Option ρ) (fun l k=>T5 l r k) (fun _ ih l k=>K0 l (k (l++r)) ih k) q l k) k=_
  rw [a4e]
  split
  · rw [b0e r q (l.drop 8),← List.append_assoc,List.take_append_drop]
  · rfl
theorem b0f {ρ β:Type} (l r:List β) (k:List β→Option ρ):b4e l r k=k (l++r):=b0e r _ l k
/-- the names that are come to, and no store -/
def E5 (G:List FG):Nat→List SK→List (List Nat)→Option (List (List Nat))
 | 0,_,_=>none
 | _+1,[],s=>some s
 | n+1,.fld _ sub::l,s=>match E5 G n (sub.map SK.spr) s with
  | some s2=>E5 G n l s2
  | none=>none
 | n+1,.spr nm::l,s=>match I7 nm G with
  | none=>E5 G n l s
  | some f=>match a2e s nm with
   | true=>E5 G n l s
   | false=>match E5 G n f.sub (s++[nm]) with
    | some s2=>E5 G n l s2
    | none=>none
def stV (st:St) (s:List (List Nat)):Option Nat:=match s with
 | []=>none
 | _::s=>some (st.length+s.length)
def stN (s:List (List Nat)):St:=match s with
 | []=>[]
 | x::s=>List.replicate s.length .dead++[X3 (x::s)]
theorem b3T (st:St) (s:List (List Nat)) (n:List Nat):S2 (st++stN s) (stV st s) s n=st++stN (s++[n])∧(st++stN s).length=st.length+s.length∧stV st (s++[n])=some (st.length+s.length):=by
 cases s with
 | nil=>exact ⟨by simp [S2,stV,stN],by simp [stN],rfl⟩
 | cons x s =>
  refine ⟨?_,by simp [stN],by simp [stV]⟩
  show (st++(List.replicate s.length Cb.Obj.dead++[X3 (x::s)])).set (st.length+s.length) .dead++[X3 (x::s++[n])]=st++(List.replicate (s++[n]).length Cb.Obj.dead++[X3 (x::s++[n])])
  rw [List.set_append_right _ _ (by omega),Nat.add_sub_cancel_left,List.set_append_right _ _ (by simp),List.length_replicate,Nat.sub_self,List.length_append,List.length_singleton,List.replicate_succ']
  simp
theorem E9 {G:List FG} {st:St}:∀ {n:Nat} {l:List SK} {s s':List (List Nat)},E5 G n l s=some s'→n6 G n l (stV st s) s (st++stN s)=some (stV st s',s',st++stN s')
 | 0,_,_,_,h=>by cases h
 | n+1,[],s,s',h=>by
  simp only [E5,Option.some.injEq] at h
  subst h
  rfl
 | n+1,.fld nm sub::l,s,s',h=>by
  simp only [E5] at h
  split at h
  · rename_i h1
    simp only [n6,E9 h1]
    exact E9 h
  · cases h
 | n+1,.spr nm::l,s,s',h=>by
  simp only [E5] at h
  simp only [n6]
  split at h
  · rename_i e1
    simp only [e1]
    exact E9 h
  · rename_i e1
    simp only [e1]
    split at h
    · rename_i e2
      simp only [e2]
      exact E9 h
    · rename_i e2
      simp only [e2]
      split at h
      · rename_i h1
        obtain ⟨p1,p2,p3⟩:=b3T st s nm
        have:=E9 (st:=st) h1
        rw [p3] at this
        rw [p1,p2,this]
        exact E9 h
      · cases h
noncomputable def a3x:X1:=fun as st=>match as with
 | [.ptr c 0,.list false rows]=>match st[c]? with
  | some (.cells [s,ops,.list false frs,ou])=>match a8s frs,a4j rows with
   | some G,some l=>match A0 G 1000 l [] with
    | some (out,s')=>if okG G && N4 100 l && N4 100 out && N4 100 s' && a7l out then fSt (C5 s'::E0 0 out) fun nw=>b4e st nw fun st'=>some (.tuple [],st') else none
    | none=>none
   | _,_=>none
  | _=>none
 | _=>none
noncomputable def a2n:X1:=fun as st=>match as with
 | [.ptr c 0,.list false rows,.nils]=>match st[c]? with
  | some (.cells [s,ops,.list false frs,ou])=>match a8s frs,a4j rows with
   | some G,some l=>match E5 G 1000 l [] with
    | some s'=>if okG G && N4 100 l && b0F l && N4 100 s' then Q7 (n7 (stV st s') s') fun r=>fSt (stN s') fun nw=>b4e st nw fun st'=>some (r,st') else none
    | none=>none
   | _,_=>none
  | _=>none
 | _=>none
theorem b2w {as:List AV} {st:St} {r:AV×St} (h:a3x as st=some r):∃ m,e8 tbl m 68 as st=some r:=by
 unfold a3x at h
 split at h <;> try (cases h; done)
 split at h <;> try (cases h; done)
 rename_i c rows s ops frs ou hc
 split at h <;> try (cases h; done)
 rename_i G l hG hl
 split at h <;> try (cases h; done)
 rename_i out s' hf
 split at h <;> try (cases h; done)
 rename_i hb
 rw [a6Z,b0f] at h
 simp only [Bool.and_eq_true] at hb
 obtain ⟨⟨⟨⟨b1,b2⟩,b3⟩,b4⟩,b5⟩:=hb
 obtain ⟨g1,g2,g3⟩:=b2q b1
 rw [a3Y hG] at hc
 rw [a0I hl]
 have hq:=b9l G g1 (Nat.le_trans (G6 b2) (by decide)) hf (Nat.le_trans (G6 b3) (by decide)) (Nat.le_trans (G6 b4) (by decide)) g2 (b2g b5) (s:=s) (ops:=ops) (ou:=ou) hc
 obtain ⟨r',st',⟨m,hm⟩,rfl,rfl⟩:=hq
 exact ⟨m,by rw [hm]; exact h⟩
theorem b2u {as:List AV} {st:St} {r:AV×St} (h:a2n as st=some r):∃ m,e8 tbl m 30 as st=some r:=by
 unfold a2n at h
 split at h <;> try (cases h; done)
 split at h <;> try (cases h; done)
 rename_i c rows s ops frs ou hc
 split at h <;> try (cases h; done)
 rename_i G l hG hl
 split at h <;> try (cases h; done)
 rename_i s' hf
 split at h <;> try (cases h; done)
 rename_i hb
 have hf:=E9 (st:=st) hf
 rw [show stN []=[] from rfl,List.append_nil,show stV st []=none from rfl] at hf
 rw [fNew_eq,a6Z,b0f] at h
 simp only [Bool.and_eq_true] at hb
 obtain ⟨⟨⟨b1,b2⟩,b3⟩,b4⟩:=hb
 obtain ⟨g1,g2,g3⟩:=b2q b1
 rw [a3Y hG] at hc
 rw [a0I hl]
 have hq:=b8O G g1 g2 g3 (si:=s) (ops:=ops) (ou:=ou) 1000 (Nat.le_trans (G6 b2) (by decide)) (a9o b3) hf (Nat.le_trans (G6 b4) (by decide)) rfl hc
 obtain ⟨r',st',⟨m,hm⟩,rfl,rfl⟩:=hq
 exact ⟨m,by rw [show AV.nils=n7 none [] from rfl,hm]; exact h⟩
noncomputable def ovs:List (Nat×X1):=[(68,a3x),(30,a2n)]
theorem d2j:∀ f e,a0F ovs f=some e→∀ as st r,e as st=some r→∃ m,e8 tbl m f as st=some r:=by
 intro f e h as st r he
 have hl:a0F ovs f=match Nat.beq 68 f with|true=>some a3x|false=>(match Nat.beq 30 f with|true=>some a2n|false=>none):=rfl
 rw [hl] at h
 split at h
 · rename_i hb
   obtain rfl:=Nat.eq_of_beq_eq_true hb
   cases h
   exact b2w he
 · split at h
   · rename_i hb
     obtain rfl:=Nat.eq_of_beq_eq_true hb
     cases h
     exact b2u he
   · cases h
noncomputable def f5Z:Nat→Option AFn:=ovr ovs tbl
end Go.Cb.CodeA
