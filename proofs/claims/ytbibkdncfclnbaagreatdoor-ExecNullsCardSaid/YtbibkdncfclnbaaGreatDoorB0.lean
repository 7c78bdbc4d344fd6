import Derived.Test.YtbibkdncfclnbaaGreatDoorRD
import Derived.Test.YtbibkdncfclnbaaGreatDoorYs1
set_option maxRecDepth 20000
set_option linter.unusedSimpArgs false
set_option linter.unusedVariables false
namespace Go.Cb.CodeA
open Go Go.Cb
/-! plain documents -/
def b85 (a:Arg):Bool:=match a.v with
 | .mk k n s [] []=>!eqI k 6 && decide (-9223372036854775808≤n∧n≤9223372036854775807)
 | _=>false
def a9L (as:List Arg):Bool:=decide (as.length≤3000) && as.all b85
def c0X (ds:List Dir):Bool:=decide (ds.length≤3000) && ds.all fun d=>a9L d.as
mutual
def Sel.fl:Sel→Bool
 | .mk _ _ _ _ as ds sub=>a9L as && c0X ds && decide (sub.length≤3000) && Sel.fls sub
def Sel.fls:List Sel→Bool
 | []=>true
 | x::xs=>x.fl && Sel.fls xs
end
theorem b2L {a:Arg} (h:b85 a=true):a.v.OK∧a.v.Rng:=by
 obtain ⟨n,v⟩:=a
 obtain ⟨k,m,s,ks,ls⟩:=v
 unfold b85 at h
 cases ks with
 | cons _ _=>cases h
 | nil =>
  cases ls with
  | cons _ _=>cases h
  | nil =>
   simp only [Bool.and_eq_true,Bool.not_eq_true',decide_eq_true_eq] at h
   refine ⟨.mk _ _ _ _ _ (fun h6=>rfl) (by decide) (by decide) (by simp),.mk _ _ _ _ _ h.2 (by simp)⟩
theorem b03 {as:List Arg} (h:a9L as=true):ArgsOK as∧∀ a∈as,a.v.Rng:=by
 unfold a9L at h
 simp only [Bool.and_eq_true,decide_eq_true_eq,List.all_eq_true] at h
 exact ⟨⟨h.1,fun a ha=>(b2L (h.2 a ha)).1⟩,fun a ha=>(b2L (h.2 a ha)).2⟩
mutual
theorem d0x:∀ x:Sel,x.fl=true→x.OK∧x.Rg
 | .mk k al nm on as ds sub,h=>by
  rw [Sel.fl] at h
  simp only [Bool.and_eq_true,decide_eq_true_eq] at h
  obtain ⟨⟨⟨h1,h2⟩,h3⟩,h4⟩:=h
  have h5:=a6O sub h4
  have h1:=b03 h1
  unfold c0X at h2
  simp only [Bool.and_eq_true,decide_eq_true_eq,List.all_eq_true] at h2
  exact ⟨.mk _ _ _ _ _ _ _ h1.1 ⟨h2.1,fun d hd=>(b03 (h2.2 d hd)).1⟩ h3 fun x hx=>(h5 x hx).1,.mk _ _ _ _ _ _ _ h1.2 fun x hx=>(h5 x hx).2⟩
theorem a6O:∀ l:List Sel,Sel.fls l=true→∀ x∈l,x.OK∧x.Rg
 | [],_=>by simp
 | y::l,h=>by
  rw [Sel.fls,Bool.and_eq_true] at h
  have h1:=d0x y h.1
  have h2:=a6O l h.2
  intro x hx
  rcases List.mem_cons.1 hx with rfl|hx
  · exact h1
  · exact h2 x hx
end
theorem c1t {d:List Sel} (h:(Sel.fls d && Nat.ble (sizes d) 2001)=true):SelX 2001 d:=by
 rw [Bool.and_eq_true] at h
 exact ⟨fun s hs=>(a6O d h.1 s hs).1,fun s hs=>(a6O d h.1 s hs).2,Nat.le_of_ble_eq_true h.2⟩
mutual
def Sel.runF (K:Cfg):Sel→List Sel
 | .mk k al nm on as ds sub=>if B2 K ds then (if eqI k 1 then [.mk k al nm on as ds sub] else if eqI k 2 then [] else if eqN on [] || isB K on then I8 K sub else []) else []
def I8 (K:Cfg):List Sel→List Sel
 | []=>[]
 | x::xs=>x.runF K++I8 K xs
end
theorem a7p (K:Cfg) (k:Int) (al nm on:List Nat) (as:List Arg) (ds:List Dir) (sub:List Sel):(Sel.mk k al nm on as ds sub).runF K=if B2 K ds then (if eqI k 1 then [.mk k al nm on as ds sub] else if eqI k 2 then [] else if eqN on [] || isB K on then I8 K sub else []) else []:=by rw [Sel.runF]
mutual
theorem c1T {K:Cfg} (hK:K.frags=[]):∀ (x:Sel) (s:List (List Nat)),FRun K [x] s (x.runF K) s
 | .mk k al nm on as ds sub,s=>by
  rw [a7p]
  rcases e8 (B2 K ds) with h|h
  · rw [if_pos h]
    rcases e8 (eqI k 1) with h1|h1
    · rw [if_pos h1]; exact .field h h1
    rw [h1,if_neg (by decide)]
    rcases e8 (eqI k 2) with h2|h2
    · rw [if_pos h2]; exact .none h h1 h2 (.inl (by rw [hK]; rfl))
    rw [h2,if_neg (by decide)]
    rcases e8 (eqN on [] || isB K on) with h3|h3
    · rw [if_pos h3]; exact .inl h h1 h2 h3 (a1L hK sub s)
    · rw [h3,if_neg (by decide)]; exact .inNo h h1 h2 h3
  · rw [h,if_neg (by decide)]; exact .skip h
theorem a1L {K:Cfg} (hK:K.frags=[]):∀ (l:List Sel) (s:List (List Nat)),FRun K l s (I8 K l) s
 | [],s=>.nil s
 | x::xs,s=>by rw [I8]; exact .cons (c1T hK x s) (a1L hK xs s)
end
mutual
theorem b6O {K K':Cfg} (hw:B2 K=B2 K') (hi:isB K=isB K'):∀ x:Sel,x.runF K=x.runF K'
 | .mk k al nm on as ds sub=>by rw [a7p,a7p,hw,hi,a5o hw hi sub]
theorem a5o {K K':Cfg} (hw:B2 K=B2 K') (hi:isB K=isB K'):∀ l:List Sel,I8 K l=I8 K' l
 | []=>by rw [I8,I8]
 | x::xs=>by rw [I8,I8,b6O hw hi x,a5o hw hi xs]
end
theorem b1A {K:Cfg} (hK:K.frags=[]) (l:List Sel):a1f K l=H3 (I8 K l):=a7A (a1L hK l [])
theorem b7j {K:Cfg} (hK:K.frags=[]) (l:List Sel):M9 (a1f K l)≤s9 l:=by
 have h:=(a1L hK l []).cost hK
 rw [b1A hK]
 exact Nat.le_trans (b7D _ h.1) h.2
/-! surroundings of a plain document -/
def b4j (d:List Sel):List AV:=[.bool false,.str [],.list false [],.list false (d.map Sel.row)]
def K0 (d:List Sel):Cfg:=⟨52,[b4j d],[],[],6,0,[],[],[],a6v T0⟩
noncomputable def E0 (d:List Sel) (es:List Ent) (v:AV):REnv:=mkE T0 (K0 d) es v (.list false [])
theorem b1s {l:List TD} {so:Nat} {st:St} (h:Sch l so st) (n:List Nat):(a6C l n).length≤3001:=by
 have hd:=b4n h n
 unfold a6C
 revert hd
 cases hl:lk l n with
 | none=>intro _; simp
 | some t =>
  intro hd
  have hd:t.ns.length≤3001:=hd
  dsimp only
  split
  · simp
  split
  · exact hd
  split
  · simp
  · rw [List.length_map]; exact Nat.le_trans (List.length_filter_le _ _) h.len
theorem c5v (d:List Sel):(K0 d).Fit:=⟨⟨by simp [K0],fun _=>rfl,⟨by simp [K0],by simp [K0]⟩,fun n=>Nat.le_trans (b1s sch0.sch n) (by decide)⟩,by simp [K0,o9],by simp [K0]⟩
def fsQ:List FDef:=fsD T0 m2
theorem b80:∀ f∈fsQ,f.ar.isEmpty=false→f.ar=[idF.row]:=by
 intro f hf
 unfold fsQ fsD at hf
 rw [show lkD T0 m2=some _ from rfl] at hf
 simp only [List.mem_cons,List.not_mem_nil,or_false] at hf
 rcases hf with rfl|rfl|rfl|rfl|rfl <;> intro h <;> first|rfl|cases h
theorem b5x (n:List Nat) (f:FDef) (h:a4L T0 m2 n=some f):f.ar.isEmpty=false→f.ar=[idF.row]:=by
 unfold a4L at h
 cases hl:lkD T0 m2 with
 | none=>rw [hl] at h; cases h
 | some t =>
  rw [hl] at h
  dsimp only at h
  rcases e8 (eqN n E1 && (if a6S T0 m2 then true else a1P m2)) with h1|h1
  · rw [if_pos h1] at h; cases h; intro h; cases h
  rw [h1,if_neg (by decide)] at h
  rcases e8 (eqI t.k 5) with h2|h2
  · rw [if_pos h2] at h; cases h
  rw [h2,if_neg (by decide)] at h
  cases hp:pI (fun x=>eqN n x) (t.fs.map FDef.n) with
  | none=>rw [hp] at h; cases h
  | some i =>
   rw [hp] at h
   have h:t.fs[i]?=some f:=h
   have e:fsQ=t.fs:=by unfold fsQ fsD; rw [hl]
   exact b80 f (by rw [e]; exact List.mem_of_getElem? h)
theorem c72 {d:List Sel} {es:List Ent} {v:AV} {B:St} (hB:Gr a7x B) (he:EntsAt v es B) (hs:M0 es) (hl:es.length≤12) (hg:∀ e∈es,e.Good):(E0 d es v).OK B :=
 c4C (K:=K0 d) (sch0.gr hB) (c5v d) rfl (fun n=>Nat.le_trans (b1s sch0.sch n) (by decide)) b5x (by kernel_rfl) he hs (by omega) hg ⟨rfl,rfl,rfl⟩
theorem b5D {v:Val} (h:Small v):Few v:=by
 obtain ⟨k,n,s,ls,rfl,_,hl,hu⟩:=h
 refine ⟨Nat.le_trans hl (by decide),fun u h=>?_⟩
 obtain ⟨k,n,s,rfl,_⟩:=hu u h
 rfl
theorem b52 (d:List Sel) {es:List Ent} (v:AV) (hl:es.length≤12) (hg:∀ e∈es,e.Good):(E0 d es v).Little :=
 ⟨hl,fun e he v hv=>b5D ((hg e he).sm v hv),fun typ l=>b7j (K:={ K0 d with typ:=typ }) rfl l⟩
theorem b2P (d:List Sel) {es:List Ent} (v:AV) (hl:es.length≤12) (hg:∀ e∈es,e.Good):(E0 d es v).Fine :=
 ⟨by show es.length≤_; omega,fun e he v hv=>((hg e he).sm v hv).fin⟩
/-- what a query of a plain document comes to -/
theorem qry {d:List Sel} {es:List Ent} {v:AV} {B:St} (hB:Gr a7x B) (he:EntsAt v es B) (hs:M0 es) (hl:es.length≤12) (hg:∀ e∈es,e.Good) (hd:SelX 2001 d) :
 EvQ tbl 17 [.ptr 52 0,.agg [v,.bool true,.list false []],.agg [.list false [b4j d],.list false []],.str [],.agg [.int .u8 0,.int .i64 0,.str [],.list false [],.list false []]] B (c6j (a7o (E0 d es v) d) B) :=
 c1x (E:=E0 d es v) (fun B' h=>c72 (hB.trans h) (he.gr h) hs hl hg) (V:=[]) (nm:=[]) hd rfl (b7A false [] [] (d.map Sel.row) [] B) fun st _=>(c1Q 52 st).mono fun a st' ⟨h1,h2⟩=>⟨h1,[],h2⟩
end Go.Cb.CodeA
