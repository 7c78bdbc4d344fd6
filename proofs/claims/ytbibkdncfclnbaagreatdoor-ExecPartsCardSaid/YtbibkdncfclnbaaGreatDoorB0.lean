import Derived.Test.YtbibkdncfclnbaaGreatDoorRD
import Derived.Test.YtbibkdncfclnbaaGreatDoorYs1
set_option maxRecDepth 20000
set_option linter.unusedSimpArgs false
set_option linter.unusedVariables false
namespace Go.Cb.CodeA
open Go Go.Cb
def b9P (a:Arg):Bool:=match a.v with
 | .mk k n s [] []=>!eqI k 6 && decide (-9223372036854775808≤n∧n≤9223372036854775807)
 | _=>false
def b0U (as:List Arg):Bool:=decide (as.length≤3000) && as.all b9P
def c1V (ds:List Dir):Bool:=decide (ds.length≤3000) && ds.all fun d=>b0U d.as
mutual
def Sel.fl:Sel→Bool
 | .mk _ _ _ _ as ds sub=>b0U as && c1V ds && decide (sub.length≤3000) && Sel.fls sub
def Sel.fls:List Sel→Bool
 | []=>true
 | x::xs=>x.fl && Sel.fls xs
end
theorem b3O {a:Arg} (h:b9P a=true):a.v.OK∧a.v.Rng:=by
 obtain ⟨n,v⟩:=a
 obtain ⟨k,m,s,ks,ls⟩:=v
 unfold b9P at h
 cases ks with
 | cons _ _=>cases h
 | nil =>
  cases ls with
  | cons _ _=>cases h
  | nil =>
   simp only [AA,Bool.not_eq_true',decide_eq_true_eq] at h
   refine ⟨.mk _ _ _ _ _ (fun h6=>rfl) (by decide) (by decide) (by simp),.mk _ _ _ _ _ h.2 (by simp)⟩
theorem b1z {as:List Arg} (h:b0U as=true):ArgsOK as∧∀ a∈as,a.v.Rng:=by
 unfold b0U at h
 simp only [AA,decide_eq_true_eq,List.all_eq_true] at h
 exact ⟨⟨h.1,fun a ha=>(b3O (h.2 a ha)).1⟩,fun a ha=>(b3O (h.2 a ha)).2⟩
mutual
theorem c95:∀ x:Sel,x.fl=true→x.OK∧x.Rg
 | .mk k al nm on as ds sub,h=>by
  rw [Sel.fl] at h
  simp only [AA,decide_eq_true_eq] at h
  obtain ⟨⟨⟨h1,h2⟩,h3⟩,h4⟩:=h
  have h5:=a7R sub h4
  have h1:=b1z h1
  unfold c1V at h2
  simp only [AA,decide_eq_true_eq,List.all_eq_true] at h2
  exact ⟨.mk _ _ _ _ _ _ _ h1.1 ⟨h2.1,fun d hd=>(b1z (h2.2 d hd)).1⟩ h3 fun x hx=>(h5 x hx).1,.mk _ _ _ _ _ _ _ h1.2 fun x hx=>(h5 x hx).2⟩
theorem a7R:∀ l:List Sel,Sel.fls l=true→∀ x∈l,x.OK∧x.Rg
 | [],_=>by simp
 | y::l,h=>by
  rw [Sel.fls,AA] at h
  have h1:=c95 y h.1
  have h2:=a7R l h.2
  intro x hx
  rcases List.mem_cons.1 hx with rfl|hx
  · exact h1
  · exact h2 x hx
end
theorem p9 {d:List Sel} (h:(Sel.fls d && Nat.ble (sizes d) 2001)=true):SelX 2001 d:=by
 rw [AA] at h
 exact ⟨fun s hs=>(a7R d h.1 s hs).1,fun s hs=>(a7R d h.1 s hs).2,Nat.le_of_ble_eq_true h.2⟩
mutual
def Sel.runF (K:Cfg):Sel→List Sel
 | .mk k al nm on as ds sub=>if B1 K ds then (if eqI k 1 then [.mk k al nm on as ds sub] else if eqI k 2 then [] else if eqN on [] || isB K on then F3 K sub else []) else []
def F3 (K:Cfg):List Sel→List Sel
 | []=>[]
 | x::xs=>x.runF K++F3 K xs
end
theorem a8m (K:Cfg) (k:Int) (al nm on:List Nat) (as:List Arg) (ds:List Dir) (sub:List Sel):(Sel.mk k al nm on as ds sub).runF K=if B1 K ds then (if eqI k 1 then [.mk k al nm on as ds sub] else if eqI k 2 then [] else if eqN on [] || isB K on then F3 K sub else []) else []:=by rw [Sel.runF]
mutual
theorem c4h {K:Cfg} (hK:K.frags=[]):∀ (x:Sel) (s:List (List Nat)),FRun K [x] s (x.runF K) s
 | .mk k al nm on as ds sub,s=>by
  rw [a8m]
  rcases e9 (B1 K ds) with h|h
  · rw [if_pos h]
    rcases e9 (eqI k 1) with h1|h1
    · rw [if_pos h1]; exact .field h h1
    rw [h1,if_neg (by decide)]
    rcases e9 (eqI k 2) with h2|h2
    · rw [if_pos h2]; exact .none h h1 h2 (.inl (by rw [hK]; rfl))
    rw [h2,if_neg (by decide)]
    rcases e9 (eqN on [] || isB K on) with h3|h3
    · rw [if_pos h3]; exact .inl h h1 h2 h3 (a1c hK sub s)
    · rw [h3,if_neg (by decide)]; exact .inNo h h1 h2 h3
  · rw [h,if_neg (by decide)]; exact .skip h
theorem a1c {K:Cfg} (hK:K.frags=[]):∀ (l:List Sel) (s:List (List Nat)),FRun K l s (F3 K l) s
 | [],s=>.nil s
 | x::xs,s=>by rw [F3]; exact .cons (c4h hK x s) (a1c hK xs s)
end
mutual
theorem b8A {K K':Cfg} (hw:B1 K=B1 K') (hi:isB K=isB K'):∀ x:Sel,x.runF K=x.runF K'
 | .mk k al nm on as ds sub=>by rw [a8m,a8m,hw,hi,a27 hw hi sub]
theorem a27 {K K':Cfg} (hw:B1 K=B1 K') (hi:isB K=isB K'):∀ l:List Sel,F3 K l=F3 K' l
 | []=>by rw [F3,F3]
 | x::xs=>by rw [F3,F3,b8A hw hi x,a27 hw hi xs]
end
theorem a2Y {K:Cfg} (hK:K.frags=[]) (l:List Sel):a0r K l=G5 (F3 K l):=a8L (a1c hK l [])
theorem b7Y {K:Cfg} (hK:K.frags=[]) (l:List Sel):P8 (a0r K l)≤r5 l:=by
 have h:=(a1c hK l []).cost hK
 rw [a2Y hK]
 exact Nat.le_trans (b8R _ h.1) h.2
def b0P (d:List Sel):List AV:=[.bool false,.str [],.list false [],.list false (d.map Sel.row)]
def K0 (d:List Sel):Cfg:=⟨52,[b0P d],[],[],6,0,[],[],[],a1n T0⟩
noncomputable def E0 (d:List Sel) (es:List Ent) (v:AV):REnv:=mkE T0 (K0 d) es v (.list false [])
theorem b2i {l:List TD} {so:Nat} {st:St} (h:Sch l so st) (n:List Nat):(a4m l n).length≤3001:=by
 have hd:=b54 h n
 unfold a4m
 revert hd
 cases hl:lk l n with
 | none=>intro _; simp
 | some t =>
  intro hd
  have hd:t.ns.length≤3001:=hd
  dsimp only
  split
  · simp
  split
  · exact hd
  split
  · simp
  · rw [AF]; exact Nat.le_trans (List.length_filter_le _ _) h.len
theorem c6c (d:List Sel):(K0 d).Fit:=⟨⟨by simp [K0],fun _=>rfl,⟨by simp [K0],by simp [K0]⟩,fun n=>Nat.le_trans (b2i sch0.sch n) (by decide)⟩,by simp [K0,q6],by simp [K0]⟩
def fsQ:List FDef:=fsD T0 j5
theorem c0m:∀ f∈fsQ,f.ar.isEmpty=false→f.ar=[idF.row]:=by
 intro f hf
 unfold fsQ fsD at hf
 rw [show lkD T0 j5=some _ from rfl] at hf
 simp only [List.mem_cons,List.not_mem_nil,or_false] at hf
 rcases hf with rfl|rfl|rfl|rfl|rfl <;> intro h <;> first|rfl|cases h
theorem b6u (n:List Nat) (f:FDef) (h:W4 T0 j5 n=some f):f.ar.isEmpty=false→f.ar=[idF.row]:=by
 unfold W4 at h
 cases hl:lkD T0 j5 with
 | none=>rw [hl] at h; cases h
 | some t =>
  rw [hl] at h
  dsimp only at h
  rcases e9 (eqN n N1 && (if a7f T0 j5 then true else a2G j5)) with h1|h1
  · rw [if_pos h1] at h; cases h; intro h; cases h
  rw [h1,if_neg (by decide)] at h
  rcases e9 (eqI t.k 5) with h2|h2
  · rw [if_pos h2] at h; cases h
  rw [h2,if_neg (by decide)] at h
  cases hp:pI (fun x=>eqN n x) (t.fs.map FDef.n) with
  | none=>rw [hp] at h; cases h
  | some i =>
   rw [hp] at h
   have h:t.fs[i]?=some f:=h
   have e:fsQ=t.fs:=by unfold fsQ fsD; rw [hl]
   exact c0m f (by rw [e]; exact List.mem_of_getElem? h)
theorem d1L {d:List Sel} {es:List Ent} {v:AV} {B:St} (hB:Gr T_bb B) (he:EntsAt v es B) (hs:K6 es) (hl:es.length≤12) (hg:∀ e∈es,a1S e):(E0 d es v).OK B :=
 c8C (K:=K0 d) (sch0.gr hB) (c6c d) rfl (fun n=>Nat.le_trans (b2i sch0.sch n) (by decide)) b6u (by kernel_rfl) he hs (by omega) hg ⟨rfl,rfl,rfl⟩
theorem b8W {v:Val} (h:Small v):Few v:=by
 obtain ⟨k,n,s,ls,rfl,_,hl,hu⟩:=h
 refine ⟨Nat.le_trans hl (by decide),fun u h=>?_⟩
 obtain ⟨k,n,s,rfl,_⟩:=hu u h
 rfl
theorem b62 (d:List Sel) {es:List Ent} (v:AV) (hl:es.length≤12) (hg:∀ e∈es,e.Good):(E0 d es v).Little :=
 ⟨hl,fun e he v hv=>b8W ((hg e he).sm v hv),fun typ l=>b7Y (K:={ K0 d with typ:=typ }) rfl l⟩
theorem b8K (d d':List Sel) (es:List Ent) (v:AV):(E0 d es v).Sim (E0 d' es v):=by
 refine ⟨rfl,rfl,?_,rfl,rfl,rfl,rfl,rfl⟩
 funext typ l
 show a0r { K0 d' with typ:=typ } l=a0r { K0 d with typ:=typ } l
 rw [a2Y rfl,a2Y rfl]
 have e:∀ K K':Cfg,K.typ=K'.typ→K.poss=K'.poss→K.vk=K'.vk→K.vks=K'.vks→K.vls=K'.vls→(∀ l,F3 K l=F3 K' l):=by
  intro K K' h1 h2 h3 h4 h5 l
  have hget:K.get=K'.get:=by funext n; unfold Cfg.get; rw [h3,h4,h5]
  have hval:K.val=K'.val:=by funext n; unfold Cfg.val; rw [hget]
  have hyes:∀ as,J4 K as=J4 K' as:=by
   intro as
   induction as with
   | nil=>rfl
   | cons a as ih=>rw [J4,J4,hval,ih]
  have hwant:B1 K=B1 K':=by
   funext ds; unfold B1; congr 2; funext d; unfold b2e; rw [hyes]
  have his:isB K=isB K':=by funext n; unfold isB; rw [h1,h2]
  exact a27 hwant his l
 rw [e { K0 d' with typ:=typ } { K0 d with typ:=typ } rfl rfl rfl rfl rfl]
theorem d8c {d:List Sel} {es:List Ent} {v:AV} {B:St} (hB:Gr T_bb B) (he:EntsAt v es B) (hs:K6 es) (hl:es.length≤12) (hg:∀ e∈es,a1S e) (hd:SelX 2001 d) :
 EvQ tbl 17 [.ptr 52 0,.agg [v,.bool true,.list false []],.agg [.list false [b0P d],.list false []],.str [],.agg [.int .u8 0,.int .i64 0,.str [],.list false [],.list false []]] B (c0B (a2E (E0 d es v) d) B) :=
 c4t (E:=E0 d es v) (fun B' h=>d1L (hB.trans h) (he.gr h) hs hl hg) (V:=[]) (nm:=[]) hd rfl (b8u false [] [] (d.map Sel.row) [] B) fun st _=>(c3h 52 st).mono fun a st' ⟨h1,h2⟩=>⟨h1,[],h2⟩
theorem qry {d:List Sel} {es:List Ent} {v:AV} {B:St} (hB:Gr T_bb B) (he:EntsAt v es B) (hs:K6 es) (hl:es.length≤12) (hg:∀ e∈es,e.Good) (hd:SelX 2001 d) :
 EvQ tbl 17 [.ptr 52 0,.agg [v,.bool true,.list false []],.agg [.list false [b0P d],.list false []],.str [],.agg [.int .u8 0,.int .i64 0,.str [],.list false [],.list false []]] B (c0B (a2E (E0 d es v) d) B) :=
 d8c hB he hs hl (fun e h=>(hg e h).x) hd
end Go.Cb.CodeA
