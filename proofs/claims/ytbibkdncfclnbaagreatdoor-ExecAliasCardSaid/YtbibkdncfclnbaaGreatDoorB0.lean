import Derived.Test.YtbibkdncfclnbaaGreatDoorRD
import Derived.Test.YtbibkdncfclnbaaGreatDoorYs1
set_option maxRecDepth 20000
set_option linter.unusedSimpArgs false
set_option linter.unusedVariables false
namespace Go.Cb.CodeA
open Go Go.Cb
/-! plain documents -/
def b8d (a:Arg):Bool:=match a.v with
 | .mk k n s [] []=>!eqI k 6 && decide (-9223372036854775808≤n∧n≤9223372036854775807)
 | _=>false
def a9B (as:List Arg):Bool:=decide (as.length≤3000) && as.all b8d
def c0l (ds:List Dir):Bool:=decide (ds.length≤3000) && ds.all fun d=>a9B d.as
mutual
def Sel.fl:Sel→Bool
 | .mk _ _ _ _ as ds sub=>a9B as && c0l ds && decide (sub.length≤3000) && Sel.fls sub
def Sel.fls:List Sel→Bool
 | []=>true
 | x::xs=>x.fl && Sel.fls xs
end
theorem b2q {a:Arg} (h:b8d a=true):a.v.OK∧a.v.Rng:=by
 obtain ⟨n,v⟩:=a
 obtain ⟨k,m,s,ks,ls⟩:=v
 unfold b8d at h
 cases ks with
 | cons _ _=>cases h
 | nil =>
  cases ls with
  | cons _ _=>cases h
  | nil =>
   simp only [Bool.and_eq_true,Bool.not_eq_true',decide_eq_true_eq] at h
   refine ⟨.mk _ _ _ _ _ (fun h6=>rfl) (by decide) (by decide) (by simp),.mk _ _ _ _ _ h.2 (by simp)⟩
theorem b1l {as:List Arg} (h:a9B as=true):ArgsOK as∧∀ a∈as,a.v.Rng:=by
 unfold a9B at h
 simp only [Bool.and_eq_true,decide_eq_true_eq,List.all_eq_true] at h
 exact ⟨⟨h.1,fun a ha=>(b2q (h.2 a ha)).1⟩,fun a ha=>(b2q (h.2 a ha)).2⟩
mutual
theorem d0w:∀ x:Sel,x.fl=true→x.OK∧x.Rg
 | .mk k al nm on as ds sub,h=>by
  rw [Sel.fl] at h
  simp only [Bool.and_eq_true,decide_eq_true_eq] at h
  obtain ⟨⟨⟨h1,h2⟩,h3⟩,h4⟩:=h
  have h5:=a6h sub h4
  have h1:=b1l h1
  unfold c0l at h2
  simp only [Bool.and_eq_true,decide_eq_true_eq,List.all_eq_true] at h2
  exact ⟨.mk _ _ _ _ _ _ _ h1.1 ⟨h2.1,fun d hd=>(b1l (h2.2 d hd)).1⟩ h3 fun x hx=>(h5 x hx).1,.mk _ _ _ _ _ _ _ h1.2 fun x hx=>(h5 x hx).2⟩
theorem a6h:∀ l:List Sel,Sel.fls l=true→∀ x∈l,x.OK∧x.Rg
 | [],_=>by simp
 | y::l,h=>by
  rw [Sel.fls,Bool.and_eq_true] at h
  have h1:=d0w y h.1
  have h2:=a6h l h.2
  intro x hx
  rcases List.mem_cons.1 hx with rfl|hx
  · exact h1
  · exact h2 x hx
end
theorem L7 {d:List Sel} (h:(Sel.fls d && Nat.ble (sizes d) 2001)=true):SelX 2001 d:=by
 rw [Bool.and_eq_true] at h
 exact ⟨fun s hs=>(a6h d h.1 s hs).1,fun s hs=>(a6h d h.1 s hs).2,Nat.le_of_ble_eq_true h.2⟩
mutual
def Sel.runF (K:Cfg):Sel→List Sel
 | .mk k al nm on as ds sub=>if s7 K ds then (if eqI k 1 then [.mk k al nm on as ds sub] else if eqI k 2 then [] else if eqN on [] || isB K on then L2 K sub else []) else []
def L2 (K:Cfg):List Sel→List Sel
 | []=>[]
 | x::xs=>x.runF K++L2 K xs
end
theorem a7e (K:Cfg) (k:Int) (al nm on:List Nat) (as:List Arg) (ds:List Dir) (sub:List Sel):(Sel.mk k al nm on as ds sub).runF K=if s7 K ds then (if eqI k 1 then [.mk k al nm on as ds sub] else if eqI k 2 then [] else if eqN on [] || isB K on then L2 K sub else []) else []:=by rw [Sel.runF]
mutual
theorem c1z {K:Cfg} (hK:K.frags=[]):∀ (x:Sel) (s:List (List Nat)),FRun K [x] s (x.runF K) s
 | .mk k al nm on as ds sub,s=>by
  rw [a7e]
  rcases e7 (s7 K ds) with h|h
  · rw [if_pos h]
    rcases e7 (eqI k 1) with h1|h1
    · rw [if_pos h1]; exact .field h h1
    rw [h1,if_neg (by decide)]
    rcases e7 (eqI k 2) with h2|h2
    · rw [if_pos h2]; exact .none h h1 h2 (.inl (by rw [hK]; rfl))
    rw [h2,if_neg (by decide)]
    rcases e7 (eqN on [] || isB K on) with h3|h3
    · rw [if_pos h3]; exact .inl h h1 h2 h3 (a2g hK sub s)
    · rw [h3,if_neg (by decide)]; exact .inNo h h1 h2 h3
  · rw [h,if_neg (by decide)]; exact .skip h
theorem a2g {K:Cfg} (hK:K.frags=[]):∀ (l:List Sel) (s:List (List Nat)),FRun K l s (L2 K l) s
 | [],s=>.nil s
 | x::xs,s=>by rw [L2]; exact .cons (c1z hK x s) (a2g hK xs s)
end
mutual
theorem b6n {K K':Cfg} (hw:s7 K=s7 K') (hi:isB K=isB K'):∀ x:Sel,x.runF K=x.runF K'
 | .mk k al nm on as ds sub=>by rw [a7e,a7e,hw,hi,a1Y hw hi sub]
theorem a1Y {K K':Cfg} (hw:s7 K=s7 K') (hi:isB K=isB K'):∀ l:List Sel,L2 K l=L2 K' l
 | []=>by rw [L2,L2]
 | x::xs=>by rw [L2,L2,b6n hw hi x,a1Y hw hi xs]
end
theorem a1K {K:Cfg} (hK:K.frags=[]) (l:List Sel):Z0 K l=K9 (L2 K l):=a7a (a2g hK l [])
theorem b6s {K:Cfg} (hK:K.frags=[]) (l:List Sel):M7 (Z0 K l)≤q9 l:=by
 have h:=(a2g hK l []).cost hK
 rw [a1K hK]
 exact Nat.le_trans (b54 _ h.1) h.2
/-! surroundings of a plain document -/
def b4k (d:List Sel):List AV:=[.bool false,.str [],.list false [],.list false (d.map Sel.row)]
def K0 (d:List Sel):Cfg:=⟨52,[b4k d],[],[],6,0,[],[],[],a6E T0⟩
noncomputable def E0 (d:List Sel) (es:List Ent) (v:AV):REnv:=mkE T0 (K0 d) es v (.list false [])
theorem b0C {l:List TD} {so:Nat} {st:St} (h:Sch l so st) (n:List Nat):(a5o l n).length≤3001:=by
 have hd:=b3S h n
 unfold a5o
 revert hd
 cases hl:lk l n with
 | none=>intro _; simp
 | some t =>
  intro hd
  have hd:t.ns.length≤3001:=hd
  dsimp only
  split
  · simp
  split
  · exact hd
  split
  · simp
  · rw [List.length_map]; exact Nat.le_trans (List.length_filter_le _ _) h.len
theorem c5d (d:List Sel):(K0 d).Fit:=⟨⟨by simp [K0],fun _=>rfl,⟨by simp [K0],by simp [K0]⟩,fun n=>Nat.le_trans (b0C sch0.sch n) (by decide)⟩,by simp [K0,n9],by simp [K0]⟩
def fsQ:List FDef:=fsD T0 m4
theorem b70:∀ f∈fsQ,f.ar.isEmpty=false→f.ar=[idF.row]:=by
 intro f hf
 unfold fsQ fsD at hf
 rw [show lkD T0 m4=some _ from rfl] at hf
 simp only [List.mem_cons,List.not_mem_nil,or_false] at hf
 rcases hf with rfl|rfl|rfl|rfl|rfl <;> intro h <;> first|rfl|cases h
theorem b6h (n:List Nat) (f:FDef) (h:a1U T0 m4 n=some f):f.ar.isEmpty=false→f.ar=[idF.row]:=by
 unfold a1U at h
 cases hl:lkD T0 m4 with
 | none=>rw [hl] at h; cases h
 | some t =>
  rw [hl] at h
  dsimp only at h
  rcases e7 (eqN n J4 && (if a5E T0 m4 then true else a1W m4)) with h1|h1
  · rw [if_pos h1] at h; cases h; intro h; cases h
  rw [h1,if_neg (by decide)] at h
  rcases e7 (eqI t.k 5) with h2|h2
  · rw [if_pos h2] at h; cases h
  rw [h2,if_neg (by decide)] at h
  cases hp:pI (fun x=>eqN n x) (t.fs.map FDef.n) with
  | none=>rw [hp] at h; cases h
  | some i =>
   rw [hp] at h
   have h:t.fs[i]?=some f:=h
   have e:fsQ=t.fs:=by unfold fsQ fsD; rw [hl]
   exact b70 f (by rw [e]; exact List.mem_of_getElem? h)
theorem d0f {d:List Sel} {es:List Ent} {v:AV} {B:St} (hB:Gr a0I B) (he:EntsAt v es B) (hs:L3 es) (hl:es.length≤12) (hg:∀ e∈es,e.Good):(E0 d es v).OK B :=
 c42 (K:=K0 d) (sch0.gr hB) (c5d d) rfl (fun n=>Nat.le_trans (b0C sch0.sch n) (by decide)) b6h (by kernel_rfl) he hs (by omega) hg ⟨rfl,rfl,rfl⟩
theorem b59 {v:Val} (h:Small v):Few v:=by
 obtain ⟨k,n,s,ls,rfl,_,hl,hu⟩:=h
 refine ⟨Nat.le_trans hl (by decide),fun u h=>?_⟩
 obtain ⟨k,n,s,rfl,_⟩:=hu u h
 rfl
theorem b51 (d:List Sel) {es:List Ent} (v:AV) (hl:es.length≤12) (hg:∀ e∈es,e.Good):(E0 d es v).Little :=
 ⟨hl,fun e he v hv=>b59 ((hg e he).sm v hv),fun typ l=>b6s (K:={ K0 d with typ:=typ }) rfl l⟩
theorem b2p (d:List Sel) {es:List Ent} (v:AV) (hl:es.length≤12) (hg:∀ e∈es,e.Good):(E0 d es v).Fine :=
 ⟨by show es.length≤_; omega,fun e he v hv=>((hg e he).sm v hv).fin⟩
theorem c6b (d d':List Sel) (es:List Ent) (v:AV):(E0 d es v).Sim (E0 d' es v):=by
 refine ⟨rfl,rfl,?_,rfl,rfl,rfl,rfl,rfl⟩
 funext typ l
 show Z0 { K0 d' with typ:=typ } l=Z0 { K0 d with typ:=typ } l
 rw [a1K rfl,a1K rfl]
 have e:∀ K K':Cfg,K.typ=K'.typ→K.poss=K'.poss→K.vk=K'.vk→K.vks=K'.vks→K.vls=K'.vls→(∀ l,L2 K l=L2 K' l):=by
  intro K K' h1 h2 h3 h4 h5 l
  have hget:K.get=K'.get:=by funext n; unfold Cfg.get; rw [h3,h4,h5]
  have hval:K.val=K'.val:=by funext n; unfold Cfg.val; rw [hget]
  have hyes:∀ as,H0 K as=H0 K' as:=by
   intro as
   induction as with
   | nil=>rfl
   | cons a as ih=>rw [H0,H0,hval,ih]
  have hwant:s7 K=s7 K':=by
   funext ds; unfold s7; congr 2; funext d; unfold b0v; rw [hyes]
  have his:isB K=isB K':=by funext n; unfold isB; rw [h1,h2]
  exact a1Y hwant his l
 rw [e { K0 d' with typ:=typ } { K0 d with typ:=typ } rfl rfl rfl rfl rfl]
/-- what a query of a plain document comes to -/
theorem qry {d:List Sel} {es:List Ent} {v:AV} {B:St} (hB:Gr a0I B) (he:EntsAt v es B) (hs:L3 es) (hl:es.length≤12) (hg:∀ e∈es,e.Good) (hd:SelX 2001 d) :
 EvQ tbl 17 [.ptr 52 0,.agg [v,.bool true,.list false []],.agg [.list false [b4k d],.list false []],.str [],.agg [.int .u8 0,.int .i64 0,.str [],.list false [],.list false []]] B (c54 (a1Q (E0 d es v) d) B) :=
 c1F (E:=E0 d es v) (fun B' h=>d0f (hB.trans h) (he.gr h) hs hl hg) (V:=[]) (nm:=[]) hd rfl (b6b false [] [] (d.map Sel.row) [] B) fun st _=>(c1N 52 st).mono fun a st' ⟨h1,h2⟩=>⟨h1,[],h2⟩
end Go.Cb.CodeA
