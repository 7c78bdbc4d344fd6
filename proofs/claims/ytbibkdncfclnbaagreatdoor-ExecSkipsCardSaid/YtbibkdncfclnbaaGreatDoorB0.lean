import Derived.Test.YtbibkdncfclnbaaGreatDoorRD
import Derived.Test.YtbibkdncfclnbaaGreatDoorYs1
set_option maxRecDepth 20000
set_option linter.unusedSimpArgs false
set_option linter.unusedVariables false
namespace Go.Cb.CodeA
open Go Go.Cb
/-! plain documents -/
def b9m (a:Arg):Bool:=match a.v with
 | .mk k n s [] []=>!eqI k 6 && decide (-9223372036854775808≤n∧n≤9223372036854775807)
 | _=>false
def a9z (as:List Arg):Bool:=decide (as.length≤3000) && as.all b9m
def c0x (ds:List Dir):Bool:=decide (ds.length≤3000) && ds.all fun d=>a9z d.as
mutual
def Sel.fl:Sel→Bool
 | .mk _ _ _ _ as ds sub=>a9z as && c0x ds && decide (sub.length≤3000) && Sel.fls sub
def Sel.fls:List Sel→Bool
 | []=>true
 | x::xs=>x.fl && Sel.fls xs
end
theorem b2r {a:Arg} (h:b9m a=true):a.v.OK∧a.v.Rng:=by
 obtain ⟨n,v⟩:=a
 obtain ⟨k,m,s,ks,ls⟩:=v
 unfold b9m at h
 cases ks with
 | cons _ _=>cases h
 | nil =>
  cases ls with
  | cons _ _=>cases h
  | nil =>
   simp only [Bool.and_eq_true,Bool.not_eq_true',decide_eq_true_eq] at h
   refine ⟨.mk _ _ _ _ _ (fun h6=>rfl) (by decide) (by decide) (by simp),.mk _ _ _ _ _ h.2 (by simp)⟩
theorem b1S {as:List Arg} (h:a9z as=true):ArgsOK as∧∀ a∈as,a.v.Rng:=by
 unfold a9z at h
 simp only [Bool.and_eq_true,decide_eq_true_eq,List.all_eq_true] at h
 exact ⟨⟨h.1,fun a ha=>(b2r (h.2 a ha)).1⟩,fun a ha=>(b2r (h.2 a ha)).2⟩
mutual
theorem d1I:∀ x:Sel,x.fl=true→x.OK∧x.Rg
 | .mk k al nm on as ds sub,h=>by
  rw [Sel.fl] at h
  simp only [Bool.and_eq_true,decide_eq_true_eq] at h
  obtain ⟨⟨⟨h1,h2⟩,h3⟩,h4⟩:=h
  have h5:=a5n sub h4
  have h1:=b1S h1
  unfold c0x at h2
  simp only [Bool.and_eq_true,decide_eq_true_eq,List.all_eq_true] at h2
  exact ⟨.mk _ _ _ _ _ _ _ h1.1 ⟨h2.1,fun d hd=>(b1S (h2.2 d hd)).1⟩ h3 fun x hx=>(h5 x hx).1,.mk _ _ _ _ _ _ _ h1.2 fun x hx=>(h5 x hx).2⟩
theorem a5n:∀ l:List Sel,Sel.fls l=true→∀ x∈l,x.OK∧x.Rg
 | [],_=>by simp
 | y::l,h=>by
  rw [Sel.fls,Bool.and_eq_true] at h
  have h1:=d1I y h.1
  have h2:=a5n l h.2
  intro x hx
  rcases List.mem_cons.1 hx with rfl|hx
  · exact h1
  · exact h2 x hx
end
theorem n8 {d:List Sel} (h:(Sel.fls d && Nat.ble (sizes d) 2001)=true):SelX 2001 d:=by
 rw [Bool.and_eq_true] at h
 exact ⟨fun s hs=>(a5n d h.1 s hs).1,fun s hs=>(a5n d h.1 s hs).2,Nat.le_of_ble_eq_true h.2⟩
mutual
def Sel.runF (K:Cfg):Sel→List Sel
 | .mk k al nm on as ds sub=>if t7 K ds then (if eqI k 1 then [.mk k al nm on as ds sub] else if eqI k 2 then [] else if eqN on [] || isB K on then I5 K sub else []) else []
def I5 (K:Cfg):List Sel→List Sel
 | []=>[]
 | x::xs=>x.runF K++I5 K xs
end
theorem a7d (K:Cfg) (k:Int) (al nm on:List Nat) (as:List Arg) (ds:List Dir) (sub:List Sel):(Sel.mk k al nm on as ds sub).runF K=if t7 K ds then (if eqI k 1 then [.mk k al nm on as ds sub] else if eqI k 2 then [] else if eqN on [] || isB K on then I5 K sub else []) else []:=by rw [Sel.runF]
mutual
theorem c3h {K:Cfg} (hK:K.frags=[]):∀ (x:Sel) (s:List (List Nat)),FRun K [x] s (x.runF K) s
 | .mk k al nm on as ds sub,s=>by
  rw [a7d]
  rcases e7 (t7 K ds) with h|h
  · rw [if_pos h]
    rcases e7 (eqI k 1) with h1|h1
    · rw [if_pos h1]; exact .field h h1
    rw [h1,if_neg (by decide)]
    rcases e7 (eqI k 2) with h2|h2
    · rw [if_pos h2]; exact .none h h1 h2 (.inl (by rw [hK]; rfl))
    rw [h2,if_neg (by decide)]
    rcases e7 (eqN on [] || isB K on) with h3|h3
    · rw [if_pos h3]; exact .inl h h1 h2 h3 (a2g hK sub s)
    · rw [h3,if_neg (by decide)]; exact .inNo h h1 h2 h3
  · rw [h,if_neg (by decide)]; exact .skip h
theorem a2g {K:Cfg} (hK:K.frags=[]):∀ (l:List Sel) (s:List (List Nat)),FRun K l s (I5 K l) s
 | [],s=>.nil s
 | x::xs,s=>by rw [I5]; exact .cons (c3h hK x s) (a2g hK xs s)
end
mutual
theorem b5A {K K':Cfg} (hw:t7 K=t7 K') (hi:isB K=isB K'):∀ x:Sel,x.runF K=x.runF K'
 | .mk k al nm on as ds sub=>by rw [a7d,a7d,hw,hi,a1T hw hi sub]
theorem a1T {K K':Cfg} (hw:t7 K=t7 K') (hi:isB K=isB K'):∀ l:List Sel,I5 K l=I5 K' l
 | []=>by rw [I5,I5]
 | x::xs=>by rw [I5,I5,b5A hw hi x,a1T hw hi xs]
end
theorem a2k {K:Cfg} (hK:K.frags=[]) (l:List Sel):Z9 K l=J0 (I5 K l):=a7D (a2g hK l [])
theorem b5n {K:Cfg} (hK:K.frags=[]) (l:List Sel):N2 (Z9 K l)≤r6 l:=by
 have h:=(a2g hK l []).cost hK
 rw [a2k hK]
 exact Nat.le_trans (b6y _ h.1) h.2
/-! surroundings of a plain document -/
def b30 (d:List Sel):List AV:=[.bool false,.str [],.list false [],.list false (d.map Sel.row)]
def K0 (d:List Sel):Cfg:=⟨52,[b30 d],[],[],6,0,[],[],[],a5y T0⟩
noncomputable def E0 (d:List Sel) (es:List Ent) (v:AV):REnv:=mkE T0 (K0 d) es v (.list false [])
theorem b0l {l:List TD} {so:Nat} {st:St} (h:Sch l so st) (n:List Nat):(a5O l n).length≤3001:=by
 have hd:=b4m h n
 unfold a5O
 revert hd
 cases hl:lk l n with
 | none=>intro _; simp
 | some t =>
  intro hd
  have hd:t.ns.length≤3001:=hd
  dsimp only
  split
  · simp
  split
  · exact hd
  split
  · simp
  · rw [List.length_map]; exact Nat.le_trans (List.length_filter_le _ _) h.len
theorem c4N (d:List Sel):(K0 d).Fit:=⟨⟨by simp [K0],fun _=>rfl,⟨by simp [K0],by simp [K0]⟩,fun n=>Nat.le_trans (b0l sch0.sch n) (by decide)⟩,by simp [K0,o9],by simp [K0]⟩
def fsQ:List FDef:=fsD T0 n4
theorem b8i:∀ f∈fsQ,f.ar.isEmpty=false→f.ar=[idF.row]:=by
 intro f hf
 unfold fsQ fsD at hf
 rw [show lkD T0 n4=some _ from rfl] at hf
 simp only [List.mem_cons,List.not_mem_nil,or_false] at hf
 rcases hf with rfl|rfl|rfl|rfl|rfl <;> intro h <;> first|rfl|cases h
theorem b6a (n:List Nat) (f:FDef) (h:a4v T0 n4 n=some f):f.ar.isEmpty=false→f.ar=[idF.row]:=by
 unfold a4v at h
 cases hl:lkD T0 n4 with
 | none=>rw [hl] at h; cases h
 | some t =>
  rw [hl] at h
  dsimp only at h
  rcases e7 (eqN n K6 && (if a6z T0 n4 then true else a2i n4)) with h1|h1
  · rw [if_pos h1] at h; cases h; intro h; cases h
  rw [h1,if_neg (by decide)] at h
  rcases e7 (eqI t.k 5) with h2|h2
  · rw [if_pos h2] at h; cases h
  rw [h2,if_neg (by decide)] at h
  cases hp:pI (fun x=>eqN n x) (t.fs.map FDef.n) with
  | none=>rw [hp] at h; cases h
  | some i =>
   rw [hp] at h
   have h:t.fs[i]?=some f:=h
   have e:fsQ=t.fs:=by unfold fsQ fsD; rw [hl]
   exact b8i f (by rw [e]; exact List.mem_of_getElem? h)
theorem d12 {d:List Sel} {es:List Ent} {v:AV} {B:St} (hB:Gr N1 B) (he:EntsAt v es B) (hs:M1 es) (hl:es.length≤12) (hg:∀ e∈es,e.Good):(E0 d es v).OK B :=
 c3R (K:=K0 d) (sch0.gr hB) (c4N d) rfl (fun n=>Nat.le_trans (b0l sch0.sch n) (by decide)) b6a (by kernel_rfl) he hs (by omega) hg ⟨rfl,rfl,rfl⟩
theorem b5g {v:Val} (h:Small v):Few v:=by
 obtain ⟨k,n,s,ls,rfl,_,hl,hu⟩:=h
 refine ⟨Nat.le_trans hl (by decide),fun u h=>?_⟩
 obtain ⟨k,n,s,rfl,_⟩:=hu u h
 rfl
theorem b5X (d:List Sel) {es:List Ent} (v:AV) (hl:es.length≤12) (hg:∀ e∈es,e.Good):(E0 d es v).Little :=
 ⟨hl,fun e he v hv=>b5g ((hg e he).sm v hv),fun typ l=>b5n (K:={ K0 d with typ:=typ }) rfl l⟩
theorem b2A (d:List Sel) {es:List Ent} (v:AV) (hl:es.length≤12) (hg:∀ e∈es,e.Good):(E0 d es v).Fine :=
 ⟨by show es.length≤_; omega,fun e he v hv=>((hg e he).sm v hv).fin⟩
theorem c4s (d d':List Sel) (es:List Ent) (v:AV):(E0 d es v).Sim (E0 d' es v):=by
 refine ⟨rfl,rfl,?_,rfl,rfl,rfl,rfl,rfl⟩
 funext typ l
 show Z9 { K0 d' with typ:=typ } l=Z9 { K0 d with typ:=typ } l
 rw [a2k rfl,a2k rfl]
 have e:∀ K K':Cfg,K.typ=K'.typ→K.poss=K'.poss→K.vk=K'.vk→K.vks=K'.vks→K.vls=K'.vls→(∀ l,I5 K l=I5 K' l):=by
  intro K K' h1 h2 h3 h4 h5 l
  have hget:K.get=K'.get:=by funext n; unfold Cfg.get; rw [h3,h4,h5]
  have hval:K.val=K'.val:=by funext n; unfold Cfg.val; rw [hget]
  have hyes:∀ as,H7 K as=H7 K' as:=by
   intro as
   induction as with
   | nil=>rfl
   | cons a as ih=>rw [H7,H7,hval,ih]
  have hwant:t7 K=t7 K':=by
   funext ds; unfold t7; congr 2; funext d; unfold b0L; rw [hyes]
  have his:isB K=isB K':=by funext n; unfold isB; rw [h1,h2]
  exact a1T hwant his l
 rw [e { K0 d' with typ:=typ } { K0 d with typ:=typ } rfl rfl rfl rfl rfl]
/-- what a query of a plain document comes to -/
theorem qry {d:List Sel} {es:List Ent} {v:AV} {B:St} (hB:Gr N1 B) (he:EntsAt v es B) (hs:M1 es) (hl:es.length≤12) (hg:∀ e∈es,e.Good) (hd:SelX 2001 d) :
 EvQ tbl 17 [.ptr 52 0,.agg [v,.bool true,.list false []],.agg [.list false [b30 d],.list false []],.str [],.agg [.int .u8 0,.int .i64 0,.str [],.list false [],.list false []]] B (c6j (a4x (E0 d es v) d) B) :=
 c3y (E:=E0 d es v) (fun B' h=>d12 (hB.trans h) (he.gr h) hs hl hg) (V:=[]) (nm:=[]) hd rfl (b5u false [] [] (d.map Sel.row) [] B) fun st _=>(c2t 52 st).mono fun a st' ⟨h1,h2⟩=>⟨h1,[],h2⟩
end Go.Cb.CodeA
