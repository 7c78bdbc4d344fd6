import Derived.Test.YtbibkdncfclnbaaGreatDoorRD
import Derived.Test.YtbibkdncfclnbaaGreatDoorYs1
set_option maxRecDepth 20000
set_option linter.unusedSimpArgs false
set_option linter.unusedVariables false
namespace Go.Cb.CodeA
open Go Go.Cb
/-! plain documents -/
def b8e (a:Arg):Bool:=match a.v with
 | .mk k n s [] []=>!eqI k 6 && decide (-9223372036854775808≤n∧n≤9223372036854775807)
 | _=>false
def a8T (as:List Arg):Bool:=decide (as.length≤3000) && as.all b8e
def b98 (ds:List Dir):Bool:=decide (ds.length≤3000) && ds.all fun d=>a8T d.as
mutual
def Sel.fl:Sel→Bool
 | .mk _ _ _ _ as ds sub=>a8T as && b98 ds && decide (sub.length≤3000) && Sel.fls sub
def Sel.fls:List Sel→Bool
 | []=>true
 | x::xs=>x.fl && Sel.fls xs
end
theorem b2r {a:Arg} (h:b8e a=true):a.v.OK∧a.v.Rng:=by
 obtain ⟨n,v⟩:=a
 obtain ⟨k,m,s,ks,ls⟩:=v
 unfold b8e at h
 cases ks with
 | cons _ _=>cases h
 | nil =>
  cases ls with
  | cons _ _=>cases h
  | nil =>
   simp only [Bool.and_eq_true,Bool.not_eq_true',decide_eq_true_eq] at h
   refine ⟨.mk _ _ _ _ _ (fun h6=>rfl) (by decide) (by decide) (by simp),.mk _ _ _ _ _ h.2 (by simp)⟩
theorem b1B {as:List Arg} (h:a8T as=true):ArgsOK as∧∀ a∈as,a.v.Rng:=by
 unfold a8T at h
 simp only [Bool.and_eq_true,decide_eq_true_eq,List.all_eq_true] at h
 exact ⟨⟨h.1,fun a ha=>(b2r (h.2 a ha)).1⟩,fun a ha=>(b2r (h.2 a ha)).2⟩
mutual
theorem c72:∀ x:Sel,x.fl=true→x.OK∧x.Rg
 | .mk k al nm on as ds sub,h=>by
  rw [Sel.fl] at h
  simp only [Bool.and_eq_true,decide_eq_true_eq] at h
  obtain ⟨⟨⟨h1,h2⟩,h3⟩,h4⟩:=h
  have h5:=a4P sub h4
  have h1:=b1B h1
  unfold b98 at h2
  simp only [Bool.and_eq_true,decide_eq_true_eq,List.all_eq_true] at h2
  exact ⟨.mk _ _ _ _ _ _ _ h1.1 ⟨h2.1,fun d hd=>(b1B (h2.2 d hd)).1⟩ h3 fun x hx=>(h5 x hx).1,.mk _ _ _ _ _ _ _ h1.2 fun x hx=>(h5 x hx).2⟩
theorem a4P:∀ l:List Sel,Sel.fls l=true→∀ x∈l,x.OK∧x.Rg
 | [],_=>by simp
 | y::l,h=>by
  rw [Sel.fls,Bool.and_eq_true] at h
  have h1:=c72 y h.1
  have h2:=a4P l h.2
  intro x hx
  rcases List.mem_cons.1 hx with rfl|hx
  · exact h1
  · exact h2 x hx
end
theorem R3 {d:List Sel} (h:(Sel.fls d && Nat.ble (sizes d) 2001)=true):SelX 2001 d:=by
 rw [Bool.and_eq_true] at h
 exact ⟨fun s hs=>(a4P d h.1 s hs).1,fun s hs=>(a4P d h.1 s hs).2,Nat.le_of_ble_eq_true h.2⟩
mutual
def Sel.runF (K:Cfg):Sel→List Sel
 | .mk k al nm on as ds sub=>if u9 K ds then (if eqI k 1 then [.mk k al nm on as ds sub] else if eqI k 2 then [] else if eqN on [] || isB K on then O3 K sub else []) else []
def O3 (K:Cfg):List Sel→List Sel
 | []=>[]
 | x::xs=>x.runF K++O3 K xs
end
theorem a6W (K:Cfg) (k:Int) (al nm on:List Nat) (as:List Arg) (ds:List Dir) (sub:List Sel):(Sel.mk k al nm on as ds sub).runF K=if u9 K ds then (if eqI k 1 then [.mk k al nm on as ds sub] else if eqI k 2 then [] else if eqN on [] || isB K on then O3 K sub else []) else []:=by rw [Sel.runF]
mutual
theorem c2b {K:Cfg} (hK:K.frags=[]):∀ (x:Sel) (s:List (List Nat)),FRun K [x] s (x.runF K) s
 | .mk k al nm on as ds sub,s=>by
  rw [a6W]
  rcases d8 (u9 K ds) with h|h
  · rw [if_pos h]
    rcases d8 (eqI k 1) with h1|h1
    · rw [if_pos h1]; exact .field h h1
    rw [h1,if_neg (by decide)]
    rcases d8 (eqI k 2) with h2|h2
    · rw [if_pos h2]; exact .none h h1 h2 (.inl (by rw [hK]; rfl))
    rw [h2,if_neg (by decide)]
    rcases d8 (eqN on [] || isB K on) with h3|h3
    · rw [if_pos h3]; exact .inl h h1 h2 h3 (a4u hK sub s)
    · rw [h3,if_neg (by decide)]; exact .inNo h h1 h2 h3
  · rw [h,if_neg (by decide)]; exact .skip h
theorem a4u {K:Cfg} (hK:K.frags=[]):∀ (l:List Sel) (s:List (List Nat)),FRun K l s (O3 K l) s
 | [],s=>.nil s
 | x::xs,s=>by rw [O3]; exact .cons (c2b hK x s) (a4u hK xs s)
end
mutual
theorem b5R {K K':Cfg} (hw:u9 K=u9 K') (hi:isB K=isB K'):∀ x:Sel,x.runF K=x.runF K'
 | .mk k al nm on as ds sub=>by rw [a6W,a6W,hw,hi,a6p hw hi sub]
theorem a6p {K K':Cfg} (hw:u9 K=u9 K') (hi:isB K=isB K'):∀ l:List Sel,O3 K l=O3 K' l
 | []=>by rw [O3,O3]
 | x::xs=>by rw [O3,O3,b5R hw hi x,a6p hw hi xs]
end
theorem b7p {K:Cfg} (hK:K.frags=[]) (l:List Sel):a1V K l=P1 (O3 K l):=a7h (a4u hK l [])
/-! surroundings of a plain document -/
def W7 (d:List Sel):List AV:=[.bool false,.str [],.list false [],.list false (d.map Sel.row)]
def K0 (d:List Sel):Cfg:=⟨52,[W7 d],[],[],6,0,[],[],[],a4F T0⟩
noncomputable def E0 (d:List Sel) (es:List Ent) (v:AV):REnv:=mkE T0 (K0 d) es v (.list false [])
theorem a9I {l:List TD} {so:Nat} {st:St} (h:Sch l so st) (n:List Nat):(a5f l n).length≤3001:=by
 have hd:=b32 h n
 unfold a5f
 revert hd
 cases hl:lk l n with
 | none=>intro _; simp
 | some t =>
  intro hd
  have hd:t.ns.length≤3001:=hd
  dsimp only
  split
  · simp
  split
  · exact hd
  split
  · simp
  · rw [List.length_map]; exact Nat.le_trans (List.length_filter_le _ _) h.len
theorem c3j (d:List Sel):(K0 d).Fit:=⟨⟨by simp [K0],fun _=>rfl,⟨by simp [K0],by simp [K0]⟩,fun n=>Nat.le_trans (a9I sch0.sch n) (by decide)⟩,by simp [K0,n6],by simp [K0]⟩
def fsQ:List FDef:=fsD T0 p7
theorem b7j:∀ f∈fsQ,f.ar.isEmpty=false→f.ar=[idF.row]:=by
 intro f hf
 unfold fsQ fsD at hf
 rw [show lkD T0 p7=some _ from rfl] at hf
 simp only [List.mem_cons,List.not_mem_nil,or_false] at hf
 rcases hf with rfl|rfl|rfl|rfl|rfl <;> intro h <;> first|rfl|cases h
theorem b5H (n:List Nat) (f:FDef) (h:a4t T0 p7 n=some f):f.ar.isEmpty=false→f.ar=[idF.row]:=by
 unfold a4t at h
 cases hl:lkD T0 p7 with
 | none=>rw [hl] at h; cases h
 | some t =>
  rw [hl] at h
  dsimp only at h
  rcases d8 (eqN n C7 && (if a4N T0 p7 then true else a1R p7)) with h1|h1
  · rw [if_pos h1] at h; cases h; intro h; cases h
  rw [h1,if_neg (by decide)] at h
  rcases d8 (eqI t.k 5) with h2|h2
  · rw [if_pos h2] at h; cases h
  rw [h2,if_neg (by decide)] at h
  cases hp:pI (fun x=>eqN n x) (t.fs.map FDef.n) with
  | none=>rw [hp] at h; cases h
  | some i =>
   rw [hp] at h
   have h:t.fs[i]?=some f:=h
   have e:fsQ=t.fs:=by unfold fsQ fsD; rw [hl]
   exact b7j f (by rw [e]; exact List.mem_of_getElem? h)
theorem d0e {d:List Sel} {es:List Ent} {v:AV} {B:St} (hB:Gr a6F B) (he:EntsAt v es B) (hs:D0 es) (hl:es.length≤12) (hg:∀ e∈es,a0n e):(E0 d es v).OK B :=
 c4q (K:=K0 d) (sch0.gr hB) (c3j d) rfl (fun n=>Nat.le_trans (a9I sch0.sch n) (by decide)) b5H (by kernel_rfl) he hs (by omega) hg ⟨rfl,rfl,rfl⟩
/-- what a query of a plain document comes to -/
theorem a2c {d:List Sel} {es:List Ent} {v:AV} {B:St} (hB:Gr a6F B) (he:EntsAt v es B) (hs:D0 es) (hl:es.length≤12) (hg:∀ e∈es,a0n e) (hd:SelX 2001 d) :
 EvQ tbl 17 [.ptr 52 0,.agg [v,.bool true,.list false []],.agg [.list false [W7 d],.list false []],.str [],.agg [.int .u8 0,.int .i64 0,.str [],.list false [],.list false []]] B (c3d (a6T (E0 d es v) d) B) :=
 c1s (E:=E0 d es v) (fun B' h=>d0e (hB.trans h) (he.gr h) hs hl hg) (V:=[]) (nm:=[]) hd rfl (b50 false [] [] (d.map Sel.row) [] B) fun st _=>(c1q 52 st).mono fun a st' ⟨h1,h2⟩=>⟨h1,[],h2⟩
end Go.Cb.CodeA
