/-
 A state's claims, made small: beyond a bound nothing is claimed but cells.
-/
import Derived.Test.YthbikoodicigeaaGreatDoorXAms2
import Derived.RangeFuncBox
set_option maxRecDepth 4000
set_option linter.unusedVariables false
set_option linter.unusedSimpArgs false
set_option linter.unusedSectionVars false
namespace Go.Cb
/-- is there a block of cells -/
def cellsAt (w:World) (b:Nat):Prop:=∃ arr T z,w.heap[b]?=some (.cells arr T z)
open Classical in
noncomputable def Gh.norm (g:Gh) (B:Nat) (w:World):Gh:={ g with cl:=fun b f=>g.cl b f∧(b < B∨cellsAt w b),sr:=fun b=>if b < B∨cellsAt w b then g.sr b else none }
theorem cellsAt_of_cell {w:World} {b f:Nat} {v:Value} (h:w.cell? (ad b f)=some v):cellsAt w b:=by
 unfold World.cell? at h
 cases hb:w.heap[b]? with
 | none=>simp [hb] at h
 | some o =>
  cases o with
  | cells arr T z=>exact ⟨arr,T,z,hb⟩
  | _=>simp [hb] at h
section
variable {g:Gh} {w:World} {B:Nat}
mutual
theorem Rel.norm:∀ (a:AV) (v:Value),Rel g w a v→Rel (g.norm B w) w a v
 | .undef,_,_=>by simp [Rel]
 | .bool _,_,r=>by simpa [Rel] using r
 | .int _ _,_,r=>by simpa [Rel] using r
 | .str _,_,r=>by simpa [Rel] using r
 | .list _ xs,_,r=>by
  simp only [Rel] at r ⊢
  obtain ⟨a,n,cap,h1,h2,h3,h4,h5⟩:=r
  exact ⟨a,n,cap,h1,h2,h3,h4,fun hx=>let ⟨b,f,sz,e,rr⟩:=h5 hx; ⟨b,f,sz,e,RelRows.norm b f sz xs rr⟩⟩
 | .ptr _ _,_,r=>by simpa [Rel,Gh.norm] using r
 | .nilp,_,r=>by simpa [Rel] using r
 | .ro cs,_,r=>by
  simp only [Rel] at r ⊢
  obtain ⟨b,f,e,rr⟩:=r
  exact ⟨b,f,e,RelCells.norm b f cs rr⟩
 | .loc _ _,_,r=>by simp [Rel] at r
 | .box _,_,r=>by simp [Rel] at r
 | .map _,_,r=>by simpa [Rel,Gh.norm] using r
 | .nilm,_,r=>by simpa [Rel] using r
 | .func _ x y,_,r=>by
  simp only [Rel] at r ⊢
  obtain ⟨a,b,e,r1,r2⟩:=r
  exact ⟨a,b,e,RelL.norm x _ r1,RelL.norm y _ r2⟩
 | .nilf,_,r=>by simpa [Rel] using r
 | .agg cs,_,r=>by
  simp only [Rel] at r ⊢
  obtain ⟨a,e,r1,r2⟩:=r
  exact ⟨a,e,RelL.norm cs _ r1,r2⟩
 | .tuple vs,_,r=>by
  simp only [Rel] at r ⊢
  obtain ⟨a,e,r1⟩:=r
  exact ⟨a,e,RelL.norm vs _ r1⟩
 | .iface _ x,_,r=>by
  simp only [Rel] at r ⊢
  obtain ⟨y,e,r1⟩:=r
  exact ⟨y,e,Rel.norm x _ r1⟩
 | .nili,_,r=>by simpa [Rel] using r
 | .nils,_,r=>by simpa [Rel] using r
 | .sl _ _ _ _,_,r=>by simpa [Rel,Gh.norm] using r
 | .fresh xs,_,r=>by
  simp only [Rel] at r ⊢
  obtain ⟨b,n,cap,sz,e,hn,hc,hr,hN⟩:=r
  exact ⟨b,n,cap,sz,e,hn,hc,RelRows.norm b 0 sz xs hr,fun k ys hk=>let ⟨h1,a,m,h2⟩:=hN k ys hk; ⟨⟨h1,.inr (cellsAt_of_cell h2)⟩,a,m,h2⟩⟩
theorem RelL.norm:∀ (as:List AV) (vs:List Value),RelL g w as vs→RelL (g.norm B w) w as vs
 | [],_,r=>by simpa [RelL] using r
 | a::as,_,r=>by
  simp only [RelL] at r ⊢
  obtain ⟨v,l,e,r1,r2⟩:=r
  exact ⟨v,l,e,Rel.norm a v r1,RelL.norm as l r2⟩
theorem RelCells.norm:∀ (b f:Nat) (cs:List AV),RelCells g w b f cs→RelCells (g.norm B w) w b f cs
 | _,_,[],_=>by simp [RelCells]
 | b,f,c::cs,r=>by
  simp only [RelCells] at r ⊢
  obtain ⟨⟨v,e,o,cl,r1⟩,r2⟩:=r
  exact ⟨⟨v,e,o,⟨cl,.inr (cellsAt_of_cell e)⟩,Rel.norm c v r1⟩,RelCells.norm b (f+1) cs r2⟩
theorem RelRows.norm:∀ (b f sz:Nat) (xs:List (List AV)),RelRows g w b f sz xs→RelRows (g.norm B w) w b f sz xs
 | _,_,_,[],_=>by simp [RelRows]
 | b,f,sz,x::xs,r=>by
  simp only [RelRows] at r ⊢
  obtain ⟨e,r1,r2⟩:=r
  exact ⟨e,RelCells.norm b f x r1,RelRows.norm b (f+sz) sz xs r2⟩
end
theorem RelM.norm {es:List (AV×AV)} {l:List MapEntry} (h:RelM g w es l):RelM (g.norm B w) w es l:=by
 induction h with
 | nil=>exact .nil
 | cons hk hv hn _ ih=>exact .cons (hk.norm _ _) (hv.norm _ _) hn ih
theorem norm_sr {b:Nat} {p:Nat×Option Nat} (h:g.sr b=some p) (hb:b < B∨cellsAt w b):(g.norm B w).sr b=some p:=by
 simp only [Gh.norm,if_pos hb]; exact h
theorem norm_sr_some {b:Nat} {p:Nat×Option Nat} (h:(g.norm B w).sr b=some p):g.sr b=some p:=by
 simp only [Gh.norm] at h
 split at h
 · exact h
 · cases h
theorem norm_sr_none {b:Nat} (h:g.sr b=none):(g.norm B w).sr b=none:=by
 simp only [Gh.norm]
 split
 · exact h
 · rfl
theorem OwnC.norm {c:AV} {v:Value} {o k:Nat} (h:OwnC g w (fun b=>g.sr b=some (o,some k)) c v):OwnC (g.norm B w) w (fun b=>(g.norm B w).sr b=some (o,some k)) c v:=fun xs e=>by
 rcases h xs e with ⟨a,n,h⟩|⟨b,n,cap,sz,arr,T,f0,h1,h2,h3,h4,h5,h6,h7,h8⟩
 · exact .inl ⟨a,n,h⟩
 · exact .inr ⟨b,n,cap,sz,arr,T,f0,h1,norm_sr h2 (.inr ⟨arr,T,_,h5⟩),h3,h4,h5,h6,h7,fun f hf hc=>h8 f hf hc.1⟩
/-- the claims made small: the store is still so, if its maps lie below the bound -/
theorem SRel.norm {st:St} (h:SRel g w st) (hm:∀ o es,st[o]?=some (.map es)→g.m o < B):SRel (g.norm B w) w st:=by
 refine ⟨h.n,fun o ob ho=>?_,fun b p hb=>h.inn b p (norm_sr_some hb),fun b f hc=>h.cli b f hc.1⟩
 have:=h.obj o ob ho
 cases ob with
 | cells cs =>
  obtain ⟨h1,h2,arr,T,h3,h4,h5,h6,h7⟩:=this
  exact ⟨norm_sr h1 (.inr ⟨arr,T,_,h3⟩),fun f hf=>h2 f hf.1,arr,T,h3,h4,h5.norm,h6,fun k c v hk hv=>(h7 k c v hk hv).norm⟩
 | map es =>
  obtain ⟨h1,h2,ents,clock,h3,h4⟩:=this
  exact ⟨norm_sr h1 (.inl (hm o es ho)),fun f hf=>h2 f hf.1,ents,clock,h3,h4.norm⟩
 | dead=>trivial
theorem Tr.norm {A:Nat→Prop} {g0:Gh} {w0:World} (h:Tr A g0 w0 g w) (hB:∀ b f,g0.cl b f→b < B):Tr A g0 w0 (g.norm B w) w :=
 ⟨⟨h.ext.n,h.ext.m,h.ext.cp,fun b f hc=>⟨h.ext.cl b f hc,.inl (hB b f hc)⟩,h.ext.cell⟩,h.size,h.env,fun b hb hs ha=>by
  obtain ⟨⟨e1,c1⟩,s1⟩:=h.keep b hb hs ha
  exact ⟨⟨e1,fun f hf=>c1 f hf.1⟩,norm_sr_none s1⟩⟩
theorem norm_other {r:Nat} (hr:B≤r) (hc:¬ cellsAt w r):(g.norm B w).sr r=none∧∀ f,¬ (g.norm B w).cl r f:=by
 refine ⟨?_,fun f hf=>?_⟩
 · simp only [Gh.norm]
   rw [if_neg (by rintro (h|h); · omega
                  · exact hc h)]
 · rcases hf.2 with h|h
   · omega
   · exact hc h
end
/-- from one world to another that has what is claimed -/
theorem SRel.other {g:Gh} {w w':World} {st:St} (h:SRel g w st) (hs:w.heap.size≤w'.heap.size) (hk:∀ b,b < w.heap.size→(g.sr b≠none∨∃ f,g.cl b f)→w'.heap[b]?=w.heap[b]?):SRel g w' st:=by
 have hcell:∀ b f,g.cl b f→w'.cell? (ad b f)=w.cell? (ad b f):=fun b f hc=>by
  have:=hk b (h.cli b f hc) (.inr ⟨f,hc⟩)
  unfold World.cell?
  rw [this]
 have hE:Ext g w g w':=⟨Nat.le_refl _,fun _ _=>rfl,fun _ _=>rfl,fun _ _ c=>c,hcell⟩
 refine ⟨h.n,fun o ob ho=>?_,fun b p hb=>Nat.lt_of_lt_of_le (h.inn b p hb) hs,fun b f hc=>Nat.lt_of_lt_of_le (h.cli b f hc) hs⟩
 have hsr:∀ b p,g.sr b=some p→w'.heap[b]?=w.heap[b]?:=fun b p hb=>hk b (h.inn b p hb) (.inl (by rw [hb]; simp))
 have:=h.obj o ob ho
 cases ob with
 | cells cs =>
  obtain ⟨h1,h2,arr,T,h3,h4,h5,h6,h7⟩:=this
  refine ⟨h1,h2,arr,T,(hsr _ _ h1).trans h3,h4,RelL.ext hE _ _ h5,h6,fun k c v hk hv xs e=>?_⟩
  rcases h7 k c v hk hv xs e with ⟨a,n,h⟩|⟨b,n,cap,sz,arr,T,f0,h1,h2,h3,h4,h5,h6,h7,h8⟩
  · exact .inl ⟨a,n,h⟩
  · exact .inr ⟨b,n,cap,sz,arr,T,f0,h1,h2,h3,h4,(hsr _ _ h2).trans h5,h6,h7,h8⟩
 | map es =>
  obtain ⟨h1,h2,ents,clock,h3,h4⟩:=this
  refine ⟨h1,h2,ents,clock,(hsr _ _ h1).trans h3,?_⟩
  clear h3 ho
  generalize ents.toList=l at h4
  induction h4 with
  | nil=>exact .nil
  | cons hk hv hn _ ih=>exact .cons (Rel.ext hE _ _ hk) (Rel.ext hE _ _ hv) hn ih
 | dead=>trivial
theorem Tr.other {A:Nat→Prop} {g g1:Gh} {w w1 w':World} {st:St} (h:Tr A g w g1 w1) (hS:SRel g1 w1 st) (he:Env w1 w') (hs:w1.heap.size≤w'.heap.size) (hk:∀ b,b < w1.heap.size→(b < w.heap.size∨∃ f,g1.cl b f)→w'.heap[b]?=w1.heap[b]?):Tr A g w g1 w':=by
 refine ⟨⟨h.ext.n,h.ext.m,h.ext.cp,h.ext.cl,fun b f hc=>?_⟩,Nat.le_trans h.size hs,h.env.trans he h.size,fun b hb hs' ha=>?_⟩
 · have:=hk b (hS.cli _ _ (h.ext.cl b f hc)) (.inr ⟨f,h.ext.cl b f hc⟩)
   refine Eq.trans ?_ (h.ext.cell b f hc)
   unfold World.cell?
   rw [this]
 · obtain ⟨⟨e1,c1⟩,s1⟩:=h.keep b hb hs' ha
   exact ⟨⟨(hk b (Nat.lt_of_lt_of_le hb h.size) (.inl hb)).trans e1,c1⟩,s1⟩
end Go.Cb
