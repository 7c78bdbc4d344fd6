/- What functions of the abstract machine answer. No conditions but those that each theorem names. -/
import Derived.Test.YtcmfklfjebaeoaaGreatDoorInsX
import Derived.Test.YtcmfklfjebaeoaaGreatDoorCloneL
set_option maxRecDepth 100000
set_option linter.unusedVariables false
set_option linter.unusedSimpArgs false
namespace Go.Cb.CodeA
open Go Go.Cb Go.Proofs Go.RowKit Go.Shelf
theorem c4K:(Tryz.prog.info? 9).map (fun i=>(i.zero,i.size,i.bytes))=some (some (.string ByteArray.empty),1,16):=by kernel_rfl
def X2 (w:World) (e:Ending) (w':World) (n bb:Nat) (vs:List Value):Prop :=
 ∃ cap arr T,e=.returned (.slice (some (ad bb 0)) n cap)∧w'.heap[bb]?=some (.cells arr T (0,0))∧arr.size=cap*1∧n≤cap∧arr.toList.take (n*1)=vs∧(∀ b,b≠bb→b < w.heap.size→w'.heap[b]?=w.heap[b]?)∧w.heap.size≤w'.heap.size∧bb < w'.heap.size∧Env w w'
theorem b5d {w:World} {C:Array Value} {n cap:Nat} {vs:List Value} (h1:C.toList.take (n*1)=vs) (h2:C.size=cap*1) (h3:n≤cap):X2 w (.returned (.slice (some (ad w.heap.size 0)) n cap)) (w.drew.alloc (.cells C 9)) n w.heap.size vs :=
 ⟨cap,C,9,rfl,heap_alloc_new w.drew _,h2,h3,h1,fun b _ hb=>heap_alloc_old w.drew _ hb,by simp,by simp,(Env.drawn (w:=w) (w':=w.drew) rfl rfl rfl).trans (Env.alloc w.drew _ (by intro c t z e; cases e; rfl))⟩
theorem b3y {g:Gh} {w:World} {st:St} (hst:SRel g w st) {od:Option Nat} {bb n:Nat} {vs:List Value} {cs:List AV} {e:Ending} {w':World} (h:X2 w e w' n bb vs) (hrel:RelL g w cs vs) (hone:∀ v∈vs,v.oneCell'=true)
 (hwk:∀ c∈cs,c.weak1=c) (hcl:cs.length=n*1) (hnc:∀ f,¬ g.cl bb f) (hbr:bb=w.heap.size∨∃ o,od=some o∧g.sr bb=some (o,none)):CallPost g w (a0f od st++[.cells cs]) (.sl st.length 0 n 1) e w':=by
 obtain ⟨cap,arr,T,rfl,hh,hs,hle,htk,hold,hsz,hbb,henv⟩:=h
 let A:Nat→Prop:=fun b=>w.heap.size≤b∨g.sr b≠none
 have hS:S (CxA A) g w (fun _=>none) (fun _=>0) ⟨[],fun _=>.undef,st⟩ { tmps:=#[],defers:=[] }:=by
  refine ⟨⟨rfl,rfl,fun i s hs=>(by simp [CxA] at hs),fun s _=>ValOK.undef,fun b p hb=>(by cases hb),fun i cs hi=>(by simp at hi)⟩,hst,fun e he=>(by simp [CxA] at he),fun b hb=>.inl hb,fun b p hb=>.inr (by rw [hb]; simp)⟩
 have hlast:∀ (x:Nat) (ob:Cb.Obj),¬ x < st.length→(a0f od st++[Cb.Obj.cells cs])[x]?=some ob→x=g.n∧ob=.cells cs:=by
  intro x ob hge hx
  rw [List.getElem?_append_right (by rw [P6]; omega),P6] at hx
  have hx0:x - st.length=0:=by
   rcases Nat.eq_zero_or_pos (x - st.length) with h0|h0
   · exact h0
   · rw [List.getElem?_eq_none (by simp; omega)] at hx; cases hx
  rw [hx0] at hx
  simp at hx
  have:=hst.n
  exact ⟨by omega,hx.symm⟩
 obtain ⟨hS2,htr⟩:=b2p hS (od:=od) (bb:=bb) (cpv:=arr.size) (cs:=cs) (st2:=a0f od st++[.cells cs]) henv hsz hbb hold hnc hbr (by rw [List.length_append,P6,hst.n]; rfl)
  (fun x ob hx=>by
   by_cases hlt:x < st.length
   · rw [List.getElem?_append_left (by rw [P6]; exact hlt)] at hx
     cases od with
     | none=>exact .inr (.inr ⟨hx,by simp⟩)
     | some oo =>
      by_cases ex:oo=x
      · subst ex
        rw [show a0f (some oo) st=st.set oo .dead from rfl,List.getElem?_set_self hlt] at hx
        exact .inr (.inl (Option.some.inj hx).symm)
      · rw [show a0f (some oo) st=st.set oo .dead from rfl,List.getElem?_set_ne ex] at hx
        exact .inr (.inr ⟨hx,by simpa using ex⟩)
   · exact .inl (hlast x ob hlt hx))
  (fun he=>by
   refine ⟨by simp [Gh.grow],fun f hf=>?_,arr,T,by simp only [Gh.grow,if_true]; exact hh,by simp [Gh.grow],?_,?_,fun k x v hk hv xs ex=>?_⟩
   · simp only [Gh.grow,if_true] at hf
     exact hnc f hf
   · rw [hcl,htk]; exact hrel.ext he _ _
   · rw [hcl,htk]; exact hone
   · subst ex
     have:=hwk _ (List.mem_of_getElem? hk)
     simp [AV.weak1] at this)
 refine ⟨_,_,rfl,hS2.st,⟨htr.ext,htr.size,htr.env,fun b hb hs _=>htr.keep b hb hs fun hA=>?_⟩,?_⟩
 · rcases hA with hA|hA
   · omega
   · exact hA hs
 · refine ValOK.mk' ?_ (by simp) (by simp)
   simp only [Rel]
   rw [← hst.n]
   exact ⟨by simp [Gh.grow],cap,by simp [Gh.grow],hle,by simp [Gh.grow,hs]⟩
def b2G (w:World) (e:Ending) (w':World) (n:Nat) (vs:List Value):Prop:=if n=0 then X2 w e w' 0 w.heap.size [] else X2 (w.alloc (.cells #[] 9)) e w' n (w.heap.size+1) vs
theorem a7S (a:Option Addr) (n c:Nat) (w:World):Sem.run Tryz.prog (binOp BinOp.eql 35 (Value.slice a n c) (Value.slice none 0 0)) w=.ok (.bool a.isNone) w:=by
 have heq:(Op.equal 35 (.slice a n c) (.slice none 0 0)).run Tryz.prog w=.ok a.isNone w:=by
  rw [K0,Op.equalIn,Sem.run_bind,run_underlying Tryz.underlying35,Result.andThen_ok]
  cases a <;> rfl
 simp only [binOp,Sem.run_bind,heq,Result.andThen_ok,Sem.run_pure]
set_option maxHeartbeats 4000000 in
theorem b6V (w:World):Calls Tryz.prog 36 #[.slice none 0 0] w fun e w'=>e=.returned (.slice none 0 0)∧w'=w:=by
 have t0:=Tryz.underlying0
 have t35:=Tryz.underlying35
 have hbin:=a7S none 0 0 w
 go_enter Tryz.func36,Tryz.ntmps36
 go_wp2
 go_ret
 exact ⟨rfl,rfl⟩
set_option maxHeartbeats 4000000 in
theorem b3x (b f n cap:Nat) (vs:List Value) (w:World) (hle:n≤cap) (hn:n*16≤140737488355328) (hvl:vs.length=n*1) (hvs:∀ j v,vs[j]?=some v→w.cell? (ad b (f+j))=some v) (hb:b < w.heap.size) :
 Calls Tryz.prog 36 #[.slice (some ⟨b,f,none⟩) n cap] w fun e w'=>b2G w e w' n vs:=by
 have t0:=Tryz.underlying0
 have t35:=Tryz.underlying35
 obtain ⟨i0,hi0,hz0,hzs,hzb⟩:=info_parts c4K
 have hrun:∃ v' w',(Builtin.append_ #[35,35] 35 #[.slice (some ⟨w.heap.size,0,none⟩) 0 0,.slice (some ⟨b,f,none⟩) n cap]).run Tryz.prog (w.alloc (.cells #[] 9))=.ok v' w'∧(if n=0 then X2 w (.returned v') w' 0 w.heap.size [] else X2 (w.alloc (.cells #[] 9)) (.returned v') w' n (w.heap.size+1) vs):=by
  by_cases h0:n=0
  · subst h0
    refine ⟨_,_,F7 (P:=Tryz.prog) (w:=w.alloc (.cells #[] 9)) 35 35 9 i0 Tryz.underlying35 hi0 (some ⟨w.heap.size,0,none⟩) (some ⟨b,f,none⟩) 0 0 cap (Nat.le_refl _),?_⟩
    rw [if_pos rfl]
    exact ⟨0,#[],9,rfl,heap_alloc_new w _,rfl,Nat.le_refl _,rfl,fun b' _ hb'=>heap_alloc_old w _ hb',by simp,by simp,Env.alloc w _ (by intro c t z e; cases e; rfl)⟩
  · obtain ⟨C,cap',hr,hC,hCs,hle',_⟩:=N2 (c:=CxE) (w:=w.alloc (.cells #[] 9)) (t:=35) (ty:=35) Tryz.underlying35 hi0 hz0 (by rw [hzs]; rfl) (by rw [hzb]; decide) (a0:=some (ad w.heap.size 0)) (n:=0) (cap:=0) (m:=n) (c1:=cap) (us:=[]) (vs:=vs) (a1:=ad b f)
     (fun h=>by cases h) (Nat.le_refl _) (by simp) (fun b0 _ j u hj=>by simp at hj) (by rw [hzs,hvl]) (fun j u hj=>by rw [Addr.add_ad]; rw [World.cell?_of_block (w:=w) (heap_alloc_old w _ hb)]; exact hvs j u hj) (by omega) (by omega) (by rw [hzb]; omega)
    rw [hzs] at hC hCs
    simp only [Nat.zero_add,List.nil_append] at hC hle' hr
    refine ⟨_,_,hr,?_⟩
    rw [if_neg h0]
    have:=b5d (w:=w.alloc (.cells #[] 9)) hC hCs hle'
    simpa using this
 obtain ⟨v',w',hrun,hP⟩:=hrun
 have hP:b2G w (.returned v') w' n vs:=hP
 clear hi0 hz0 hzs hzb
 have hbin:=a7S (some ⟨b,f,none⟩) n cap w
 go_enter Tryz.func36,Tryz.ntmps36
 go_wp2_with (at_builtin; refine Lib.wpList_append_run _ rfl _ _ 35 35 rfl _ _ rfl rfl _ _ hrun ?_)
 go_ret
 exact hP
noncomputable def c0k:CloneShape Tryz.prog Tryz.f36 (Tryz.f36.params.getD 0 0) 1 16:=⟨_,_,_,_,_,_,_,_,_,_,_,_,_,rfl,rfl,rfl,⟨rfl,rfl,rfl⟩,⟨rfl,rfl,rfl⟩,⟨rfl,rfl,rfl⟩,⟨rfl,rfl,rfl⟩,⟨rfl,rfl,rfl⟩,⟨rfl,rfl,rfl⟩,⟨rfl,rfl,rfl⟩,⟨rfl,rfl,rfl⟩,by kernel_rfl⟩
theorem a5P:∀ {xs:List (List AV)},(∀ r∈xs,r.length=1)→xs.flatten.length=xs.length
 | [],_=>rfl
 | r::xs,h=>by
  have h1:=h r (List.mem_cons_self ..)
  have h2:=a5P (xs:=xs) fun s hs=>h s (List.mem_cons_of_mem _ hs)
  rw [List.flatten_cons,List.length_append,h1,h2,List.length_cons]; omega
theorem b40 (gt:List (Nat×List AV)):C5 Tryz.prog gt 36 (O6 1 16):=by
 intro args st res st' h hweak g w vs hst hgl hrel
 unfold O6 at h
 split at h
 · rename_i own
   cases h
   exact a2d Tryz.func36 c0k [.list own []] st (.list true []) st rfl hweak g w vs hst hgl hrel
 · cases h
   simp only [RelL] at hrel
   obtain ⟨v1,_,rfl,hv1,rfl⟩:=hrel
   simp only [Rel] at hv1
   subst hv1
   refine (b6V w).mono fun e w' ⟨he,hw⟩=>?_
   subst hw
   exact ⟨_,g,he,hst,Tr.refl _ _ _,ValOK.mk' (by simp [Rel]) (by simp) (by simp)⟩
 · rename_i own xs hne
   split at h
   case isFalse=>cases h
   rename_i hc
   obtain ⟨hro,hby⟩:=hc
   cases h
   simp only [RelL] at hrel
   obtain ⟨v1,_,rfl,hv1,rfl⟩:=hrel
   simp only [Rel] at hv1
   obtain ⟨a,n,cap,rfl,rfl,hcap,hn,hx⟩:=hv1
   have hx0:xs≠[]:=fun e=>hne e
   obtain ⟨b,f,sz,rfl,hrows⟩:=hx hx0
   obtain ⟨us,u1,u2,u3,u4,u5⟩:=hrows.vals
   have hln:=a5P (rows_len hro hrows)
   have hul:us.length=xs.length*1:=by rw [← u2.length,hln]; omega
   have hpos:0 < xs.length:=List.length_pos_iff.2 hx0
   have hcl:g.cl b f:=u5 0 (by omega)
   refine (b3x b f xs.length cap us w hcap (by omega) hul u3 (hst.cli _ _ hcl)).mono fun e w' hp=>?_
   rw [b2G,if_neg (fun e=>hx0 (List.eq_nil_of_length_eq_zero e))] at hp
   have hE:Ext g w g (w.alloc (.cells #[] 9)):=⟨Nat.le_refl _,fun _ _=>rfl,fun _ _=>rfl,fun _ _ h=>h,fun b f hf=>World.cell?_alloc_lt _ _ _ (hst.cli b f hf)⟩
   have hst1:SRel g (w.alloc (.cells #[] 9)) st:=hst.evolve hE rfl (by simp) (fun b q hq=>⟨hq,heap_alloc_old w _ (hst.inn b q hq),fun _ x=>x⟩) (fun _ _ x=>x) (fun b f hf=>.inl hf)
   refine CallPost.pre (w1:=w.alloc (.cells #[] 9)) ⟨hE,by simp,Env.alloc w _ (by intro c t z e; cases e; rfl),fun b hb hs _=>⟨⟨heap_alloc_old w _ hb,fun _ x=>x⟩,hs⟩⟩ ?_
   refine b3y hst1 (od:=none) (bb:=w.heap.size+1) hp (by simpa using (u2.weak1).ext hE _ _) u4 Q4 (by rw [List.length_map,hln]; omega) (fun f hf=>?_) (.inl (by simp))
   have:=hst.cli _ f hf
   omega
 · cases h
end Go.Cb.CodeA
