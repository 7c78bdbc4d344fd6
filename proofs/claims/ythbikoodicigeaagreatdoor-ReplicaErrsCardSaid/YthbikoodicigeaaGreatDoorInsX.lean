import Derived.Test.YthbikoodicigeaaGreatDoorIns
set_option maxRecDepth 100000
set_option linter.unusedVariables false
set_option linter.unusedSimpArgs false
namespace Go.Cb.CodeA
open Go Go.Cb Go.Proofs Go.RowKit Go.Shelf
noncomputable def CxA (A:Nat→Prop):Go.Cb.Cx:=⟨Tryz.prog,[],[],0,[],A⟩
abbrev stOf (od:Option Nat) (st:St):St:=match od with
 | some o=>st.set o .dead
 | none=>st
theorem stOf_len (od:Option Nat) (st:St):(stOf od st).length=st.length:=by cases od <;> simp [stOf]
theorem ins_post {g:Gh} {w:World} {st:St} (hst:SRel g w st) {od:Option Nat} {bb n:Nat} {vs:List Value} {cs:List AV} {e:Ending} {w':World} (h:InsPost w e w' n bb vs) (hrel:RelL g w cs vs) (hone:∀ v∈vs,v.oneCell'=true)
 (hwk:∀ c∈cs,c.weak1=c) (hcl:cs.length=n*4) (hnc:∀ f,¬ g.cl bb f) (hbr:bb=w.heap.size∨∃ o,od=some o∧g.sr bb=some (o,none)):CallPost g w (stOf od st++[.cells cs]) (.sl st.length 0 n 4) e w':=by
 obtain ⟨cap,arr,T,rfl,hh,hs,hle,htk,hold,hsz,hbb,henv⟩:=h
 let A:Nat→Prop:=fun b=>w.heap.size≤b∨g.sr b≠none
 have hS:S (CxA A) g w (fun _=>none) (fun _=>0) ⟨[],fun _=>.undef,st⟩ { tmps:=#[],defers:=[] }:=by
  refine ⟨⟨rfl,rfl,fun i s hs=>(by simp [CxA] at hs),fun s _=>ValOK.undef,fun b p hb=>(by cases hb),fun i cs hi=>(by simp at hi)⟩,hst,fun e he=>(by simp [CxA] at he),fun b hb=>.inl hb,fun b p hb=>.inr (by rw [hb]; simp)⟩
 have hlast:∀ (x:Nat) (ob:Cb.Obj),¬ x < st.length→(stOf od st++[Cb.Obj.cells cs])[x]?=some ob→x=g.n∧ob=.cells cs:=by
  intro x ob hge hx
  rw [List.getElem?_append_right (by rw [stOf_len]; omega),stOf_len] at hx
  have hx0:x - st.length=0:=by
   rcases Nat.eq_zero_or_pos (x - st.length) with h0|h0
   · exact h0
   · rw [List.getElem?_eq_none (by simp; omega)] at hx; cases hx
  rw [hx0] at hx
  simp at hx
  have:=hst.n
  exact ⟨by omega,hx.symm⟩
 obtain ⟨hS2,htr⟩:=growM hS (od:=od) (bb:=bb) (cpv:=arr.size) (cs:=cs) (st2:=stOf od st++[.cells cs]) henv hsz hbb hold hnc hbr (by rw [List.length_append,stOf_len,hst.n]; rfl)
  (fun x ob hx=>by
   by_cases hlt:x < st.length
   · rw [List.getElem?_append_left (by rw [stOf_len]; exact hlt)] at hx
     cases od with
     | none=>exact .inr (.inr ⟨hx,by simp⟩)
     | some oo =>
      by_cases ex:oo=x
      · subst ex
        rw [show stOf (some oo) st=st.set oo .dead from rfl,List.getElem?_set_self hlt] at hx
        exact .inr (.inl (Option.some.inj hx).symm)
      · rw [show stOf (some oo) st=st.set oo .dead from rfl,List.getElem?_set_ne ex] at hx
        exact .inr (.inr ⟨hx,by simpa using ex⟩)
   · exact .inl (hlast x ob hlt hx))
  (fun he=>by
   refine ⟨by simp [Gh.grow],fun f hf=>?_,arr,T,by simp only [Gh.grow,if_true]; exact hh,by simp [Gh.grow],?_,?_,fun k x v hk hv xs ex=>?_⟩
   · simp only [Gh.grow,if_true] at hf
     exact hnc f hf
   · rw [hcl,htk]; exact hrel.ext he _ _
   · rw [hcl,htk]; exact hone
   · subst ex
     have:=hwk _ (List.mem_of_getElem? hk)
     simp [AV.weak1] at this)
 refine ⟨_,_,rfl,hS2.st,⟨htr.ext,htr.size,htr.env,fun b hb hs _=>htr.keep b hb hs fun hA=>?_⟩,?_⟩
 · rcases hA with hA|hA
   · omega
   · exact hA hs
 · refine ValOK.mk' ?_ (by simp) (by simp)
   simp only [Rel]
   rw [← hst.n]
   exact ⟨by simp [Gh.grow],cap,by simp [Gh.grow],hle,by simp [Gh.grow,hs]⟩
/-- what an object holds -/
theorem obj_vals {g:Gh} {w:World} {o:Nat} {cs:List AV} (h:ObjOK g w o (.cells cs)):g.sr (g.m o)=some (o,none)∧(∀ f,¬ g.cl (g.m o) f)∧∃ arr T,w.heap[g.m o]?=some (.cells arr T (0,0))∧arr.size=g.cp o∧RelL g w cs (arr.toList.take cs.length)∧(∀ c∈arr.toList.take cs.length,c.oneCell'=true):=by
 obtain ⟨h1,h2,arr,T,h3,h4,h5,h6,_⟩:=h
 exact ⟨h1,h2,arr,T,h3,h4,h5,h6⟩
theorem weak1_map {cs:List AV}:∀ c∈cs.map AV.weak1,c.weak1=c:=fun c hc=>by
 obtain ⟨d,_,rfl⟩:=List.mem_map.1 hc
 cases d <;> rfl
theorem row_vals {g:Gh} {w:World} {own:Bool} {row:List AV} {v:Value} (h:Rel g w (.list own [row]) v) (hr:row.length=4):∃ vb vf vc vs,v=.slice (some (ad vb vf)) 1 vc∧vs.length=4∧RelL g w row vs∧(∀ u∈vs,u.oneCell'=true)∧(∀ (j:Nat) (u:Value),vs[j]?=some u→w.cell? (ad vb (vf+j))=some u)∧g.cl vb vf:=by
 simp only [Rel] at h
 obtain ⟨a,n,cap,rfl,rfl,hc,hn,hx⟩:=h
 obtain ⟨b,f,sz,rfl,hrows⟩:=hx (by simp)
 simp only [RelRows] at hrows
 obtain ⟨hl,hcells,_⟩:=hrows
 have hrw:RelRows g w b f sz [row]:=by simp only [RelRows]; exact ⟨hl,hcells,trivial⟩
 obtain ⟨us,u1,u2,u3,u4,_⟩:=hrw.vals
 have hcl:g.cl b f:=by
  cases row with
  | nil=>simp at hr
  | cons c cs =>
   simp only [RelCells] at hcells
   obtain ⟨⟨_,_,_,h,_⟩,_⟩:=hcells
   exact h
 refine ⟨b,f,cap,us,rfl,by rw [u1]; simp; omega,by simpa using u2,u4,fun j u hj=>u3 j u hj,hcl⟩
theorem insert_ok (gt:List (Nat×List AV)):ExtOK Tryz.prog gt 100 (insertX 4 80):=by
 intro args st res st' h hweak g w vs hst _ hrel
 unfold insertX at h
 split at h
 · rename_i i own row
   split at h
   case isFalse=>cases h
   rename_i hc
   obtain ⟨rfl,hr⟩:=hc
   simp only [Option.some.injEq,Prod.mk.injEq] at h
   obtain ⟨rfl,rfl⟩:=h
   simp only [RelL] at hrel
   obtain ⟨v1,_,rfl,hv1,v2,_,rfl,hv2,v3,_,rfl,hv3,rfl⟩:=hrel
   simp only [Rel] at hv1 hv2
   subst hv1; subst hv2
   obtain ⟨vb,vf,vc,us,rfl,hul,hur,hu1,huc,hcl⟩:=row_vals hv3 hr
   have hlen:(insRow 4 0 [] row).length=1*4:=by simp [insRow,hr]
   refine (ins_nil vb vf vc us w hul huc).mono fun e w' hp=>ins_post hst (od:=none) hp (by simpa [insRow] using hur.weak1) hu1 (by unfold insRow; exact weak1_map) hlen (fun f hf=>Nat.lt_irrefl _ (hst.cli _ f hf)) (.inl rfl)
 · rename_i o n s i own row
   split at h
   case h_2=>cases h
   rename_i cs hx
   split at h
   case isFalse=>cases h
   rename_i hc
   obtain ⟨rfl,h0,hin,hcl,hr,hby⟩:=hc
   simp only [Option.some.injEq,Prod.mk.injEq] at h
   obtain ⟨rfl,rfl⟩:=h
   simp only [RelL] at hrel
   obtain ⟨v1,_,rfl,hv1,v2,_,rfl,hv2,v3,_,rfl,hv3,rfl⟩:=hrel
   simp only [Rel] at hv1 hv2
   subst hv2
   obtain ⟨hog,cap,rfl,hle,hcp⟩:=hv1
   obtain ⟨vb,vf,vc,us,rfl,hul,hur,hu1,huc,hvcl⟩:=row_vals hv3 hr
   obtain ⟨hsr,hnc,arr,T,hh,hcps,hrl,ho1⟩:=obj_vals (hst.obj o _ hx)
   obtain ⟨k,rfl⟩:∃ k:Nat,i=k:=⟨i.toNat,by omega⟩
   have hk:k≤n:=by omega
   have hsz:arr.size=cap*4:=by rw [hcps]; omega
   have hvb:vb≠g.m o:=fun e=>hnc vf (e ▸ hvcl)
   rw [hcl] at hrl ho1
   have hln:(insRow 4 k cs row).length=(n+1)*4:=by simp [insRow,hr,hcl]; omega
   have hrel':RelL g w (insRow 4 k cs row) (arr.toList.take (k*4)++us++(arr.toList.take (n*4)).drop (k*4)):=by
    unfold insRow
    have:=((hrl.take (k*4)).append hur).append (hrl.drop (k*4))
    rw [List.take_take,Nat.min_eq_left (by omega)] at this
    exact this.weak1
   have hone':∀ v∈arr.toList.take (k*4)++us++(arr.toList.take (n*4)).drop (k*4),v.oneCell'=true:=by
    intro v hv
    simp only [List.mem_append] at hv
    rcases hv with (hv|hv)|hv
    · exact ho1 v (by
       have:arr.toList.take (k*4)=(arr.toList.take (n*4)).take (k*4):=by rw [List.take_take,Nat.min_eq_left (by omega)]
       rw [this] at hv
       exact List.mem_of_mem_take hv)
    · exact hu1 v hv
    · exact ho1 v (List.mem_of_mem_drop hv)
   have fin:∀ bb,(bb=g.m o∨bb=w.heap.size)→∀ e w',InsPost w e w' (n+1) bb (arr.toList.take (k*4)++us++(arr.toList.take (n*4)).drop (k*4))→CallPost g w (st.set o .dead++[.cells (insRow 4 k cs row)]) (.sl st.length 0 (n+1) 4) e w':=by
    intro bb hbb e w' hp
    refine ins_post hst (od:=some o) hp hrel' hone' (by unfold insRow; exact weak1_map) hln ?_ ?_
    · rcases hbb with rfl|rfl
      · exact hnc
      · exact fun f hf=>Nat.lt_irrefl _ (hst.cli _ f hf)
    · rcases hbb with rfl|rfl
      · exact .inr ⟨o,rfl,hsr⟩
      · exact .inl rfl
   rw [Int.toNat_natCast]
   by_cases hkn:k=n
   · subst hkn
     refine (ins_end (g.m o) k cap vb vf vc arr T us w hle (by omega) hh hsz hul huc hu1).mono fun e w' hp=>?_
     obtain ⟨bb,hbb,hp⟩:=hp
     refine fin bb hbb e w' ?_
     rw [List.drop_of_length_le (by simp; omega),List.append_nil]
     exact hp
   · by_cases hroom:n+1≤cap
     · exact (ins_room (g.m o) n cap k vb vf vc arr T us w (by omega) hroom (by omega) hvb hh hsz hul huc ho1 hu1).mono fun e w' hp=>fin _ (.inl rfl) e w' hp
     · exact (ins_grow (g.m o) n cap k vb vf vc arr T us w (by omega) hle (by omega) (by omega) (hst.cli _ _ hvcl) hh hsz hul huc ho1 hu1).mono fun e w' hp=>fin _ (.inr rfl) e w' hp
 · cases h
theorem eq_nil43 (a:Option Addr) (n c:Nat) (w:World):Sem.run Tryz.prog (binOp BinOp.eql 43 (Value.slice a n c) (Value.slice none 0 0)) w=.ok (.bool a.isNone) w:=by
 have heq:(Op.equal 43 (.slice a n c) (.slice none 0 0)).run Tryz.prog w=.ok a.isNone w:=by
  rw [equal_eq,Op.equalIn,Sem.run_bind,run_underlying Tryz.underlying43,Result.andThen_ok]
  cases a <;> rfl
 simp only [binOp,Sem.run_bind,heq,Result.andThen_ok,Sem.run_pure]
set_option maxHeartbeats 4000000 in
theorem cln_nil (w:World):Calls Tryz.prog 99 #[.slice none 0 0] w fun e w'=>e=.returned (.slice none 0 0)∧w'=w:=by
 have t0:=Tryz.underlying0
 have t35:=Tryz.underlying43
 have hbin:=eq_nil43 none 0 0 w
 go_enter Tryz.func99,Tryz.ntmps99
 go_wp2
 go_ret
 exact ⟨rfl,rfl⟩
theorem CallPost.pre {g:Gh} {w w1 w':World} {st':St} {a b c d:Nat} {e:Ending} (ht:Tr No g w g w1) (h:CallPost g w1 st' (.sl a b c d) e w'):CallPost g w st' (.sl a b c d) e w':=by
 obtain ⟨v,g',he,hS,ht',hv⟩:=h
 exact ⟨v,g',he,hS,ht.trans ht',ValOK.mk' hv.rel (by simp) (by simp)⟩
def InsC (w:World) (e:Ending) (w':World) (n:Nat) (vs:List Value):Prop:=if n=0 then InsPost w e w' 0 w.heap.size [] else InsPost (w.alloc (.cells #[] 131)) e w' n (w.heap.size+1) vs
set_option maxHeartbeats 4000000 in
theorem cln_some (b f n cap:Nat) (vs:List Value) (w:World) (hle:n≤cap) (hn:n*80≤140737488355328) (hvl:vs.length=n*4) (hvs:∀ j v,vs[j]?=some v→w.cell? (ad b (f+j))=some v) (hb:b < w.heap.size) :
 Calls Tryz.prog 99 #[.slice (some ⟨b,f,none⟩) n cap] w fun e w'=>InsC w e w' n vs:=by
 have t0:=Tryz.underlying0
 have t35:=Tryz.underlying43
 obtain ⟨i0,hi0,hz0,hzs,hzb⟩:=info_parts info131
 have hrun:∃ v' w',(Builtin.append_ #[43,43] 43 #[.slice (some ⟨w.heap.size,0,none⟩) 0 0,.slice (some ⟨b,f,none⟩) n cap]).run Tryz.prog (w.alloc (.cells #[] 131))=.ok v' w'∧(if n=0 then InsPost w (.returned v') w' 0 w.heap.size [] else InsPost (w.alloc (.cells #[] 131)) (.returned v') w' n (w.heap.size+1) vs):=by
  by_cases h0:n=0
  · subst h0
    refine ⟨_,_,run_append_none (P:=Tryz.prog) (w:=w.alloc (.cells #[] 131)) 43 43 131 i0 Tryz.underlying43 hi0 (some ⟨w.heap.size,0,none⟩) (some ⟨b,f,none⟩) 0 0 cap (Nat.le_refl _),?_⟩
    rw [if_pos rfl]
    exact ⟨0,#[],131,rfl,heap_alloc_new w _,rfl,Nat.le_refl _,rfl,fun b' _ hb'=>heap_alloc_old w _ hb',by simp,by simp,Env.alloc w _ (by intro c t z e; cases e; rfl)⟩
  · obtain ⟨C,cap',hr,hC,hCs,hle',_⟩:=append_new (c:=CxE) (w:=w.alloc (.cells #[] 131)) (t:=43) (ty:=43) Tryz.underlying43 hi0 hz0 (by rw [hzs]; rfl) (by rw [hzb]; decide) (a0:=some (ad w.heap.size 0)) (n:=0) (cap:=0) (m:=n) (c1:=cap) (us:=[]) (vs:=vs) (a1:=ad b f)
     (fun h=>by cases h) (Nat.le_refl _) (by simp) (fun b0 _ j u hj=>by simp at hj) (by rw [hzs,hvl]) (fun j u hj=>by rw [Addr.add_ad]; rw [World.cell?_of_block (w:=w) (heap_alloc_old w _ hb)]; exact hvs j u hj) (by omega) (by omega) (by rw [hzb]; omega)
    rw [hzs] at hC hCs
    simp only [Nat.zero_add,List.nil_append] at hC hle' hr
    refine ⟨_,_,hr,?_⟩
    rw [if_neg h0]
    have:=ins_new (w:=w.alloc (.cells #[] 131)) hC hCs hle'
    simpa using this
 obtain ⟨v',w',hrun,hP⟩:=hrun
 have hP:InsC w (.returned v') w' n vs:=hP
 clear hi0 hz0 hzs hzb
 have hbin:=eq_nil43 (some ⟨b,f,none⟩) n cap w
 go_enter Tryz.func99,Tryz.ntmps99
 go_wp2_with (at_builtin; refine Lib.wpList_append_run _ rfl _ _ 43 43 rfl _ _ rfl rfl _ _ hrun ?_)
 go_ret
 exact hP
theorem cloneM_ok (gt:List (Nat×List AV)):ExtOK Tryz.prog gt 99 (cloneMX 4 80):=by
 intro args st res st' h hweak g w vs hst _ hrel
 unfold cloneMX at h
 split at h
 · simp only [Option.some.injEq,Prod.mk.injEq] at h
   obtain ⟨rfl,rfl⟩:=h
   simp only [RelL] at hrel
   obtain ⟨v1,_,rfl,hv1,rfl⟩:=hrel
   simp only [Rel] at hv1
   subst hv1
   refine (cln_nil w).mono fun e w' ⟨he,hw⟩=>?_
   subst hw
   exact ⟨_,g,he,hst,Tr.refl _ _ _,ValOK.mk' (by simp [Rel]) (by simp) (by simp)⟩
 · rename_i o f n s
   split at h
   case h_2=>cases h
   rename_i cs hx
   split at h
   case isFalse=>cases h
   rename_i hc
   obtain ⟨rfl,hcl,hby⟩:=hc
   simp only [Option.some.injEq,Prod.mk.injEq] at h
   obtain ⟨rfl,rfl⟩:=h
   simp only [RelL] at hrel
   obtain ⟨v1,_,rfl,hv1,rfl⟩:=hrel
   simp only [Rel] at hv1
   obtain ⟨hog,cap,rfl,hle,hcp⟩:=hv1
   obtain ⟨hsr,hnc,arr,T,hh,hcps,hrl,ho1⟩:=obj_vals (hst.obj o _ hx)
   have hal:arr.toList.length=g.cp o:=by simpa using hcps
   have hfit:cs.length≤arr.toList.length:=by have:=hrl.length; rw [List.length_take] at this; omega
   have hvl:(((arr.toList.take cs.length).drop f).take (n*4)).length=n*4:=by simp only [List.length_take,List.length_drop]; omega
   have hr2:RelL g w (((cs.drop f).take (n*4)).map AV.weak1) (((arr.toList.take cs.length).drop f).take (n*4)):=((hrl.drop f).take (n*4)).weak1
   have ho2:∀ v∈((arr.toList.take cs.length).drop f).take (n*4),v.oneCell'=true:=fun v hv=>ho1 v (List.mem_of_mem_drop (List.mem_of_mem_take hv))
   have hcl2:(((cs.drop f).take (n*4)).map AV.weak1).length=n*4:=by simp; omega
   refine (cln_some (g.m o) f n cap _ w hle (by omega) hvl (fun j v hj=>?_) (hst.inn _ _ hsr)).mono fun e w' hp=>?_
   · rw [cell_of_row _ _ _ arr T _ hh]
     rw [List.getElem?_take] at hj
     split at hj
     · rw [List.getElem?_drop,List.getElem?_take] at hj
       split at hj
       · simpa using hj
       · cases hj
     · cases hj
   · by_cases h0:n=0
     · subst h0
       rw [InsC,if_pos rfl] at hp
       rw [Nat.zero_mul,List.take_zero,List.map_nil]
       exact ins_post hst (od:=none) hp (by simp [RelL]) (by simp) (by simp) rfl (fun f hf=>Nat.lt_irrefl _ (hst.cli _ f hf)) (.inl rfl)
     · rw [InsC,if_neg h0] at hp
       have hE:Ext g w g (w.alloc (.cells #[] 131)):=⟨Nat.le_refl _,fun _ _=>rfl,fun _ _=>rfl,fun _ _ h=>h,fun b f hf=>World.cell?_alloc_lt _ _ _ (hst.cli b f hf)⟩
       have hst1:SRel g (w.alloc (.cells #[] 131)) st:=hst.evolve hE rfl (by simp) (fun b q hq=>⟨hq,heap_alloc_old w _ (hst.inn b q hq),fun _ x=>x⟩) (fun _ _ x=>x) (fun b f hf=>.inl hf)
       refine CallPost.pre (w1:=w.alloc (.cells #[] 131)) ⟨hE,by simp,Env.alloc w _ (by intro c t z e; cases e; rfl),fun b hb hs _=>⟨⟨heap_alloc_old w _ hb,fun _ x=>x⟩,hs⟩⟩ ?_
       refine ins_post hst1 (od:=none) (bb:=w.heap.size+1) hp (hr2.ext hE _ _) ho2 weak1_map hcl2 (fun f hf=>?_) (.inl (by simp))
       have:=hst.cli _ f hf
       omega
 · cases h
end Go.Cb.CodeA
