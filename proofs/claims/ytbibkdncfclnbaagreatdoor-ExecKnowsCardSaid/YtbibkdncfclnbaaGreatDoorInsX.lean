import Derived.Test.YtbibkdncfclnbaaGreatDoorIns
set_option maxRecDepth 100000
set_option linter.all false
namespace Go.Cb.CodeA
open Go Go.Cb Go.Proofs Go.RowKit Go.Shelf
noncomputable def CxA (A:Nat→Prop):Go.Cb.Cx:=⟨Tryz.prog,[],[],0,[],A⟩
abbrev a6X (od:Option Nat) (st:St):St:=match od with
 | some o=>st.set o .dead
 | none=>st
theorem a4J (od:Option Nat) (st:St):(a6X od st).length=st.length:=by cases od<;>simp[a6X]
theorem a2p {g:Gh} {w:World} {st:St} (t:SRel g w st) {od:Option Nat} {bb n:Nat} {vs:List Value} {cs:List AV} {e:Ending} {w':World} (h:G3 w e w' n bb vs) (U:RelL g w cs vs) (O:∀ v∈vs,v.oneCell'=true)
 (a4:∀ c∈cs,c.weak1=c) (J:cs.length=n*4) (M:∀ f,¬ g.cl bb f) (a0:bb=w.heap.size∨∃ o,od=some o∧g.sr bb=some (o,none)):CallPost g w (a6X od st++[.cells cs]) (.sl st.length 0 n 4) e w':=by
 obtain⟨cap,arr,T,rfl,hh,I,a1,W,N,a2,Z,L⟩:=h;let A:Nat→Prop:=fun b=>w.heap.size≤b∨g.sr b≠none
 have hS:S (CxA A) g w (fun _=>none) (fun _=>0) ⟨[],fun _=>.undef,st⟩ { tmps:=#[],defers:=[] }:=by refine⟨⟨rfl,rfl,fun i s I=>(by simp[CxA]at I),fun s _=>ValOK.undef,fun b p y=>(by cases y),fun i cs hi=>(by simp at hi)⟩,t,fun e he=>(by simp[CxA]at he),fun b y=>.inl y,fun b p y=>.inr (by rw[y]; simp)⟩
 have z:∀ (x:Nat) (ob:Cb.Obj),¬ x < st.length→(a6X od st++[Cb.Obj.cells cs])[x]?=some ob→x=g.n∧ob=.cells cs:=by
  intro x ob a6 l;rw[List.getElem?_append_right (by rw[a4J]; omega),a4J]at l;have a5:x - st.length=0:=by
   rcases Nat.eq_zero_or_pos (x - st.length)with h0|h0
   · exact h0
   · rw[List.getElem?_eq_none (by simp; omega)]at l; cases l
  rw[a5]at l;simp at l;have:=t.n;exact⟨by omega,l.symm⟩
 obtain⟨Y,u⟩:=c3D hS (od:=od) (bb:=bb) (cpv:=arr.size) (cs:=cs) (st2:=a6X od st++[.cells cs]) L a2 Z N M a0 (by rw[List.length_append,a4J,t.n]; rfl)
  (fun x ob l=>by
   by_cases C:x < st.length
   · rw[List.getElem?_append_left (by rw[a4J]; exact C)]at l;cases od with
     | none=>exact .inr (.inr ⟨l,by simp⟩)
     | some oo =>
      by_cases ex:oo=x
      · subst ex;rw[show a6X (some oo) st=st.set oo .dead from rfl,List.getElem?_set_self C]at l;exact .inr (.inl (Option.some.inj l).symm)
      · rw[show a6X (some oo) st=st.set oo .dead from rfl,List.getElem?_set_ne ex]at l;exact .inr (.inr ⟨l,by simpa using ex⟩)
   · exact .inl (z x ob C l))
  (fun he=>by
   refine⟨by simp[Gh.grow],fun f hf=>?_,arr,T,by simp only[Gh.grow,if_true]; exact hh,by simp[Gh.grow],?_,?_,fun k x v hk hv xs ex=>?_⟩
   · simp only[Gh.grow,if_true]at hf;exact M f hf
   · rw[J,W]; exact U.ext he _ _
   · rw[J,W]; exact O
   · subst ex;have:=a4 _ (List.mem_of_getElem? hk);simp[AV.weak1]at this)
 refine⟨_,_,rfl,Y.st,⟨u.ext,u.size,u.env,fun b y I _=>u.keep b y I fun hA=>?_⟩,?_⟩
 · rcases hA with hA|hA
   · omega
   · exact hA I
 · refine ValOK.mk' ?_ (by simp) (by simp);simp only[Rel];rw[← t.n];exact⟨by simp[Gh.grow],cap,by simp[Gh.grow],a1,by simp[Gh.grow,I]⟩
theorem a7v {g:Gh} {w:World} {o:Nat} {cs:List AV} (h:ObjOK g w o (.cells cs)):g.sr (g.m o)=some (o,none)∧(∀ f,¬ g.cl (g.m o) f)∧∃ arr T,w.heap[g.m o]?=some (.cells arr T (0,0))∧arr.size=g.cp o∧RelL g w cs (arr.toList.take cs.length)∧(∀ c∈arr.toList.take cs.length,c.oneCell'=true):=by obtain⟨e,l,arr,T,t,u,v,x,_⟩:=h;exact⟨e,l,arr,T,t,u,v,x⟩
theorem a0h {cs:List AV}:∀ c∈cs.map AV.weak1,c.weak1=c:=fun c e=>by obtain⟨d,_,rfl⟩:=List.mem_map.1 e;cases d<;>rfl
theorem b1k {g:Gh} {w:World} {own:Bool} {row:List AV} {v:Value} (h:Rel g w (.list own [row]) v) (J:row.length=4):∃ y z U vs,v=.slice (some (ad y z)) 1 U∧vs.length=4∧RelL g w row vs∧(∀ u∈vs,u.oneCell'=true)∧(∀ (j:Nat) (u:Value),vs[j]?=some u→w.cell? (ad y (z+j))=some u)∧g.cl y z:=by
 simp only[Rel]at h;obtain⟨a,n,cap,rfl,rfl,W,Y,L⟩:=h;obtain⟨b,f,sz,rfl,l⟩:=L (by simp);simp only[RelRows]at l;obtain⟨I,e,_⟩:=l;have x:RelRows g w b f sz [row]:=by simp only[RelRows]; exact⟨I,e,trivial⟩
 obtain⟨us,M,N,O,T,_⟩:=x.vals;have t:g.cl b f:=by
  cases row with
  | nil=>simp at J
  | cons c cs =>simp only[RelCells]at e;obtain⟨⟨_,_,_,h,_⟩,_⟩:=e;exact h
 refine⟨b,f,cap,us,rfl,by rw[M]; simp; omega,by simpa using N,T,fun j u C=>O j u C,t⟩
theorem b7W (gt:List (Nat×List AV)):Z6 Tryz.prog gt 88 (a0i 4 80):=by
 intro args st res st' h b2 g w vs t _ l;unfold a0i at h;split at h
 · rename_i i own row;split at h
   case isFalse=>cases h
   rename_i hc;obtain⟨rfl,hr⟩:=hc;simp only[Option.some.injEq,Prod.mk.injEq]at h;obtain⟨rfl,rfl⟩:=h;simp only[RelL]at l;obtain⟨v1,_,rfl,I,v2,_,rfl,J,v3,_,rfl,a1,rfl⟩:=l;simp only[Rel]at I J;subst I; subst J;obtain⟨vb,vf,vc,us,rfl,C,a0,u,z,N⟩:=b1k a1 hr;have a5:(O7 4 0 [] row).length=1*4:=by simp[O7,hr]
   refine(c4k vb vf vc us w C z).mono fun e w' y=>a2p t (od:=none) y (by simpa[O7]using a0.weak1) u (by unfold O7; exact a0h) a5 (fun f hf=>Nat.lt_irrefl _ (t.cli _ f hf)) (.inl rfl)
 · rename_i o n s i own row;split at h
   case h_2=>cases h
   rename_i cs hx;split at h
   case isFalse=>cases h
   rename_i hc;obtain⟨rfl,h0,b5,N,hr,b3⟩:=hc;simp only[Option.some.injEq,Prod.mk.injEq]at h;obtain⟨rfl,rfl⟩:=h;simp only[RelL]at l;obtain⟨v1,_,rfl,I,v2,_,rfl,J,v3,_,rfl,a1,rfl⟩:=l;simp only[Rel]at I J;subst J;obtain⟨b6,cap,rfl,a4,b4⟩:=I;obtain⟨vb,vf,vc,us,rfl,C,a0,u,z,M⟩:=b1k a1 hr;obtain⟨b0,a6,arr,T,hh,a2,W,x⟩:=a7v (t.obj o _ hx);obtain⟨k,rfl⟩:∃ k:Nat,i=k:=⟨i.toNat,by omega⟩
   have hk:k≤n:=by omega
   have Z:arr.size=cap*4:=by rw[a2]; omega
   have b1:vb≠g.m o:=fun e=>a6 vf (e ▸ M)
   rw[N]at W x;have a9:(O7 4 k cs row).length=(n+1)*4:=by simp[O7,hr,N]; omega
   have U:RelL g w (O7 4 k cs row) (arr.toList.take (k*4)++us++(arr.toList.take (n*4)).drop (k*4)):=by unfold O7;have:=((W.take (k*4)).append a0).append (W.drop (k*4));rw[List.take_take,Nat.min_eq_left (by omega)]at this;exact this.weak1
   have O:∀ v∈arr.toList.take (k*4)++us++(arr.toList.take (n*4)).drop (k*4),v.oneCell'=true:=by
    intro v hv;simp only[List.mem_append]at hv;rcases hv with(hv|hv)|hv
    · exact x v (by
       have:arr.toList.take (k*4)=(arr.toList.take (n*4)).take (k*4):=by rw[List.take_take,Nat.min_eq_left (by omega)]
       rw[this]at hv;exact List.mem_of_mem_take hv)
    · exact u v hv
    · exact x v (List.mem_of_mem_drop hv)
   have fin:∀ bb,(bb=g.m o∨bb=w.heap.size)→∀ e w',G3 w e w' (n+1) bb (arr.toList.take (k*4)++us++(arr.toList.take (n*4)).drop (k*4))→CallPost g w (st.set o .dead++[.cells (O7 4 k cs row)]) (.sl st.length 0 (n+1) 4) e w':=by
    intro bb L e w' y;refine a2p t (od:=some o) y U O (by unfold O7; exact a0h) a9 ?_ ?_
    · rcases L with rfl|rfl
      · exact a6
      · exact fun f hf=>Nat.lt_irrefl _ (t.cli _ f hf)
    · rcases L with rfl|rfl
      · exact .inr ⟨o,rfl,b0⟩
      · exact .inl rfl
   rw[Int.toNat_natCast];by_cases a7:k=n
   · subst a7;refine(c5H (g.m o) k cap vb vf vc arr T us w a4 (by omega) hh Z C z u).mono fun e w' y=>?_
     obtain⟨bb,L,y⟩:=y;refine fin bb L e w' ?_;rw[List.drop_of_length_le (by simp; omega),List.append_nil];exact y
   · by_cases Y:n+1≤cap
     · exact(c2w (g.m o) n cap k vb vf vc arr T us w (by omega) Y (by omega) b1 hh Z C z x u).mono fun e w' y=>fin _ (.inl rfl) e w' y
     · exact(c1V (g.m o) n cap k vb vf vc arr T us w (by omega) a4 (by omega) (by omega) (t.cli _ _ M) hh Z C z x u).mono fun e w' y=>fin _ (.inr rfl) e w' y
 · cases h
theorem b1V (a:Option Addr) (n c:Nat) (w:World):Sem.run Tryz.prog (binOp BinOp.eql 35 (Value.slice a n c) (Value.slice none 0 0)) w=.ok (.bool a.isNone) w:=by
 have e:(Op.equal 35 (.slice a n c) (.slice none 0 0)).run Tryz.prog w=.ok a.isNone w:=by rw[a0Y,Op.equalIn,Sem.run_bind,run_underlying Tryz.underlying35,Result.andThen_ok];cases a<;>rfl
 simp only[binOp,Sem.run_bind,e,Result.andThen_ok,Sem.run_pure]
set_option maxHeartbeats 4000000 in
theorem c6h (w:World):Calls Tryz.prog 47 #[.slice none 0 0] w fun e w'=>e=.returned (.slice none 0 0)∧w'=w:=by
 have t0:=Tryz.underlying0;have t35:=Tryz.underlying35;have l:=b1V none 0 0 w
 go_enter Tryz.func47,Tryz.ntmps47
 go_wp2
 go_ret
 exact⟨rfl,rfl⟩
theorem CallPost.pre {g:Gh} {w w1 w':World} {st':St} {a b c d:Nat} {e:Ending} (x:Tr No g w g w1) (h:CallPost g w1 st' (.sl a b c d) e w'):CallPost g w st' (.sl a b c d) e w':=by obtain⟨v,g',u,t,l,y⟩:=h;exact⟨v,g',u,t,x.trans l,ValOK.mk' y.rel (by simp) (by simp)⟩
def b5N (w:World) (e:Ending) (w':World) (n:Nat) (vs:List Value):Prop:=if n=0 then G3 w e w' 0 w.heap.size []else G3 (w.alloc (.cells #[] 41)) e w' n (w.heap.size+1) vs
set_option maxHeartbeats 4000000 in
theorem c0p (b f n cap:Nat) (vs:List Value) (w:World) (a5:n≤cap) (hn:n*80≤140737488355328) (Y:vs.length=n*4) (Z:∀ j v,vs[j]?=some v→w.cell? (ad b (f+j))=some v) (hb:b < w.heap.size) :
 Calls Tryz.prog 47 #[.slice (some ⟨b,f,none⟩) n cap] w fun e w'=>b5N w e w' n vs:=by
 have t0:=Tryz.underlying0;have t35:=Tryz.underlying35;obtain⟨i0,I,M,x,J⟩:=info_parts a4W;have l:∃ N w',(Builtin.append_ #[35,35] 35 #[.slice (some ⟨w.heap.size,0,none⟩) 0 0,.slice (some ⟨b,f,none⟩) n cap]).run Tryz.prog (w.alloc (.cells #[] 41))=.ok N w'∧(if n=0 then G3 w (.returned N) w' 0 w.heap.size []else G3 (w.alloc (.cells #[] 41)) (.returned N) w' n (w.heap.size+1) vs):=by
  by_cases h0:n=0
  · subst h0;refine⟨_,_,a0M (P:=Tryz.prog) (w:=w.alloc (.cells #[] 41)) 35 35 41 i0 Tryz.underlying35 I (some ⟨w.heap.size,0,none⟩) (some ⟨b,f,none⟩) 0 0 cap (Nat.le_refl _),?_⟩;rw[if_pos rfl];exact⟨0,#[],41,rfl,heap_alloc_new w _,rfl,Nat.le_refl _,rfl,fun b' _ U=>heap_alloc_old w _ U,by simp,by simp,Env.alloc w _ (by intro c t z e; cases e; rfl)⟩
  · obtain⟨C,a2,hr,O,L,y,_⟩:=X2 (c:=CxE) (w:=w.alloc (.cells #[] 41)) (t:=35) (ty:=35) Tryz.underlying35 I M (by rw[x]; rfl) (by rw[J]; decide) (a0:=some (ad w.heap.size 0)) (n:=0) (cap:=0) (m:=n) (c1:=cap) (us:=[]) (vs:=vs) (a1:=ad b f)
     (fun h=>by cases h) (Nat.le_refl _) (by simp) (fun b0 _ j u W=>by simp at W) (by rw[x,Y]) (fun j u W=>by rw[Addr.add_ad]; rw[World.cell?_of_block (w:=w) (heap_alloc_old w _ hb)]; exact Z j u W) (by omega) (by omega) (by rw[J]; omega)
    rw[x]at O L;simp only[Nat.zero_add,List.nil_append]at O y hr;refine⟨_,_,hr,?_⟩;rw[if_neg h0];have:=a9u (w:=w.alloc (.cells #[] 41)) O L y;simpa using this
 obtain⟨N,w',l,T⟩:=l;have T:b5N w (.returned N) w' n vs:=T;clear I M x J;have a4:=b1V (some ⟨b,f,none⟩) n cap w
 go_enter Tryz.func47,Tryz.ntmps47
 go_wp2_with (at_builtin; refine Lib.wpList_append_run _ rfl _ _ 35 35 rfl _ _ rfl rfl _ _ l ?_)
 go_ret
 exact T
theorem b7c (gt:List (Nat×List AV)):Z6 Tryz.prog gt 47 (a2h 4 80):=by
 intro args st res st' h a4 g w vs l _ u;unfold a2h at h;split at h
 · simp only[Option.some.injEq,Prod.mk.injEq]at h;obtain⟨rfl,rfl⟩:=h;simp only[RelL]at u;obtain⟨v1,_,rfl,y,rfl⟩:=u;simp only[Rel]at y;subst y;refine(c6h w).mono fun e w' ⟨he,hw⟩=>?_
   subst hw;exact⟨_,g,he,l,Tr.refl _ _ _,ValOK.mk' (by simp[Rel]) (by simp) (by simp)⟩
 · rename_i o f n s;split at h
   case h_2=>cases h
   rename_i cs hx;split at h
   case isFalse=>cases h
   rename_i hc;obtain⟨rfl,a9,a7⟩:=hc;simp only[Option.some.injEq,Prod.mk.injEq]at h;obtain⟨rfl,rfl⟩:=h;simp only[RelL]at u;obtain⟨v1,_,rfl,y,rfl⟩:=u;simp only[Rel]at y;obtain⟨b2,cap,rfl,W,b0⟩:=y;obtain⟨a1,b1,arr,T,hh,L,M,Y⟩:=a7v (l.obj o _ hx);have a6:arr.toList.length=g.cp o:=by simpa using L
   have a5:cs.length≤arr.toList.length:=by have:=M.length; rw[List.length_take]at this; omega
   have a2:(((arr.toList.take cs.length).drop f).take (n*4)).length=n*4:=by simp only[List.length_take,List.length_drop]; omega
   have a0:RelL g w (((cs.drop f).take (n*4)).map AV.weak1) (((arr.toList.take cs.length).drop f).take (n*4)):=((M.drop f).take (n*4)).weak1;have Z:∀ v∈((arr.toList.take cs.length).drop f).take (n*4),v.oneCell'=true:=fun v hv=>Y v (List.mem_of_mem_drop (List.mem_of_mem_take hv))
   have J:(((cs.drop f).take (n*4)).map AV.weak1).length=n*4:=by simp; omega
   refine(c0p (g.m o) f n cap _ w W (by omega) a2 (fun j v I=>?_) (l.inn _ _ a1)).mono fun e w' O=>?_
   · rw[cell_of_row _ _ _ arr T _ hh];rw[List.getElem?_take]at I;split at I
     · rw[List.getElem?_drop,List.getElem?_take]at I;split at I
       · simpa using I
       · cases I
     · cases I
   · by_cases h0:n=0
     · subst h0;rw[b5N,if_pos rfl]at O;rw[Nat.zero_mul,List.take_zero,List.map_nil];exact a2p l (od:=none) O (by simp[RelL]) (by simp) (by simp) rfl (fun f C=>Nat.lt_irrefl _ (l.cli _ f C)) (.inl rfl)
     · rw[b5N,if_neg h0]at O;have U:Ext g w g (w.alloc (.cells #[] 41)):=⟨Nat.le_refl _,fun _ _=>rfl,fun _ _=>rfl,fun _ _ h=>h,fun b f C=>World.cell?_alloc_lt _ _ _ (l.cli b f C)⟩;have N:SRel g (w.alloc (.cells #[] 41)) st:=l.evolve U rfl (by simp) (fun b q hq=>⟨hq,heap_alloc_old w _ (l.inn b q hq),fun _ x=>x⟩) (fun _ _ x=>x) (fun b f C=>.inl C);refine CallPost.pre (w1:=w.alloc (.cells #[] 41)) ⟨U,by simp,Env.alloc w _ (by intro c t z e; cases e; rfl),fun b hb hs _=>⟨⟨heap_alloc_old w _ hb,fun _ x=>x⟩,hs⟩⟩ ?_;refine a2p N (od:=none) (bb:=w.heap.size+1) O (a0.ext U _ _) Z a0h J (fun f C=>?_) (.inl (by simp));have:=l.cli _ f C;omega
 · cases h
end Go.Cb.CodeA
