import Derived.Test.YtgaibigpannjfaaGreatDoorIns
set_option maxRecDepth 100000
set_option linter.all false
namespace Go.Cb.CodeA
open Go Go.Cb Go.Proofs Go.RowKit Go.Shelf
noncomputable def CxA (A:Nat→Prop):Go.Cb.Cx:=⟨Tryz.prog,[],[],0,[],A⟩
abbrev a7w (od:Option Nat) (st:St):St:=match od with
 | some o=>st.set o .dead
 | none=>st
theorem a4q (od:Option Nat) (st:St):(a7w od st).length=st.length:=by cases od<;>simp[a7w]
theorem a2h {g:Gh} {w:World} {st:St} (l:SRel g w st) {od:Option Nat} {bb n:Nat} {vs:List Value} {cs:List AV} {e:Ending} {w':World} (h:I3 w e w' n bb vs) (I:RelL g w cs vs) (G:∀ v∈vs,v.oneCell'=true)
 (Y:∀ c∈cs,c.weak1=c) (B:cs.length=n*4) (E:∀ f,¬ g.cl bb f) (U:bb=w.heap.size∨∃ o,od=some o∧g.sr bb=some (o,none)):CallPost g w (a7w od st++[.cells cs]) (.sl st.length 0 n 4) e w':=by
 obtain⟨cap,arr,T,rfl,hh,hs,W,J,F,X,O,C⟩:=h;let A:Nat→Prop:=fun b=>w.heap.size≤b∨g.sr b≠none
 have hS:S (CxA A) g w (fun _=>none) (fun _=>0) ⟨[],fun _=>.undef,st⟩ { tmps:=#[],defers:=[] }:=by refine⟨⟨rfl,rfl,fun i s hs=>(by simp[CxA]at hs),fun s _=>ValOK.undef,fun b p u=>(by cases u),fun i cs hi=>(by simp at hi)⟩,l,fun e V=>(by simp[CxA]at V),fun b u=>.inl u,fun b p u=>.inr (by rw[u]; simp)⟩
 have y:∀ (x:Nat) (L:Cb.Obj),¬ x < st.length→(a7w od st++[Cb.Obj.cells cs])[x]?=some L→x=g.n∧L=.cells cs:=by
  intro x L a0 j;rw[List.getElem?_append_right (by rw[a4q]; omega),a4q]at j;have Z:x - st.length=0:=by
   rcases Nat.eq_zero_or_pos (x - st.length)with h0|h0
   · exact h0
   · rw[List.getElem?_eq_none (by simp; omega)]at j; cases j
  rw[Z]at j;simp at j;have:=l.n;exact⟨by omega,j.symm⟩
 obtain⟨N,t⟩:=c2n hS (od:=od) (bb:=bb) (cpv:=arr.size) (cs:=cs) (st2:=a7w od st++[.cells cs]) C X O F E U (by rw[List.length_append,a4q,l.n]; rfl)
  (fun x L j=>by
   by_cases z:x < st.length
   · rw[List.getElem?_append_left (by rw[a4q]; exact z)]at j;cases od with
     | none=>exact .inr (.inr ⟨j,by simp⟩)
     | some M =>
      by_cases ex:M=x
      · subst ex;rw[show a7w (some M) st=st.set M .dead from rfl,List.getElem?_set_self z]at j;exact .inr (.inl (Option.some.inj j).symm)
      · rw[show a7w (some M) st=st.set M .dead from rfl,List.getElem?_set_ne ex]at j;exact .inr (.inr ⟨j,by simpa using ex⟩)
   · exact .inl (y x L z j))
  (fun V=>by
   refine⟨by simp[Gh.grow],fun f hf=>?_,arr,T,by simp only[Gh.grow,if_true]; exact hh,by simp[Gh.grow],?_,?_,fun k x v hk hv xs ex=>?_⟩
   · simp only[Gh.grow,if_true]at hf;exact E f hf
   · rw[B,J]; exact I.ext V _ _
   · rw[B,J]; exact G
   · subst ex;have:=Y _ (List.mem_of_getElem? hk);simp[AV.weak1]at this)
 refine⟨_,_,rfl,N.st,⟨t.ext,t.size,t.env,fun b u hs _=>t.keep b u hs fun hA=>?_⟩,?_⟩
 · rcases hA with hA|hA
   · omega
   · exact hA hs
 · refine ValOK.mk' ?_ (by simp) (by simp);simp only[Rel];rw[← l.n];exact⟨by simp[Gh.grow],cap,by simp[Gh.grow],W,by simp[Gh.grow,hs]⟩
theorem a7n {g:Gh} {w:World} {o:Nat} {cs:List AV} (h:ObjOK g w o (.cells cs)):g.sr (g.m o)=some (o,none)∧(∀ f,¬ g.cl (g.m o) f)∧∃ arr T,w.heap[g.m o]?=some (.cells arr T (0,0))∧arr.size=g.cp o∧RelL g w cs (arr.toList.take cs.length)∧(∀ c∈arr.toList.take cs.length,c.oneCell'=true):=by obtain⟨i,j,arr,T,l,t,u,x,_⟩:=h;exact⟨i,j,arr,T,l,t,u,x⟩
theorem a0C {cs:List AV}:∀ c∈cs.map AV.weak1,c.weak1=c:=fun c i=>by obtain⟨d,_,rfl⟩:=List.mem_map.1 i;cases d<;>rfl
theorem b0m {g:Gh} {w:World} {own:Bool} {row:List AV} {v:Value} (h:Rel g w (.list own [row]) v) (C:row.length=4):∃ y z M vs,v=.slice (some (ad y z)) 1 M∧vs.length=4∧RelL g w row vs∧(∀ u∈vs,u.oneCell'=true)∧(∀ (j:Nat) (u:Value),vs[j]?=some u→w.cell? (ad y (z+j))=some u)∧g.cl y z:=by
 simp only[Rel]at h;obtain⟨a,n,cap,rfl,rfl,N,hn,E⟩:=h;obtain⟨b,f,F,rfl,l⟩:=E (by simp);simp only[RelRows]at l;obtain⟨hl,i,_⟩:=l;have x:RelRows g w b f F [row]:=by simp only[RelRows]; exact⟨hl,i,trivial⟩
 obtain⟨us,G,I,J,L,_⟩:=x.vals;have t:g.cl b f:=by
  cases row with
  | nil=>simp at C
  | cons c cs =>simp only[RelCells]at i;obtain⟨⟨_,_,_,h,_⟩,_⟩:=i;exact h
 refine⟨b,f,cap,us,rfl,by rw[G]; simp; omega,by simpa using I,L,fun j u B=>J j u B,t⟩
theorem b71 (gt:List (Nat×List AV)):L9 Tryz.prog gt 38 (O8 4 80):=by
 intro args st res st' h b1 g w vs l _ j;unfold O8 at h;split at h
 · rename_i i own row;split at h
   case isFalse=>cases h
   rename_i hc;obtain⟨rfl,hr⟩:=hc;simp only[Option.some.injEq,Prod.mk.injEq]at h;obtain⟨rfl,rfl⟩:=h;simp only[RelL]at j;obtain⟨v1,_,rfl,B,v2,_,rfl,C,v3,_,rfl,S,rfl⟩:=j;simp only[Rel]at B C;subst B; subst C;obtain⟨U,V,vc,us,rfl,z,O,t,y,G⟩:=b0m S hr;have Y:(M7 4 0 [] row).length=1*4:=by simp[M7,hr]
   refine(c2Y U V vc us w z y).mono fun e w' x=>a2h l (od:=none) x (by simpa[M7]using O.weak1) t (by unfold M7; exact a0C) Y (fun f hf=>Nat.lt_irrefl _ (l.cli _ f hf)) (.inl rfl)
 · rename_i o n s i own row;split at h
   case h_2=>cases h
   rename_i cs hx;split at h
   case isFalse=>cases h
   rename_i hc;obtain⟨rfl,h0,b4,G,hr,b2⟩:=hc;simp only[Option.some.injEq,Prod.mk.injEq]at h;obtain⟨rfl,rfl⟩:=h;simp only[RelL]at j;obtain⟨v1,_,rfl,B,v2,_,rfl,C,v3,_,rfl,S,rfl⟩:=j;simp only[Rel]at B C;subst C;obtain⟨b5,cap,rfl,X,b3⟩:=B;obtain⟨U,V,vc,us,rfl,z,O,t,y,F⟩:=b0m S hr;obtain⟨a2,Z,arr,T,hh,W,L,u⟩:=a7n (l.obj o _ hx);obtain⟨k,rfl⟩:∃ k:Nat,i=k:=⟨i.toNat,by omega⟩
   have hk:k≤n:=by omega
   have N:arr.size=cap*4:=by rw[W]; omega
   have b0:U≠g.m o:=fun e=>Z V (e ▸ F)
   rw[G]at L u;have a1:(M7 4 k cs row).length=(n+1)*4:=by simp[M7,hr,G]; omega
   have J:RelL g w (M7 4 k cs row) (arr.toList.take (k*4)++us++(arr.toList.take (n*4)).drop (k*4)):=by unfold M7;have:=((L.take (k*4)).append O).append (L.drop (k*4));rw[List.take_take,Nat.min_eq_left (by omega)]at this;exact this.weak1
   have I:∀ v∈arr.toList.take (k*4)++us++(arr.toList.take (n*4)).drop (k*4),v.oneCell'=true:=by
    intro v hv;simp only[List.mem_append]at hv;rcases hv with(hv|hv)|hv
    · exact u v (by
       have:arr.toList.take (k*4)=(arr.toList.take (n*4)).take (k*4):=by rw[List.take_take,Nat.min_eq_left (by omega)]
       rw[this]at hv;exact List.mem_of_mem_take hv)
    · exact t v hv
    · exact u v (List.mem_of_mem_drop hv)
   have fin:∀ bb,(bb=g.m o∨bb=w.heap.size)→∀ e w',I3 w e w' (n+1) bb (arr.toList.take (k*4)++us++(arr.toList.take (n*4)).drop (k*4))→CallPost g w (st.set o .dead++[.cells (M7 4 k cs row)]) (.sl st.length 0 (n+1) 4) e w':=by
    intro bb E e w' x;refine a2h l (od:=some o) x J I (by unfold M7; exact a0C) a1 ?_ ?_
    · rcases E with rfl|rfl
      · exact Z
      · exact fun f hf=>Nat.lt_irrefl _ (l.cli _ f hf)
    · rcases E with rfl|rfl
      · exact .inr ⟨o,rfl,a2⟩
      · exact .inl rfl
   rw[Int.toNat_natCast];by_cases a0:k=n
   · subst a0;refine(c5E (g.m o) k cap U V vc arr T us w X (by omega) hh N z y t).mono fun e w' x=>?_
     obtain⟨bb,E,x⟩:=x;refine fin bb E e w' ?_;rw[List.drop_of_length_le (by simp; omega),List.append_nil];exact x
   · by_cases M:n+1≤cap
     · exact(b9Z (g.m o) n cap k U V vc arr T us w (by omega) M (by omega) b0 hh N z y u t).mono fun e w' x=>fin _ (.inl rfl) e w' x
     · exact(b9U (g.m o) n cap k U V vc arr T us w (by omega) X (by omega) (by omega) (l.cli _ _ F) hh N z y u t).mono fun e w' x=>fin _ (.inr rfl) e w' x
 · cases h
theorem b1K (a:Option Addr) (n c:Nat) (w:World):Sem.run Tryz.prog (binOp BinOp.eql 29 (Value.slice a n c) (Value.slice none 0 0)) w=.ok (.bool a.isNone) w:=by
 have i:(Op.equal 29 (.slice a n c) (.slice none 0 0)).run Tryz.prog w=.ok a.isNone w:=by rw[U5,Op.equalIn,Sem.run_bind,run_underlying Tryz.underlying29,Result.andThen_ok];cases a<;>rfl
 simp only[binOp,Sem.run_bind,i,Result.andThen_ok,Sem.run_pure]
set_option maxHeartbeats 4000000 in
theorem c67 (w:World):Calls Tryz.prog 21 #[.slice none 0 0] w fun e w'=>e=.returned (.slice none 0 0)∧w'=w:=by
 have t0:=Tryz.underlying0;have t35:=Tryz.underlying29;have i:=b1K none 0 0 w
 go_enter Tryz.func21,Tryz.ntmps21
 go_wp2
 go_ret
 exact⟨rfl,rfl⟩
theorem CallPost.pre {g:Gh} {w w1 w':World} {st':St} {a b c d:Nat} {e:Ending} (t:Tr No g w g w1) (h:CallPost g w1 st' (.sl a b c d) e w'):CallPost g w st' (.sl a b c d) e w':=by obtain⟨v,g',l,j,i,u⟩:=h;exact⟨v,g',l,j,t.trans i,ValOK.mk' u.rel (by simp) (by simp)⟩
def b6h (w:World) (e:Ending) (w':World) (n:Nat) (vs:List Value):Prop:=if n=0 then I3 w e w' 0 w.heap.size []else I3 (w.alloc (.cells #[] 58)) e w' n (w.heap.size+1) vs
set_option maxHeartbeats 4000000 in
theorem c1m (b f n cap:Nat) (vs:List Value) (w:World) (Y:n≤cap) (hn:n*80≤140737488355328) (N:vs.length=n*4) (O:∀ j v,vs[j]?=some v→w.cell? (ad b (f+j))=some v) (X:b < w.heap.size) :
 Calls Tryz.prog 21 #[.slice (some ⟨b,f,none⟩) n cap] w fun e w'=>b6h w e w' n vs:=by
 have t0:=Tryz.underlying0;have t35:=Tryz.underlying29;obtain⟨i0,y,F,l,B⟩:=info_parts a4S;have i:∃ G w',(Builtin.append_ #[29,29] 29 #[.slice (some ⟨w.heap.size,0,none⟩) 0 0,.slice (some ⟨b,f,none⟩) n cap]).run Tryz.prog (w.alloc (.cells #[] 58))=.ok G w'∧(if n=0 then I3 w (.returned G) w' 0 w.heap.size []else I3 (w.alloc (.cells #[] 58)) (.returned G) w' n (w.heap.size+1) vs):=by
  by_cases U:n=0
  · subst U;refine⟨_,_,P8 (P:=Tryz.prog) (w:=w.alloc (.cells #[] 58)) 29 29 58 i0 Tryz.underlying29 y (some ⟨w.heap.size,0,none⟩) (some ⟨b,f,none⟩) 0 0 cap (Nat.le_refl _),?_⟩;rw[if_pos rfl];exact⟨0,#[],58,rfl,heap_alloc_new w _,rfl,Nat.le_refl _,rfl,fun b' _ L=>heap_alloc_old w _ L,by simp,by simp,Env.alloc w _ (by intro c t z e; cases e; rfl)⟩
  · obtain⟨C,S,W,I,E,x,_⟩:=Z5 (c:=CxE) (w:=w.alloc (.cells #[] 58)) (t:=29) (ty:=29) Tryz.underlying29 y F (by rw[l]; rfl) (by rw[B]; decide) (a0:=some (ad w.heap.size 0)) (n:=0) (cap:=0) (m:=n) (c1:=cap) (us:=[]) (vs:=vs) (a1:=ad b f)
     (fun h=>by cases h) (Nat.le_refl _) (by simp) (fun Z _ j u M=>by simp at M) (by rw[l,N]) (fun j u M=>by rw[Addr.add_ad]; rw[World.cell?_of_block (w:=w) (heap_alloc_old w _ X)]; exact O j u M) (by omega) (by omega) (by rw[B]; omega)
    rw[l]at I E;simp only[Nat.zero_add,List.nil_append]at I x W;refine⟨_,_,W,?_⟩;rw[if_neg U];have:=a8g (w:=w.alloc (.cells #[] 58)) I E x;simpa using this
 obtain⟨G,w',i,J⟩:=i;have J:b6h w (.returned G) w' n vs:=J;clear y F l B;have V:=b1K (some ⟨b,f,none⟩) n cap w
 go_enter Tryz.func21,Tryz.ntmps21
 go_wp2_with (at_builtin; refine Lib.wpList_append_run _ rfl _ _ 29 29 rfl _ _ rfl rfl _ _ i ?_)
 go_ret
 exact J
theorem b7y (gt:List (Nat×List AV)):L9 Tryz.prog gt 21 (Z9 4 80):=by
 intro args st res st' h V g w vs i _ l;unfold Z9 at h;split at h
 · simp only[Option.some.injEq,Prod.mk.injEq]at h;obtain⟨rfl,rfl⟩:=h;simp only[RelL]at l;obtain⟨v1,_,rfl,u,rfl⟩:=l;simp only[Rel]at u;subst u;refine(c67 w).mono fun e w' ⟨he,hw⟩=>?_
   subst hw;exact⟨_,g,he,i,Tr.refl _ _ _,ValOK.mk' (by simp[Rel]) (by simp) (by simp)⟩
 · rename_i o f n s;split at h
   case h_2=>cases h
   rename_i cs hx;split at h
   case isFalse=>cases h
   rename_i hc;obtain⟨rfl,a1,a0⟩:=hc;simp only[Option.some.injEq,Prod.mk.injEq]at h;obtain⟨rfl,rfl⟩:=h;simp only[RelL]at l;obtain⟨v1,_,rfl,u,rfl⟩:=l;simp only[Rel]at u;obtain⟨b1,cap,rfl,L,a2⟩:=u;obtain⟨S,b0,arr,T,hh,E,F,M⟩:=a7n (i.obj o _ hx);have Z:arr.toList.length=g.cp o:=by simpa using E
   have X:cs.length≤arr.toList.length:=by have:=F.length; rw[List.length_take]at this; omega
   have U:(((arr.toList.take cs.length).drop f).take (n*4)).length=n*4:=by simp only[List.length_take,List.length_drop]; omega
   have O:RelL g w (((cs.drop f).take (n*4)).map AV.weak1) (((arr.toList.take cs.length).drop f).take (n*4)):=((F.drop f).take (n*4)).weak1;have N:∀ v∈((arr.toList.take cs.length).drop f).take (n*4),v.oneCell'=true:=fun v hv=>M v (List.mem_of_mem_drop (List.mem_of_mem_take hv))
   have C:(((cs.drop f).take (n*4)).map AV.weak1).length=n*4:=by simp; omega
   refine(c1m (g.m o) f n cap _ w L (by omega) U (fun j v B=>?_) (i.inn _ _ S)).mono fun e w' I=>?_
   · rw[cell_of_row _ _ _ arr T _ hh];rw[List.getElem?_take]at B;split at B
     · rw[List.getElem?_drop,List.getElem?_take]at B;split at B
       · simpa using B
       · cases B
     · cases B
   · by_cases W:n=0
     · subst W;rw[b6h,if_pos rfl]at I;rw[Nat.zero_mul,List.take_zero,List.map_nil];exact a2h i (od:=none) I (by simp[RelL]) (by simp) (by simp) rfl (fun f y=>Nat.lt_irrefl _ (i.cli _ f y)) (.inl rfl)
     · rw[b6h,if_neg W]at I;have J:Ext g w g (w.alloc (.cells #[] 58)):=⟨Nat.le_refl _,fun _ _=>rfl,fun _ _=>rfl,fun _ _ h=>h,fun b f y=>World.cell?_alloc_lt _ _ _ (i.cli b f y)⟩;have G:SRel g (w.alloc (.cells #[] 58)) st:=i.evolve J rfl (by simp) (fun b q Y=>⟨Y,heap_alloc_old w _ (i.inn b q Y),fun _ x=>x⟩) (fun _ _ x=>x) (fun b f y=>.inl y);refine CallPost.pre (w1:=w.alloc (.cells #[] 58)) ⟨J,by simp,Env.alloc w _ (by intro c t z e; cases e; rfl),fun b hb hs _=>⟨⟨heap_alloc_old w _ hb,fun _ x=>x⟩,hs⟩⟩ ?_;refine a2h G (od:=none) (bb:=w.heap.size+1) I (O.ext J _ _) N a0C C (fun f y=>?_) (.inl (by simp));have:=i.cli _ f y;omega
 · cases h
end Go.Cb.CodeA
