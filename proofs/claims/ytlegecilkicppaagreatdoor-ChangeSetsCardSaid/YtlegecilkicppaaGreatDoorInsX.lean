import Derived.Test.YtlegecilkicppaaGreatDoorIns
set_option maxRecDepth 100000
set_option linter.all false
namespace Go.Cb.CodeA
open Go Go.Cb Go.Proofs Go.RowKit Go.Shelf
noncomputable def CxA (A:Nat→Prop):Go.Cb.Cx:=⟨Tryz.prog,[],[],0,[],A⟩
abbrev a5x (od:Option Nat) (st:St):St:=match od with
 | some o=>st.set o .dead
 | none=>st
theorem a2R (od:Option Nat) (st:St):(a5x od st).length=st.length:=by cases od<;>simp[a5x]
theorem a1B {g:Gh} {w:World} {st:St} (l:SRel g w st) {od:Option Nat} {bb n:Nat} {vs:List Value} {cs:List AV} {e:Ending} {w':World} (h:D8 w e w' n bb vs) (G:RelL g w cs vs) (F:∀ v∈vs,v.oneCell'=true)
 (Y:∀ c∈cs,c.weak1=c) (B:cs.length=n*4) (D:∀ f,¬ g.cl bb f) (R:bb=w.heap.size∨∃ o,od=some o∧g.sr bb=some (o,none)):CallPost g w (a5x od st++[.cells cs]) (.sl st.length 0 n 4) e w':=by
 obtain⟨cap,arr,T,rfl,hh,hs,V,I,E,W,O,C⟩:=h;let A:Nat→Prop:=fun b=>w.heap.size≤b∨g.sr b≠none
 have hS:S (CxA A) g w (fun _=>none) (fun _=>0) ⟨[],fun _=>.undef,st⟩ { tmps:=#[],defers:=[] }:=by refine⟨⟨rfl,rfl,fun i s hs=>(by simp[CxA]at hs),fun s _=>ValOK.undef,fun b p u=>(by cases u),fun i cs hi=>(by simp at hi)⟩,l,fun e U=>(by simp[CxA]at U),fun b u=>.inl u,fun b p u=>.inr (by rw[u]; simp)⟩
 have y:∀ (x:Nat) (J:Cb.Obj),¬ x < st.length→(a5x od st++[Cb.Obj.cells cs])[x]?=some J→x=g.n∧J=.cells cs:=by
  intro x J a0 j;rw[List.getElem?_append_right (by rw[a2R]; omega),a2R]at j;have Z:x - st.length=0:=by
   rcases Nat.eq_zero_or_pos (x - st.length)with h0|h0
   · exact h0
   · rw[List.getElem?_eq_none (by simp; omega)]at j; cases j
  rw[Z]at j;simp at j;have:=l.n;exact⟨by omega,j.symm⟩
 obtain⟨N,t⟩:=c0f hS (od:=od) (bb:=bb) (cpv:=arr.size) (cs:=cs) (st2:=a5x od st++[.cells cs]) C W O E D R (by rw[List.length_append,a2R,l.n]; rfl)
  (fun x J j=>by
   by_cases z:x < st.length
   · rw[List.getElem?_append_left (by rw[a2R]; exact z)]at j;cases od with
     | none=>exact .inr (.inr ⟨j,by simp⟩)
     | some M =>
      by_cases ex:M=x
      · subst ex;rw[show a5x (some M) st=st.set M .dead from rfl,List.getElem?_set_self z]at j;exact .inr (.inl (Option.some.inj j).symm)
      · rw[show a5x (some M) st=st.set M .dead from rfl,List.getElem?_set_ne ex]at j;exact .inr (.inr ⟨j,by simpa using ex⟩)
   · exact .inl (y x J z j))
  (fun U=>by
   refine⟨by simp[Gh.grow],fun f hf=>?_,arr,T,by simp only[Gh.grow,if_true]; exact hh,by simp[Gh.grow],?_,?_,fun k x v hk hv xs ex=>?_⟩
   · simp only[Gh.grow,if_true]at hf;exact D f hf
   · rw[B,I]; exact G.ext U _ _
   · rw[B,I]; exact F
   · subst ex;have:=Y _ (List.mem_of_getElem? hk);simp[AV.weak1]at this)
 refine⟨_,_,rfl,N.st,⟨t.ext,t.size,t.env,fun b u hs _=>t.keep b u hs fun hA=>?_⟩,?_⟩
 · rcases hA with hA|hA
   · omega
   · exact hA hs
 · refine ValOK.mk' ?_ (by simp) (by simp);simp only[Rel];rw[← l.n];exact⟨by simp[Gh.grow],cap,by simp[Gh.grow],V,by simp[Gh.grow,hs]⟩
theorem a5M {g:Gh} {w:World} {o:Nat} {cs:List AV} (h:ObjOK g w o (.cells cs)):g.sr (g.m o)=some (o,none)∧(∀ f,¬ g.cl (g.m o) f)∧∃ arr T,w.heap[g.m o]?=some (.cells arr T (0,0))∧arr.size=g.cp o∧RelL g w cs (arr.toList.take cs.length)∧(∀ c∈arr.toList.take cs.length,c.oneCell'=true):=by obtain⟨i,j,arr,T,l,t,u,x,_⟩:=h;exact⟨i,j,arr,T,l,t,u,x⟩
theorem X7 {cs:List AV}:∀ c∈cs.map AV.weak1,c.weak1=c:=fun c i=>by obtain⟨d,_,rfl⟩:=List.mem_map.1 i;cases d<;>rfl
theorem a8w {g:Gh} {w:World} {own:Bool} {row:List AV} {v:Value} (h:Rel g w (.list own [row]) v) (C:row.length=4):∃ y z M vs,v=.slice (some (ad y z)) 1 M∧vs.length=4∧RelL g w row vs∧(∀ u∈vs,u.oneCell'=true)∧(∀ (j:Nat) (u:Value),vs[j]?=some u→w.cell? (ad y (z+j))=some u)∧g.cl y z:=by
 simp only[Rel]at h;obtain⟨a,n,cap,rfl,rfl,N,hn,D⟩:=h;obtain⟨b,f,E,rfl,l⟩:=D (by simp);simp only[RelRows]at l;obtain⟨hl,i,_⟩:=l;have x:RelRows g w b f E [row]:=by simp only[RelRows]; exact⟨hl,i,trivial⟩
 obtain⟨us,F,G,I,J,_⟩:=x.vals;have t:g.cl b f:=by
  cases row with
  | nil=>simp at C
  | cons c cs =>simp only[RelCells]at i;obtain⟨⟨_,_,_,h,_⟩,_⟩:=i;exact h
 refine⟨b,f,cap,us,rfl,by rw[F]; simp; omega,by simpa using G,J,fun j u B=>I j u B,t⟩
theorem b6B (gt:List (Nat×List AV)):G3 Tryz.prog gt 40 (J6 4 80):=by
 intro args st res st' h b1 g w vs l _ j;unfold J6 at h;split at h
 · rename_i i own row;split at h
   case isFalse=>cases h
   rename_i hc;obtain⟨rfl,hr⟩:=hc;simp only[Option.some.injEq,Prod.mk.injEq]at h;obtain⟨rfl,rfl⟩:=h;simp only[RelL]at j;obtain⟨v1,_,rfl,B,v2,_,rfl,C,v3,_,rfl,R,rfl⟩:=j;simp only[Rel]at B C;subst B; subst C;obtain⟨S,U,vc,us,rfl,z,O,t,y,F⟩:=a8w R hr;have Y:(G9 4 0 [] row).length=1*4:=by simp[G9,hr]
   refine(c2L S U vc us w z y).mono fun e w' x=>a1B l (od:=none) x (by simpa[G9]using O.weak1) t (by unfold G9; exact X7) Y (fun f hf=>Nat.lt_irrefl _ (l.cli _ f hf)) (.inl rfl)
 · rename_i o n s i own row;split at h
   case h_2=>cases h
   rename_i cs hx;split at h
   case isFalse=>cases h
   rename_i hc;obtain⟨rfl,h0,b4,F,hr,b2⟩:=hc;simp only[Option.some.injEq,Prod.mk.injEq]at h;obtain⟨rfl,rfl⟩:=h;simp only[RelL]at j;obtain⟨v1,_,rfl,B,v2,_,rfl,C,v3,_,rfl,R,rfl⟩:=j;simp only[Rel]at B C;subst C;obtain⟨b5,cap,rfl,W,b3⟩:=B;obtain⟨S,U,vc,us,rfl,z,O,t,y,E⟩:=a8w R hr;obtain⟨a2,Z,arr,T,hh,V,J,u⟩:=a5M (l.obj o _ hx);obtain⟨k,rfl⟩:∃ k:Nat,i=k:=⟨i.toNat,by omega⟩
   have hk:k≤n:=by omega
   have N:arr.size=cap*4:=by rw[V]; omega
   have b0:S≠g.m o:=fun e=>Z U (e ▸ E)
   rw[F]at J u;have a1:(G9 4 k cs row).length=(n+1)*4:=by simp[G9,hr,F]; omega
   have I:RelL g w (G9 4 k cs row) (arr.toList.take (k*4)++us++(arr.toList.take (n*4)).drop (k*4)):=by unfold G9;have:=((J.take (k*4)).append O).append (J.drop (k*4));rw[List.take_take,Nat.min_eq_left (by omega)]at this;exact this.weak1
   have G:∀ v∈arr.toList.take (k*4)++us++(arr.toList.take (n*4)).drop (k*4),v.oneCell'=true:=by
    intro v hv;simp only[List.mem_append]at hv;rcases hv with(hv|hv)|hv
    · exact u v (by
       have:arr.toList.take (k*4)=(arr.toList.take (n*4)).take (k*4):=by rw[List.take_take,Nat.min_eq_left (by omega)]
       rw[this]at hv;exact List.mem_of_mem_take hv)
    · exact t v hv
    · exact u v (List.mem_of_mem_drop hv)
   have fin:∀ bb,(bb=g.m o∨bb=w.heap.size)→∀ e w',D8 w e w' (n+1) bb (arr.toList.take (k*4)++us++(arr.toList.take (n*4)).drop (k*4))→CallPost g w (st.set o .dead++[.cells (G9 4 k cs row)]) (.sl st.length 0 (n+1) 4) e w':=by
    intro bb D e w' x;refine a1B l (od:=some o) x I G (by unfold G9; exact X7) a1 ?_ ?_
    · rcases D with rfl|rfl
      · exact Z
      · exact fun f hf=>Nat.lt_irrefl _ (l.cli _ f hf)
    · rcases D with rfl|rfl
      · exact .inr ⟨o,rfl,a2⟩
      · exact .inl rfl
   rw[Int.toNat_natCast];by_cases a0:k=n
   · subst a0;refine(c4d (g.m o) k cap S U vc arr T us w W (by omega) hh N z y t).mono fun e w' x=>?_
     obtain⟨bb,D,x⟩:=x;refine fin bb D e w' ?_;rw[List.drop_of_length_le (by simp; omega),List.append_nil];exact x
   · by_cases M:n+1≤cap
     · exact(b79 (g.m o) n cap k S U vc arr T us w (by omega) M (by omega) b0 hh N z y u t).mono fun e w' x=>fin _ (.inl rfl) e w' x
     · exact(b7e (g.m o) n cap k S U vc arr T us w (by omega) W (by omega) (by omega) (l.cli _ _ E) hh N z y u t).mono fun e w' x=>fin _ (.inr rfl) e w' x
 · cases h
theorem a9i (a:Option Addr) (n c:Nat) (w:World):Sem.run Tryz.prog (binOp BinOp.eql 28 (Value.slice a n c) (Value.slice none 0 0)) w=.ok (.bool a.isNone) w:=by
 have i:(Op.equal 28 (.slice a n c) (.slice none 0 0)).run Tryz.prog w=.ok a.isNone w:=by rw[O6,Op.equalIn,Sem.run_bind,run_underlying Tryz.underlying28,Result.andThen_ok];cases a<;>rfl
 simp only[binOp,Sem.run_bind,i,Result.andThen_ok,Sem.run_pure]
set_option maxHeartbeats 4000000 in
theorem c3P (w:World):Calls Tryz.prog 22 #[.slice none 0 0] w fun e w'=>e=.returned (.slice none 0 0)∧w'=w:=by
 have t0:=Tryz.underlying0;have t35:=Tryz.underlying28;have i:=a9i none 0 0 w
 go_enter Tryz.func22,Tryz.ntmps22
 go_wp2
 go_ret
 exact⟨rfl,rfl⟩
theorem CallPost.pre {g:Gh} {w w1 w':World} {st':St} {a b c d:Nat} {e:Ending} (t:Tr No g w g w1) (h:CallPost g w1 st' (.sl a b c d) e w'):CallPost g w st' (.sl a b c d) e w':=by obtain⟨v,g',l,j,i,u⟩:=h;exact⟨v,g',l,j,t.trans i,ValOK.mk' u.rel (by simp) (by simp)⟩
def b4x (w:World) (e:Ending) (w':World) (n:Nat) (vs:List Value):Prop:=if n=0 then D8 w e w' 0 w.heap.size []else D8 (w.alloc (.cells #[] 59)) e w' n (w.heap.size+1) vs
set_option maxHeartbeats 4000000 in
theorem b9g (b f n cap:Nat) (vs:List Value) (w:World) (W:n≤cap) (hn:n*80≤140737488355328) (N:vs.length=n*4) (O:∀ j v,vs[j]?=some v→w.cell? (ad b (f+j))=some v) (V:b < w.heap.size) :
 Calls Tryz.prog 22 #[.slice (some ⟨b,f,none⟩) n cap] w fun e w'=>b4x w e w' n vs:=by
 have t0:=Tryz.underlying0;have t35:=Tryz.underlying28;obtain⟨i0,y,E,l,B⟩:=info_parts a4l;have i:∃ F w',(Builtin.append_ #[28,28] 28 #[.slice (some ⟨w.heap.size,0,none⟩) 0 0,.slice (some ⟨b,f,none⟩) n cap]).run Tryz.prog (w.alloc (.cells #[] 59))=.ok F w'∧(if n=0 then D8 w (.returned F) w' 0 w.heap.size []else D8 (w.alloc (.cells #[] 59)) (.returned F) w' n (w.heap.size+1) vs):=by
  by_cases S:n=0
  · subst S;refine⟨_,_,R2 (P:=Tryz.prog) (w:=w.alloc (.cells #[] 59)) 28 28 59 i0 Tryz.underlying28 y (some ⟨w.heap.size,0,none⟩) (some ⟨b,f,none⟩) 0 0 cap (Nat.le_refl _),?_⟩;rw[if_pos rfl];exact⟨0,#[],59,rfl,heap_alloc_new w _,rfl,Nat.le_refl _,rfl,fun b' _ J=>heap_alloc_old w _ J,by simp,by simp,Env.alloc w _ (by intro c t z e; cases e; rfl)⟩
  · obtain⟨C,R,U,G,D,x,_⟩:=U2 (c:=CxE) (w:=w.alloc (.cells #[] 59)) (t:=28) (ty:=28) Tryz.underlying28 y E (by rw[l]; rfl) (by rw[B]; decide) (a0:=some (ad w.heap.size 0)) (n:=0) (cap:=0) (m:=n) (c1:=cap) (us:=[]) (vs:=vs) (a1:=ad b f)
     (fun h=>by cases h) (Nat.le_refl _) (by simp) (fun Y _ j u M=>by simp at M) (by rw[l,N]) (fun j u M=>by rw[Addr.add_ad]; rw[World.cell?_of_block (w:=w) (heap_alloc_old w _ V)]; exact O j u M) (by omega) (by omega) (by rw[B]; omega)
    rw[l]at G D;simp only[Nat.zero_add,List.nil_append]at G x U;refine⟨_,_,U,?_⟩;rw[if_neg S];have:=a6N (w:=w.alloc (.cells #[] 59)) G D x;simpa using this
 obtain⟨F,w',i,I⟩:=i;have I:b4x w (.returned F) w' n vs:=I;clear y E l B;have T:=a9i (some ⟨b,f,none⟩) n cap w
 go_enter Tryz.func22,Tryz.ntmps22
 go_wp2_with (at_builtin; refine Lib.wpList_append_run _ rfl _ _ 28 28 rfl _ _ rfl rfl _ _ i ?_)
 go_ret
 exact I
theorem b6t (gt:List (Nat×List AV)):G3 Tryz.prog gt 22 (T9 4 80):=by
 intro args st res st' h U g w vs i _ l;unfold T9 at h;split at h
 · simp only[Option.some.injEq,Prod.mk.injEq]at h;obtain⟨rfl,rfl⟩:=h;simp only[RelL]at l;obtain⟨v1,_,rfl,u,rfl⟩:=l;simp only[Rel]at u;subst u;refine(c3P w).mono fun e w' ⟨he,hw⟩=>?_
   subst hw;exact⟨_,g,he,i,Tr.refl _ _ _,ValOK.mk' (by simp[Rel]) (by simp) (by simp)⟩
 · rename_i o f n s;split at h
   case h_2=>cases h
   rename_i cs hx;split at h
   case isFalse=>cases h
   rename_i hc;obtain⟨rfl,a1,a0⟩:=hc;simp only[Option.some.injEq,Prod.mk.injEq]at h;obtain⟨rfl,rfl⟩:=h;simp only[RelL]at l;obtain⟨v1,_,rfl,u,rfl⟩:=l;simp only[Rel]at u;obtain⟨b1,cap,rfl,J,a2⟩:=u;obtain⟨R,b0,arr,T,hh,D,E,M⟩:=a5M (i.obj o _ hx);have Z:arr.toList.length=g.cp o:=by simpa using D
   have W:cs.length≤arr.toList.length:=by have:=E.length; rw[List.length_take]at this; omega
   have S:(((arr.toList.take cs.length).drop f).take (n*4)).length=n*4:=by simp only[List.length_take,List.length_drop]; omega
   have O:RelL g w (((cs.drop f).take (n*4)).map AV.weak1) (((arr.toList.take cs.length).drop f).take (n*4)):=((E.drop f).take (n*4)).weak1;have N:∀ v∈((arr.toList.take cs.length).drop f).take (n*4),v.oneCell'=true:=fun v hv=>M v (List.mem_of_mem_drop (List.mem_of_mem_take hv))
   have C:(((cs.drop f).take (n*4)).map AV.weak1).length=n*4:=by simp; omega
   refine(b9g (g.m o) f n cap _ w J (by omega) S (fun j v B=>?_) (i.inn _ _ R)).mono fun e w' G=>?_
   · rw[cell_of_row _ _ _ arr T _ hh];rw[List.getElem?_take]at B;split at B
     · rw[List.getElem?_drop,List.getElem?_take]at B;split at B
       · simpa using B
       · cases B
     · cases B
   · by_cases V:n=0
     · subst V;rw[b4x,if_pos rfl]at G;rw[Nat.zero_mul,List.take_zero,List.map_nil];exact a1B i (od:=none) G (by simp[RelL]) (by simp) (by simp) rfl (fun f y=>Nat.lt_irrefl _ (i.cli _ f y)) (.inl rfl)
     · rw[b4x,if_neg V]at G;have I:Ext g w g (w.alloc (.cells #[] 59)):=⟨Nat.le_refl _,fun _ _=>rfl,fun _ _=>rfl,fun _ _ h=>h,fun b f y=>World.cell?_alloc_lt _ _ _ (i.cli b f y)⟩;have F:SRel g (w.alloc (.cells #[] 59)) st:=i.evolve I rfl (by simp) (fun b q Y=>⟨Y,heap_alloc_old w _ (i.inn b q Y),fun _ x=>x⟩) (fun _ _ x=>x) (fun b f y=>.inl y);refine CallPost.pre (w1:=w.alloc (.cells #[] 59)) ⟨I,by simp,Env.alloc w _ (by intro c t z e; cases e; rfl),fun b hb hs _=>⟨⟨heap_alloc_old w _ hb,fun _ x=>x⟩,hs⟩⟩ ?_;refine a1B F (od:=none) (bb:=w.heap.size+1) G (O.ext I _ _) N X7 C (fun f y=>?_) (.inl (by simp));have:=i.cli _ f y;omega
 · cases h
end Go.Cb.CodeA
