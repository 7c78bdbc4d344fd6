import Derived.Test.YtdlgfdncpemcnaaGreatDoorIns
set_option maxRecDepth 100000
set_option linter.all false
namespace Go.Cb.CodeA
open Go Go.Cb Go.Proofs Go.RowKit Go.Shelf
noncomputable def CxA (A:Nat→Prop):Go.Cb.Cx:=⟨Tryz.prog,[],[],0,[],A⟩
abbrev a5t (od:Option Nat) (st:St):St:=match od with
 | some o=>st.set o .dead
 | none=>st
theorem a2J (od:Option Nat) (st:St):(a5t od st).length=st.length:=by cases od<;>simp[a5t]
theorem a1r {g:Gh} {w:World} {st:St} (l:SRel g w st) {od:Option Nat} {bb n:Nat} {vs:List Value} {cs:List AV} {e:Ending} {w':World} (h:D7 w e w' n bb vs) (I:RelL g w cs vs) (G:∀ v∈vs,v.oneCell'=true)
 (a0:∀ c∈cs,c.weak1=c) (B:cs.length=n*4) (E:∀ f,¬ g.cl bb f) (V:bb=w.heap.size∨∃ o,od=some o∧g.sr bb=some (o,none)):CallPost g w (a5t od st++[.cells cs]) (.sl st.length 0 n 4) e w':=by
 obtain⟨cap,arr,T,rfl,hh,hs,Y,J,F,Z,U,D⟩:=h;let A:Nat→Prop:=fun b=>w.heap.size≤b∨g.sr b≠none
 have hS:S (CxA A) g w (fun _=>none) (fun _=>0) ⟨[],fun _=>.undef,st⟩ { tmps:=#[],defers:=[] }:=by refine⟨⟨rfl,rfl,fun i s hs=>(by simp[CxA]at hs),fun s _=>ValOK.undef,fun b p u=>(by cases u),fun i cs hi=>(by simp at hi)⟩,l,fun e W=>(by simp[CxA]at W),fun b u=>.inl u,fun b p u=>.inr (by rw[u]; simp)⟩
 have y:∀ (x:Nat) (M:Cb.Obj),¬ x < st.length→(a5t od st++[Cb.Obj.cells cs])[x]?=some M→x=g.n∧M=.cells cs:=by
  intro x M a2 j;rw[List.getElem?_append_right (by rw[a2J]; omega),a2J]at j;have a1:x - st.length=0:=by
   rcases Nat.eq_zero_or_pos (x - st.length)with h0|h0
   · exact h0
   · rw[List.getElem?_eq_none (by simp; omega)]at j; cases j
  rw[a1]at j;simp at j;have:=l.n;exact⟨by omega,j.symm⟩
 obtain⟨O,t⟩:=c0B hS (od:=od) (bb:=bb) (cpv:=arr.size) (cs:=cs) (st2:=a5t od st++[.cells cs]) D Z U F E V (by rw[List.length_append,a2J,l.n]; rfl)
  (fun x M j=>by
   by_cases z:x < st.length
   · rw[List.getElem?_append_left (by rw[a2J]; exact z)]at j;cases od with
     | none=>exact .inr (.inr ⟨j,by simp⟩)
     | some N =>
      by_cases ex:N=x
      · subst ex;rw[show a5t (some N) st=st.set N .dead from rfl,List.getElem?_set_self z]at j;exact .inr (.inl (Option.some.inj j).symm)
      · rw[show a5t (some N) st=st.set N .dead from rfl,List.getElem?_set_ne ex]at j;exact .inr (.inr ⟨j,by simpa using ex⟩)
   · exact .inl (y x M z j))
  (fun W=>by
   refine⟨by simp[Gh.grow],fun f hf=>?_,arr,T,by simp only[Gh.grow,if_true]; exact hh,by simp[Gh.grow],?_,?_,fun k x v hk hv xs ex=>?_⟩
   · simp only[Gh.grow,if_true]at hf;exact E f hf
   · rw[B,J]; exact I.ext W _ _
   · rw[B,J]; exact G
   · subst ex;have:=a0 _ (List.mem_of_getElem? hk);simp[AV.weak1]at this)
 refine⟨_,_,rfl,O.st,⟨t.ext,t.size,t.env,fun b u hs _=>t.keep b u hs fun hA=>?_⟩,?_⟩
 · rcases hA with hA|hA
   · omega
   · exact hA hs
 · refine ValOK.mk' ?_ (by simp) (by simp);simp only[Rel];rw[← l.n];exact⟨by simp[Gh.grow],cap,by simp[Gh.grow],Y,by simp[Gh.grow,hs]⟩
theorem a5H {g:Gh} {w:World} {o:Nat} {cs:List AV} (h:ObjOK g w o (.cells cs)):g.sr (g.m o)=some (o,none)∧(∀ f,¬ g.cl (g.m o) f)∧∃ arr T,w.heap[g.m o]?=some (.cells arr T (0,0))∧arr.size=g.cp o∧RelL g w cs (arr.toList.take cs.length)∧(∀ c∈arr.toList.take cs.length,c.oneCell'=true):=by obtain⟨i,j,arr,T,l,t,u,v,_⟩:=h;exact⟨i,j,arr,T,l,t,u,v⟩
theorem X1 {cs:List AV}:∀ c∈cs.map AV.weak1,c.weak1=c:=fun c i=>by obtain⟨d,_,rfl⟩:=List.mem_map.1 i;cases d<;>rfl
theorem a9Y {g:Gh} {w:World} {own:Bool} {row:List AV} {v:Value} (h:Rel g w (.list own [row]) v) (D:row.length=4):∃ y z N vs,v=.slice (some (ad y z)) 1 N∧vs.length=4∧RelL g w row vs∧(∀ u∈vs,u.oneCell'=true)∧(∀ (j:Nat) (u:Value),vs[j]?=some u→w.cell? (ad y (z+j))=some u)∧g.cl y z:=by
 simp only[Rel]at h;obtain⟨a,n,cap,rfl,rfl,O,S,E⟩:=h;obtain⟨b,f,F,rfl,l⟩:=E (by simp);simp only[RelRows]at l;obtain⟨hl,i,_⟩:=l;have x:RelRows g w b f F [row]:=by simp only[RelRows]; exact⟨hl,i,trivial⟩
 obtain⟨us,G,I,J,M,_⟩:=x.vals;have t:g.cl b f:=by
  cases row with
  | nil=>simp at D
  | cons c cs =>simp only[RelCells]at i;obtain⟨⟨_,_,_,h,_⟩,_⟩:=i;exact h
 refine⟨b,f,cap,us,rfl,by rw[G]; simp; omega,by simpa using I,M,fun j u B=>J j u B,t⟩
theorem b6c (gt:List (Nat×List AV)):G1 Tryz.prog gt 39 (J6 4 80):=by
 intro args st res st' h b2 g w vs l _ j;unfold J6 at h;split at h
 · rename_i i own row;split at h
   case isFalse=>cases h
   rename_i hc;obtain⟨rfl,hr⟩:=hc;simp only[Option.some.injEq,Prod.mk.injEq]at h;obtain⟨rfl,rfl⟩:=h;simp only[RelL]at j;obtain⟨v1,_,rfl,B,v2,_,rfl,D,v3,_,rfl,U,rfl⟩:=j;simp only[Rel]at B D;subst B; subst D;obtain⟨V,W,vc,us,rfl,z,S,t,y,G⟩:=a9Y U hr;have a0:(G9 4 0 [] row).length=1*4:=by simp[G9,hr]
   refine(c4c V W vc us w z y).mono fun e w' x=>a1r l (od:=none) x (by simpa[G9]using S.weak1) t (by unfold G9; exact X1) a0 (fun f hf=>Nat.lt_irrefl _ (l.cli _ f hf)) (.inl rfl)
 · rename_i o n s i own row;split at h
   case h_2=>cases h
   rename_i cs hx;split at h
   case isFalse=>cases h
   rename_i hc;obtain⟨rfl,h0,b5,G,hr,b3⟩:=hc;simp only[Option.some.injEq,Prod.mk.injEq]at h;obtain⟨rfl,rfl⟩:=h;simp only[RelL]at j;obtain⟨v1,_,rfl,B,v2,_,rfl,D,v3,_,rfl,U,rfl⟩:=j;simp only[Rel]at B D;subst D;obtain⟨b6,cap,rfl,Z,b4⟩:=B;obtain⟨V,W,vc,us,rfl,z,S,t,y,F⟩:=a9Y U hr;obtain⟨b0,a1,arr,T,hh,Y,M,u⟩:=a5H (l.obj o _ hx);obtain⟨k,rfl⟩:∃ k:Nat,i=k:=⟨i.toNat,by omega⟩
   have hk:k≤n:=by omega
   have O:arr.size=cap*4:=by rw[Y]; omega
   have b1:V≠g.m o:=fun e=>a1 W (e ▸ F)
   rw[G]at M u;have a3:(G9 4 k cs row).length=(n+1)*4:=by simp[G9,hr,G]; omega
   have J:RelL g w (G9 4 k cs row) (arr.toList.take (k*4)++us++(arr.toList.take (n*4)).drop (k*4)):=by unfold G9;have:=((M.take (k*4)).append S).append (M.drop (k*4));rw[List.take_take,Nat.min_eq_left (by omega)]at this;exact this.weak1
   have I:∀ v∈arr.toList.take (k*4)++us++(arr.toList.take (n*4)).drop (k*4),v.oneCell'=true:=by
    intro v hv;simp only[List.mem_append]at hv;rcases hv with(hv|hv)|hv
    · exact u v (by
       have:arr.toList.take (k*4)=(arr.toList.take (n*4)).take (k*4):=by rw[List.take_take,Nat.min_eq_left (by omega)]
       rw[this]at hv;exact List.mem_of_mem_take hv)
    · exact t v hv
    · exact u v (List.mem_of_mem_drop hv)
   have fin:∀ bb,(bb=g.m o∨bb=w.heap.size)→∀ e w',D7 w e w' (n+1) bb (arr.toList.take (k*4)++us++(arr.toList.take (n*4)).drop (k*4))→CallPost g w (st.set o .dead++[.cells (G9 4 k cs row)]) (.sl st.length 0 (n+1) 4) e w':=by
    intro bb E e w' x;refine a1r l (od:=some o) x J I (by unfold G9; exact X1) a3 ?_ ?_
    · rcases E with rfl|rfl
      · exact a1
      · exact fun f hf=>Nat.lt_irrefl _ (l.cli _ f hf)
    · rcases E with rfl|rfl
      · exact .inr ⟨o,rfl,b0⟩
      · exact .inl rfl
   rw[Int.toNat_natCast];by_cases a2:k=n
   · subst a2;refine(c4y (g.m o) k cap V W vc arr T us w Z (by omega) hh O z y t).mono fun e w' x=>?_
     obtain⟨bb,E,x⟩:=x;refine fin bb E e w' ?_;rw[List.drop_of_length_le (by simp; omega),List.append_nil];exact x
   · by_cases N:n+1≤cap
     · exact(b8z (g.m o) n cap k V W vc arr T us w (by omega) N (by omega) b1 hh O z y u t).mono fun e w' x=>fin _ (.inl rfl) e w' x
     · exact(b7P (g.m o) n cap k V W vc arr T us w (by omega) Z (by omega) (by omega) (l.cli _ _ F) hh O z y u t).mono fun e w' x=>fin _ (.inr rfl) e w' x
 · cases h
theorem a9U (a:Option Addr) (n c:Nat) (w:World):Sem.run Tryz.prog (binOp BinOp.eql 27 (Value.slice a n c) (Value.slice none 0 0)) w=.ok (.bool a.isNone) w:=by
 have i:(Op.equal 27 (.slice a n c) (.slice none 0 0)).run Tryz.prog w=.ok a.isNone w:=by rw[P2,Op.equalIn,Sem.run_bind,run_underlying Tryz.underlying27,Result.andThen_ok];cases a<;>rfl
 simp only[binOp,Sem.run_bind,i,Result.andThen_ok,Sem.run_pure]
set_option maxHeartbeats 4000000 in
theorem c0P (w:World):Calls Tryz.prog 22 #[.slice none 0 0] w fun e w'=>e=.returned (.slice none 0 0)∧w'=w:=by
 have t0:=Tryz.underlying0;have t35:=Tryz.underlying27;have i:=a9U none 0 0 w
 go_enter Tryz.func22,Tryz.ntmps22
 go_wp2
 go_ret
 exact⟨rfl,rfl⟩
theorem CallPost.pre {g:Gh} {w w1 w':World} {st':St} {a b c d:Nat} {e:Ending} (t:Tr No g w g w1) (h:CallPost g w1 st' (.sl a b c d) e w'):CallPost g w st' (.sl a b c d) e w':=by obtain⟨v,g',l,j,i,u⟩:=h;exact⟨v,g',l,j,t.trans i,ValOK.mk' u.rel (by simp) (by simp)⟩
def b3q (w:World) (e:Ending) (w':World) (n:Nat) (vs:List Value):Prop:=if n=0 then D7 w e w' 0 w.heap.size []else D7 (w.alloc (.cells #[] 34)) e w' n (w.heap.size+1) vs
set_option maxHeartbeats 4000000 in
theorem b9f (b f n cap:Nat) (vs:List Value) (w:World) (Y:n≤cap) (hn:n*80≤140737488355328) (N:vs.length=n*4) (O:∀ j v,vs[j]?=some v→w.cell? (ad b (f+j))=some v) (W:b < w.heap.size) :
 Calls Tryz.prog 22 #[.slice (some ⟨b,f,none⟩) n cap] w fun e w'=>b3q w e w' n vs:=by
 have t0:=Tryz.underlying0;have t35:=Tryz.underlying27;obtain⟨i0,y,E,l,B⟩:=info_parts a3s;have i:∃ F w',(Builtin.append_ #[27,27] 27 #[.slice (some ⟨w.heap.size,0,none⟩) 0 0,.slice (some ⟨b,f,none⟩) n cap]).run Tryz.prog (w.alloc (.cells #[] 34))=.ok F w'∧(if n=0 then D7 w (.returned F) w' 0 w.heap.size []else D7 (w.alloc (.cells #[] 34)) (.returned F) w' n (w.heap.size+1) vs):=by
  by_cases T:n=0
  · subst T;refine⟨_,_,R6 (P:=Tryz.prog) (w:=w.alloc (.cells #[] 34)) 27 27 34 i0 Tryz.underlying27 y (some ⟨w.heap.size,0,none⟩) (some ⟨b,f,none⟩) 0 0 cap (Nat.le_refl _),?_⟩;rw[if_pos rfl];exact⟨0,#[],34,rfl,heap_alloc_new w _,rfl,Nat.le_refl _,rfl,fun b' _ J=>heap_alloc_old w _ J,by simp,by simp,Env.alloc w _ (by intro c t z e; cases e; rfl)⟩
  · obtain⟨C,S,V,G,D,x,_⟩:=U1 (c:=CxE) (w:=w.alloc (.cells #[] 34)) (t:=27) (ty:=27) Tryz.underlying27 y E (by rw[l]; rfl) (by rw[B]; decide) (a0:=some (ad w.heap.size 0)) (n:=0) (cap:=0) (m:=n) (c1:=cap) (us:=[]) (vs:=vs) (a1:=ad b f)
     (fun h=>by cases h) (Nat.le_refl _) (by simp) (fun Z _ j u M=>by simp at M) (by rw[l,N]) (fun j u M=>by rw[Addr.add_ad]; rw[World.cell?_of_block (w:=w) (heap_alloc_old w _ W)]; exact O j u M) (by omega) (by omega) (by rw[B]; omega)
    rw[l]at G D;simp only[Nat.zero_add,List.nil_append]at G x V;refine⟨_,_,V,?_⟩;rw[if_neg T];have:=a7n (w:=w.alloc (.cells #[] 34)) G D x;simpa using this
 obtain⟨F,w',i,I⟩:=i;have I:b3q w (.returned F) w' n vs:=I;clear y E l B;have U:=a9U (some ⟨b,f,none⟩) n cap w
 go_enter Tryz.func22,Tryz.ntmps22
 go_wp2_with (at_builtin; refine Lib.wpList_append_run _ rfl _ _ 27 27 rfl _ _ rfl rfl _ _ i ?_)
 go_ret
 exact I
theorem b6g (gt:List (Nat×List AV)):G1 Tryz.prog gt 22 (T4 4 80):=by
 intro args st res st' h W g w vs i _ l;unfold T4 at h;split at h
 · simp only[Option.some.injEq,Prod.mk.injEq]at h;obtain⟨rfl,rfl⟩:=h;simp only[RelL]at l;obtain⟨v1,_,rfl,u,rfl⟩:=l;simp only[Rel]at u;subst u;refine(c0P w).mono fun e w' ⟨he,hw⟩=>?_
   subst hw;exact⟨_,g,he,i,Tr.refl _ _ _,ValOK.mk' (by simp[Rel]) (by simp) (by simp)⟩
 · rename_i o f n s;split at h
   case h_2=>cases h
   rename_i cs hx;split at h
   case isFalse=>cases h
   rename_i hc;obtain⟨rfl,a2,a1⟩:=hc;simp only[Option.some.injEq,Prod.mk.injEq]at h;obtain⟨rfl,rfl⟩:=h;simp only[RelL]at l;obtain⟨v1,_,rfl,u,rfl⟩:=l;simp only[Rel]at u;obtain⟨b1,cap,rfl,M,a3⟩:=u;obtain⟨U,b0,arr,T,hh,E,F,N⟩:=a5H (i.obj o _ hx);have a0:arr.toList.length=g.cp o:=by simpa using E
   have Z:cs.length≤arr.toList.length:=by have:=F.length; rw[List.length_take]at this; omega
   have V:(((arr.toList.take cs.length).drop f).take (n*4)).length=n*4:=by simp only[List.length_take,List.length_drop]; omega
   have S:RelL g w (((cs.drop f).take (n*4)).map AV.weak1) (((arr.toList.take cs.length).drop f).take (n*4)):=((F.drop f).take (n*4)).weak1;have O:∀ v∈((arr.toList.take cs.length).drop f).take (n*4),v.oneCell'=true:=fun v hv=>N v (List.mem_of_mem_drop (List.mem_of_mem_take hv))
   have D:(((cs.drop f).take (n*4)).map AV.weak1).length=n*4:=by simp; omega
   refine(b9f (g.m o) f n cap _ w M (by omega) V (fun j v B=>?_) (i.inn _ _ U)).mono fun e w' I=>?_
   · rw[cell_of_row _ _ _ arr T _ hh];rw[List.getElem?_take]at B;split at B
     · rw[List.getElem?_drop,List.getElem?_take]at B;split at B
       · simpa using B
       · cases B
     · cases B
   · by_cases Y:n=0
     · subst Y;rw[b3q,if_pos rfl]at I;rw[Nat.zero_mul,List.take_zero,List.map_nil];exact a1r i (od:=none) I (by simp[RelL]) (by simp) (by simp) rfl (fun f y=>Nat.lt_irrefl _ (i.cli _ f y)) (.inl rfl)
     · rw[b3q,if_neg Y]at I;have J:Ext g w g (w.alloc (.cells #[] 34)):=⟨Nat.le_refl _,fun _ _=>rfl,fun _ _=>rfl,fun _ _ h=>h,fun b f y=>World.cell?_alloc_lt _ _ _ (i.cli b f y)⟩;have G:SRel g (w.alloc (.cells #[] 34)) st:=i.evolve J rfl (by simp) (fun b q hq=>⟨hq,heap_alloc_old w _ (i.inn b q hq),fun _ x=>x⟩) (fun _ _ x=>x) (fun b f y=>.inl y);refine CallPost.pre (w1:=w.alloc (.cells #[] 34)) ⟨J,by simp,Env.alloc w _ (by intro c t z e; cases e; rfl),fun b hb hs _=>⟨⟨heap_alloc_old w _ hb,fun _ x=>x⟩,hs⟩⟩ ?_;refine a1r G (od:=none) (bb:=w.heap.size+1) I (S.ext J _ _) O X1 D (fun f y=>?_) (.inl (by simp));have:=i.cli _ f y;omega
 · cases h
end Go.Cb.CodeA
