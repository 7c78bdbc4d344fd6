import Derived.Test.YtlegecilkicppaaGreatDoorXAms2
set_option maxRecDepth 4000
set_option linter.all false
namespace Go.Cb
open Classical
def a2I:List Nat→Bool
 | []=>true
 | x::xs=>!xs.any (Nat.beq x) && a2I xs
def W2 (c:Cx):List ResultVar→List ResK→Bool
 | [],[]=>true
 | .tmp t::rs,.v i::ks=>c.slots[i]? == some t && !c.bxs.contains i && W2 c rs ks
 | .tmp t::rs,.vs i::ks=>c.slots[i]? == some t && !c.bxs.contains i && W2 c rs ks
 | .cell a t::rs,.bx i agg n::ks=>c.slots[i]? == some a && r7 c t == some agg && q9 c t == some n && W2 c rs ks
 | .cell a t::rs,.po i agg n::ks=>c.slots[i]? == some a && !c.bxs.contains i && r7 c t == some agg && q9 c t == some n && W2 c rs ks
 | _,_=>false
def a1p (P:Program) (gt:List (Nat×List AV)) (slots bxs:List Nat) (fn:Func) (f:AFn) (A:Nat→Prop):Bool :=
 f.ext.isNone && a2I slots && slots.all (fun s=>Nat.blt s fn.ntmps) && slots.take f.np == List.range f.np && Nat.ble f.np slots.length && Nat.beq f.nv slots.length &&
  (match fn.body with|some x=>m9 ⟨P,slots,bxs,fn.ntmps,gt,A⟩ x f.code|none=>false) && W2 ⟨P,slots,bxs,fn.ntmps,gt,A⟩ fn.results.toList f.results
def G3 (P:Program) (gt:List (Nat×List AV)) (f:Nat) (e:List AV→St→Option (AV×St)):Prop :=
 ∀ (args:List AV) (st:St) (res:AV) (st':St),e args st=some (res,st')→(∀ x∈args,x.weak=x) →
  ∀ (g:Gh) (w:World) (vs:List Value),SRel g w st→Globs gt g w→RelL g w args vs→Calls P f vs.toArray w (CallPost g w st' res)
structure ProgOK (P:Program) (gt:List (Nat×List AV)) (tbl:Nat→Option AFn):Prop where
 mixed:P.follows .mixedOrders=true
 fn:∀ f af,tbl f=some af→U8 P f=true∧((∃ slots bxs fn,P.funcs[f]?=some fn∧∀ A,a1p P gt slots bxs fn af A=true)∨(∃ e,af.ext=some e∧G3 P gt f e))
theorem a5n:∀ {xs:List Nat},a2I xs=true→xs.Nodup
 | [],_=>List.nodup_nil
 | x::xs,h=>by simp only[a2I,AA,Bool.not_eq_true',List.any_eq_false,Nat.beq_eq]at h;exact List.nodup_cons.2 ⟨fun hm=>h.1 x hm rfl,a5n h.2⟩
section
variable {c:Cx} {g:Gh} {w:World} {pr:Nat→Option Pl} {bx:Nat→Nat} {σ:Sig} {a:Act}
theorem b0q {t:TypeId} {n bb f:Nat} {B:Bool} {cs:List AV} {us:List Value} {r:AV} (z:r7 c t=some B) (hn:q9 c t=some n) (hl:RelL g w cs us) (E:w.rangeAt bb f us) (D:∀ u∈us,u.oneCell'=true) (j:i8 B n cs=some r) :
 ∃ v,(loadVar t (ad bb f)).run c.P w=.ok v w∧ValOK g w No r v:=by
 obtain⟨v,i,F⟩:=Z2 (c:=c) (g:=g) (bx:=fun _=>0) (fr:=[]) (a:={ tmps:=#[.pointer (some (ad bb f))],defers:=[] }) (o:={ (default:Oper)with op:=.load t (.tmp 0) }) (x:=.tmp 0) rfl z hn (by simp[Act.eval]) hl E D j;refine⟨v,?_,?_⟩
 · simp only[execOp,Instr.loadAt,Instr.sureAddr,Act.eval,Sem.run_bind,Sem.run_pure]at i;have e:(Array.getD #[Value.pointer (some (ad bb f))] 0 undef)=.pointer (some (ad bb f)):=rfl;rw[e]at i;simp only[Sem.run_pure,Result.andThen_ok]at i;cases C:(loadVar t (ad bb f)).run c.P w with
   | ok u w' =>rw[C]at i;simp only[Result.andThen_ok,Result.ok.injEq,Next.value.injEq]at i;obtain⟨rfl,rfl⟩:=i;rfl
   | halt x w'=>rw[C]at i; cases i
 · cases r<;>first|exact F|skip
   · exfalso;unfold i8 at j;split at j
     · split at j<;>simp at j
     · split at j
       · rename_i y ys;simp only[AC]at j;simp only[RelL]at hl;obtain⟨I,G,_,l,_⟩:=hl;cases y<;>simp only[AV.weak1,reduceCtorEq]at j;simp[Rel]at l
       · cases j
   · exfalso;unfold i8 at j;split at j
     · split at j<;>simp at j
     · split at j
       · rename_i y ys;simp only[AC]at j;simp only[RelL]at hl;obtain⟨I,G,_,l,_⟩:=hl;cases y<;>simp only[AV.weak1,reduceCtorEq]at j;simp[Rel]at l
       · cases j
theorem VarOK.val {i:Nat} {x:AV} {v:Value} (h:VarOK g w pr bx i x v) (j:∀ cs,x≠.box cs):ValOK g w (fun b=>pr b=some (.var i)) x v:=by cases x<;>first|exact h|exact absurd rfl (j _)|exact h.elim
theorem a9n (h:S c g w pr bx σ a):∀ {rs:List ResultVar} {ks:List ResK} {vs:List AV},W2 c rs ks=true→B3 ks σ.fr σ.st=some vs →
 ∃ us:List Value,(rs.mapM fun(r:ResultVar)=>(match r with|.tmp t=>pure (a.tmps.getD t undef)|.cell x t=>do loadVar t (← asAddr (a.tmps.getD x undef)):Sem Value)).run c.P w=.ok us w ∧
  us.length=vs.length∧∀ (k:Nat) (x:AV) (u:Value),vs[k]?=some x→us[k]?=some u→ValOK g w (fun b=>∃ p,pr b=some p) x u
 | [],[],vs,_,hg=>by simp only[B3,AC]at hg;subst hg;exact⟨[],rfl,rfl,fun k x u B=>by simp at B⟩
 | r::rs,k::ks,vs,hok,hg=>by
  simp only[B3]at hg;split at hg
  case h_2=>cases hg
  rename_i x xs B a2;simp only[AC]at hg;subst hg;have one:∃ u,((match r with|.tmp t=>pure (a.tmps.getD t undef)|.cell x t=>do loadVar t (← asAddr (a.tmps.getD x undef)):Sem Value)).run c.P w=.ok u w∧ValOK g w (fun b=>∃ p,pr b=some p) x u∧W2 c rs ks=true:=by
   have C:∀ i,i ∉ c.bxs→∀ cs,σ.fr.getD i .undef≠.box cs:=fun i hi cs hc=>hi (h.fr.bxs i cs hc)
   unfold W2 at hok;split at hok<;>first|(rename_i e1 e2; cases e1; cases e2; done)|skip
   · rename_i e1 e2; cases e1
   · rename_i t J i I e1 e2;cases e1; cases e2;simp only[AA,beq_iff_eq]at hok;simp only[ResK.get,AC]at B;subst B;have D:=h.fr.var i t hok.1.1;have R:=C i (by simpa using hok.1.2);refine⟨_,rfl,?_,hok.2⟩;cases hq:σ.fr.getD i .undef<;>rw[hq]at D<;>first
      | exact ValOK.of_weak (ValOK.rel D)
      | exact D.elim
      | exact absurd hq (R _)
   · rename_i t J i I e1 e2;cases e1; cases e2;simp only[AA,beq_iff_eq]at hok;simp only[ResK.get,AC]at B;subst B;have D:=(h.fr.var i t hok.1.1).val (C i (by simpa using hok.1.2));exact⟨_,rfl,D.mono (Ext.refl _ _) fun b N=>⟨⟨_,N⟩,rfl,fun _ x=>x⟩,hok.2⟩
   · rename_i y t J i ag n I e1 e2;cases e1; cases e2;simp only[AA,beq_iff_eq]at hok;obtain⟨⟨⟨V,W⟩,Y⟩,Z⟩:=hok;simp only[ResK.get]at B;split at B
     · rename_i cs F;have z:=h.fr.var i y V;rw[F]at z;obtain⟨U,_,_,arr,T,hh,hl,E,_⟩:=z;obtain⟨u,hu,l⟩:=b0q (c:=c) W Y hl (by simpa using a5h hh 0) E B;refine⟨u,?_,l.mono (Ext.refl _ _) fun b N=>N.elim,Z⟩;simp only[U,asAddr,Sem.run_bind,Sem.run_pure,Result.andThen_ok];exact hu
     · cases B
   · rename_i y t J i ag n I e1 e2;cases e1; cases e2;simp only[AA,beq_iff_eq]at hok;obtain⟨⟨⟨⟨V,h0⟩,W⟩,Y⟩,Z⟩:=hok;simp only[ResK.get]at B;split at B
     · rename_i o off F;split at B
       · rename_i cs a0;have z:=h.fr.var i y V;rw[F]at z;have e:Rel g w (.ptr o off) (a.tmps.getD y undef):=ValOK.rel z;simp only[Rel]at e;obtain⟨_,_,arr,T,hh,_,hl,E,_⟩:=h.st.obj _ _ a0;obtain⟨u,hu,l⟩:=b0q (c:=c) W Y (hl.drop off) (a4a hh cs.length off) (fun u hu=>E u (List.mem_of_mem_drop hu)) B;refine⟨u,?_,l.mono (Ext.refl _ _) fun b N=>N.elim,Z⟩;simp only[e.2,asAddr,Sem.run_bind,Sem.run_pure,Result.andThen_ok];exact hu
       · cases B
     · cases B
   · cases hok
  obtain⟨u,hu,l,G⟩:=one;obtain⟨us,a1,O,M⟩:=a9n h G a2;refine⟨u::us,?_,by simp[O],fun j y v hy D=>?_⟩
  · rw[List.mapM_cons];simp only[Sem.run_bind,hu,a1,Result.andThen_ok,Sem.run_pure]
  · cases j with
    | zero=>simp at hy D; subst hy; subst D; exact l
    | succ j=>exact M j y v (by simpa using hy) (by simpa using D)
 | [],_::_,_,hok,_=>by simp[W2]at hok
 | r::_,[],_,hok,_=>by cases r<;>simp[W2]at hok
def c5U:List Value→Value
 | [v]=>v
 | us=>.tuple us.toArray
theorem a5c {P:Program} {fn:Func} {tmps:Array Value} {us:List Value} {w:World}
 (h:(fn.results.toList.mapM fun(r:ResultVar)=>(match r with|.tmp t=>pure (tmps.getD t undef)|.cell x t=>do loadVar t (← asAddr (tmps.getD x undef)):Sem Value)).run P w=.ok us w) :
 (results fn tmps).run P w=.ok (c5U us) w:=by
 unfold results;rw[Array.mapM_eq_mapM_toList];simp only[map_eq_pure_bind,bind_assoc,pure_bind,Sem.run_bind]
 erw [h]
 simp only[Result.andThen_ok,Sem.run_pure];match us with
 | []=>rfl
 | [v]=>rfl
 | u::v::us=>simp[c5U]
theorem a9j {P:Program} {gt:List (Nat×List AV)} {slots bxs:List Nat} {fn:Func} {j:AFn} {g:Gh} {w:World} {args:List AV} {vs:List Value} {st:St} (o2:a2I slots=true) (o3:slots.all (fun s=>Nat.blt s fn.ntmps)=true) (o4:slots.take j.np=List.range j.np)
 (o5:j.np≤slots.length) (o6:j.nv=slots.length) (y:args.length=j.np) (B:∀ x∈args,x.weak=x) (O:SRel g w st) (M:Globs gt g w) (t:RelL g w args vs) :
 Fx ⟨P,slots,bxs,fn.ntmps,gt,fun b=>w.heap.size≤b∨g.sr b≠none⟩∧S ⟨P,slots,bxs,fn.ntmps,gt,fun b=>w.heap.size≤b∨g.sr b≠none⟩ g w (fun _=>none) (fun _=>0) ⟨args++List.replicate (j.nv - j.np) .undef,fun _=>.undef,st⟩ { tmps:=vs.toArray++Array.replicate (fn.ntmps - vs.toArray.size) undef,defers:=[] }:=by
 let A:Nat→Prop:=fun b=>w.heap.size≤b∨g.sr b≠none
 let c:Cx:=⟨P,slots,bxs,fn.ntmps,gt,A⟩
 have D:∀ s∈slots,s < fn.ntmps:=fun s hs=>by have:=List.all_eq_true.1 o3 s hs;simpa using this
 have R:Fx c:=⟨a5n o2,D⟩;have W:vs.length=j.np:=by rw[← t.length]; exact y
 have U:j.np≤fn.ntmps:=by
  rcases Nat.eq_zero_or_pos j.np with h0|h0
  · omega
  · have hm:j.np - 1∈slots:=by
     have:j.np - 1∈slots.take j.np:=by rw[o4]; simp; omega
     exact List.mem_of_mem_take this
    have:=D _ hm;omega
 have z:∀ i s,slots[i]?=some s→i < j.np→s=i:=fun i s hs hi=>by
  have J:(slots.take j.np)[i]?=some s:=by rw[List.getElem?_take,if_pos hi]; exact hs
  rw[o4]at J;simp[hi]at J;exact J.symm
 let I:Array Value:=vs.toArray++Array.replicate (fn.ntmps - vs.toArray.size) undef
 have T:S c g w (fun _=>none) (fun _=>0) ⟨args++List.replicate (j.nv - j.np) .undef,fun _=>.undef,st⟩ { tmps:=I,defers:=[] }:=by
  refine⟨⟨by simp[I,c]; omega,by simp[c,y,o6]; omega,fun i s hs=>?_,fun s _=>ValOK.undef,fun b p C=>(by cases C),fun i cs hi=>?_⟩,O,M,fun b C=>.inl C,fun b p C=>.inr (by rw[C]; simp)⟩
  · rcases Nat.lt_or_ge i j.np with hi|hi
    · have N:=z i s hs hi;subst N;have G:s < args.length:=by omega
      have V:s < vs.length:=by omega
      obtain⟨v,F,u⟩:=t.get (AD G);have e1:(args++List.replicate (j.nv - j.np) AV.undef).getD s .undef=args[s]:=by rw[List.getD_eq_getElem?_getD,List.getElem?_append_left G,AD G]; rfl
      have e2:I.getD s undef=v:=by simp only[I,Array.getD_eq_getD_getElem?];rw[Array.getElem?_append_left (by simpa using V)];simp[F]
      rw[e1,e2];have Y:=B args[s] (List.getElem_mem G);have l:ValOK g w (fun b=>(fun _=>none:Nat→Option Pl) b=some (.var s)) args[s].weak v:=ValOK.of_weak u;rw[Y]at l;revert l;cases args[s]<;>intro l<;>first|exact l|exact l.rel.elim
    · have e1:(args++List.replicate (j.nv - j.np) AV.undef).getD i .undef=.undef:=by
       rw[List.getD_eq_getElem?_getD,List.getElem?_append_right (by omega)];cases E:(List.replicate (j.nv - j.np) AV.undef)[i - args.length]? with
       | none=>rfl
       | some x=>rw[List.eq_of_mem_replicate (List.mem_of_getElem? E)]; rfl
      rw[e1];exact VarOK.undef
  · exfalso;rcases Nat.lt_or_ge i args.length with hi'|hi'
    · obtain⟨v,F,u⟩:=t.get (AD hi');rw[List.getD_eq_getElem?_getD,List.getElem?_append_left hi',AD hi']at hi;simp only[Option.getD_some]at hi;rw[hi]at u;exact u
    · rw[List.getD_eq_getElem?_getD,List.getElem?_append_right hi']at hi;cases E:(List.replicate (j.nv - j.np) AV.undef)[i - args.length]? with
      | none=>rw[E]at hi; cases hi
      | some x=>rw[E,List.eq_of_mem_replicate (List.mem_of_getElem? E)]at hi; cases hi
 exact⟨R,T⟩
theorem b5T {P:Program} {gt:List (Nat×List AV)} {slots bxs:List Nat} {fn:Func} {J:AFn} {g g':Gh} {w w':World} {R:Nat→Option Pl} {M:Nat→Nat} {T:Nat→AV} {z:List AV} {l st':St} {I:Act} {res:AV}
 (B:S ⟨P,slots,bxs,fn.ntmps,gt,fun b=>w.heap.size≤b∨g.sr b≠none⟩ g' w' R M ⟨z,T,l⟩ I) (G:Tr (fun b=>w.heap.size≤b∨g.sr b≠none) g w g' w') (W:W2 ⟨P,slots,bxs,fn.ntmps,gt,fun b=>w.heap.size≤b∨g.sr b≠none⟩ fn.results.toList J.results=true)
 (h:(match B3 J.results z l with|some [v]=>some (v,l)|some vs=>some (.tuple vs,l)|none=>none)=some (res,st')):∃ v,(results fn I.tmps).run P w'=.ok v w'∧CallPost g w st' res (.returned v) w':=by
 let c:Cx:=⟨P,slots,bxs,fn.ntmps,gt,fun b=>w.heap.size≤b∨g.sr b≠none⟩
 have F:∀ vs',B3 J.results z l=some vs'→some ((match vs' with|[v]=>v|vs'=>AV.tuple vs'),l)=some (res,st')→∃ v,(results fn I.tmps).run P w'=.ok v w'∧CallPost g w st' res (.returned v) w':=by
  intro vs' E t;simp only[AC,AH]at t;obtain⟨rfl,rfl⟩:=t;obtain⟨us,O,D,j⟩:=a9n (c:=c) B W E;refine⟨_,a5c O,_,g',rfl,B.st,⟨G.ext,G.size,G.env,fun b N hs _=>G.keep b N hs fun hA=>?_⟩,?_⟩
  · rcases hA with hA|hA
    · omega
    · exact hA hs
  · match vs',us,D,j with
    | [],[],_,_=>exact ValOK.mk' (by simp only[Rel]; exact⟨#[],rfl,by simp[RelL]⟩) (by simp) (by simp)
    | [x],[u],_,j =>
     refine(j 0 x u rfl rfl).mono (Ext.refl _ _) fun b N=>⟨?_,rfl,fun _ x=>x⟩
     obtain⟨p,U⟩:=N;obtain⟨Y,Z,q3⟩:=B.fr.prv b p U;exact⟨Y,Z,q3⟩
    | x::y::xs,u::v::us,D,j =>refine ValOK.mk' ?_ (by simp) (by simp);simp only[Rel];exact⟨_,rfl,RelL.of_get (by simpa using D.symm) fun i x u V hu=>(j i x u V hu).rel⟩
 split at h
 · rename_i v E;exact F [v] E h
 · rename_i vs' C E;refine F vs' E ?_;rw[← h];match vs',C with
   | [],_=>rfl
   | [v],C=>exact absurd rfl (C v)
   | _::_::_,_=>rfl
 · cases h
theorem b2M {P:Program} {gt:List (Nat×List AV)} {slots bxs:List Nat} {fn:Func} {F:AFn} {g:Gh} {w:World} {args:List AV} {vs:List Value} {st st':St} {res:AV} {call:d8} {n:Nat} (hm:P.follows .mixedOrders=true) (O:F9 P gt call)
 (i:∀ A,a1p P gt slots bxs fn F A=true) (h:F.run call n args st=some (res,st')) (t:∀ x∈args,x.weak=x) (E:SRel g w st) (D:Globs gt g w) (B:RelL g w args vs) :
 ∃ body,fn.body=some body∧body.wp P (bodyPost P fn (CallPost g w st' res)) { tmps:=vs.toArray++Array.replicate (fn.ntmps - vs.toArray.size) undef,defers:=[] } w:=by
 have i:=i fun b=>w.heap.size≤b∨g.sr b≠none
 simp only[a1p,AA,Option.isNone_iff_eq_none,beq_iff_eq,Nat.beq_eq]at i;obtain⟨⟨⟨⟨⟨⟨⟨o1,o2⟩,o3⟩,o4⟩,o5⟩,o6⟩,o7⟩,T⟩:=i;have o5:=Nat.le_of_ble_eq_true o5;split at o7
 case h_2=>cases o7
 rename_i body j;unfold AFn.run at h;split at h
 case isFalse=>cases h
 rename_i y;split at h
 · cases h
 · rename_i ex J V z l;obtain⟨M,N⟩:=a9j (bxs:=bxs) o2 o3 o4 o5 o6 y t E D B;refine⟨body,j,?_⟩;refine m3 _ _ o7 M hm O N l fun G w' g' U I W R C S=>?_
   have u:bodyPost P fn (CallPost g w st' res) .ret G w':=⟨R,b5T C S T h⟩;cases ex with
   | normal=>exact u
   | ret=>exact u
   | exit id=>exact(z id rfl).elim
 · cases h
theorem b7j {P:Program} {gt:List (Nat×List AV)} {tbl:Nat→Option AFn} (F:ProgOK P gt tbl):∀ n,F9 P gt (j0 tbl n):=by
 intro n;induction n with
 | zero=>intro f args st res st' h; simp[j0]at h
 | succ n J =>
  intro f args st res st' h j;simp only[j0]at h;cases i:tbl f with
  | none=>simp[i]at h
  | some E =>
   simp only[i]at h;obtain⟨B,C⟩:=F.fn f E i;refine⟨B,fun g w vs y u l=>?_⟩;rcases C with⟨slots,bxs,fn,I,x⟩|⟨e,z,t⟩
   case inr =>simp only[z]at h;exact t args st res st' h j g w vs y u l
   have z:E.ext=none:=by
    have:=x fun _=>True
    simp only[a1p,AA,Option.isNone_iff_eq_none]at this;exact this.1.1.1.1.1.1.1
   simp only[z]at h;obtain⟨body,G,D⟩:=b2M F.mixed J x h j y u l;exact calls_of_wp I G D
end
end Go.Cb
namespace Go.Cb
open Classical
section
variable {c:Cx} {g:Gh} {w:World} {pr:Nat→Option Pl} {bx:Nat→Nat} {σ:Sig} {a:Act} {o:Oper}
theorem c49 (y:Fx c) (h:S c g w pr bx σ a) {t e:TypeId} {i:TypeInfo} {d:Dst} (B:o.op=.buildSlice t 0 #[]) (hu:c.P.underlying t=some (.slice e)) (hi:c.P.info? e=some i) (z:n8 c o.dst d=true)
 {next:Act→World→Prop} {Q:Exit→Act→World→Prop} (j:Post c g w a (d.put (.list true []) σ) next):o.wp c.P a w next Q:=by
 have l:(execOp a.eval o).run c.P w=.ok (.value (.slice (some (ad w.heap.size 0)) 0 0)) (w.alloc (.cells #[] e)):=by
  have u:(Array.map (fun _:Nat=>(default:Value)) (Array.range 0))=#[]:=by apply Array.ext'; simp
  simp[execOp,B,Instr.buildSlice,run_underlying hu,sizeOf,typeInfo,hi,Instr.fill,newRow,u]
 unfold Oper.wp;rw[l];refine j _ _ g pr bx (s7 _ _ _) (U9 y (h.alloc _ _) z (mine:=No) (r:=.list true []) ?_ fun _ x=>x.elim) (Tr.alloc _ h.st.cli _);refine(show ValOK g _ No (.list true []) _ from⟨?_,fun _ _=>.inl ⟨_,_,rfl⟩,fun _ e=>(by cases e)⟩);simp only[Rel];exact⟨_,0,0,rfl,rfl,AJ _,fun _=>rfl,fun h=>absurd rfl h⟩
theorem c9b (y:Fx c) (h:S c g w pr bx σ a) {t F e:TypeId} {x:Operand} {d:Dst} {i:Option Addr} {n cap:Nat} (C:o.op=.binOp .eql t x (.const (.slice none 0 0)) F) (hu:c.P.underlying t=some (.slice e))
 (D:a.eval x=.slice i n cap) (z:n8 c o.dst d=true) {next:Act→World→Prop} {Q:Exit→Act→World→Prop} (j:Post c g w a (d.put (.bool i.isNone) σ) next):o.wp c.P a w next Q:=by
 have l:(execOp a.eval o).run c.P w=.ok (.value (.bool i.isNone)) w:=by
  have B:∀ v:Value,(eqGuard .eql t x (.const (.slice none 0 0)) (.slice i n cap) (.slice none 0 0)).run c.P w=.ok () w:=fun _=>rfl
  have E:a.eval (.const (.slice none 0 0))=.slice none 0 0:=rfl;have u:(Op.equal t (.slice i n cap) (.slice none 0 0)).run c.P w=.ok i.isNone w:=by rw[O6,Op.equalIn,Sem.run_bind,run_underlying hu,Result.andThen_ok];cases i<;>rfl
  simp only[execOp,C,D,E,B (.bool true),binOp,Sem.run_bind,u,Result.andThen_ok,Sem.run_pure]
 exact b17 y h z (r:=.bool i.isNone) l (show ValOK g w No (.bool i.isNone) (.bool i.isNone)from ValOK.mk' (by simp[Rel]) (by simp) (by simp)) j
def b0b (P:Program) (t j bytes:Nat):Bool:=match P.underlying t with
 | some (.slice e)=>match P.info? e with
  | some i=>i.size == j && i.bytes == bytes && decide (0 < bytes) && (match i.zero with|some z=>z.cells.size == j|none=>false)
  | none=>false
 | _=>false
structure CloneShape (P:Program) (fn:Func) (t sz bytes:Nat) where
 i0:Nat
 i1:Nat
 i2:Nat
 i3:Nat
 o0:Oper
 o1:Oper
 o2:Oper
 o3:Oper
 o4:Oper
 o5:Oper
 o6:Oper
 o7:Oper
 ty:TypeId
 body:fn.body=some (.seq (.region i0 #[o0] false) (.seq (.seq (.region i1 #[o1,o2] false) (.cond (.tmp 4) (.seq (.region i2 #[o3] false) .ret) .skip)) (.seq (.region i3 #[o4,o5,o6,o7] false) .ret)))
 nt:fn.ntmps=8
 res:fn.results=#[.tmp 2]
 d0:o0.dst=some 2∧o0.op=.assign (.const (.slice none 0 0))∧o0.guard=none
 d1:o1.dst=some 3∧o1.op=.move (.tmp 0)∧o1.guard=none
 d2:o2.dst=some 4∧o2.op=.binOp .eql t (.tmp 3) (.const (.slice none 0 0)) ty∧o2.guard=none
 d3:o3.dst=some 2∧o3.op=.assign (.const (.slice none 0 0))∧o3.guard=none
 d4:o4.dst=some 5∧o4.op=.buildSlice t 0 #[]∧o4.guard=none
 d5:o5.dst=some 6∧o5.op=.move (.tmp 0)∧o5.guard=none
 d6:o6.dst=some 7∧o6.op=.call { callee:=.builtin .append,args:=#[.tmp 5,.tmp 6],argTypes:=#[t,t] }∧o6.guard=none
 d7:o7.dst=some 2∧o7.op=.assign (.tmp 7)∧o7.guard=none
 tb:b0b P t sz bytes=true
theorem b1u {P:Program} {t l bytes:Nat} (h:b0b P t l bytes=true):∃ e i z,P.underlying t=some (.slice e)∧P.info? e=some i∧i.zero=some z∧i.size=l∧i.bytes=bytes∧z.cells.size=l∧0 < bytes:=by
 unfold b0b at h;split at h
 case h_2=>cases h
 rename_i e hu;split at h
 case h_2=>cases h
 rename_i i hi;simp only[AA,beq_iff_eq,decide_eq_true_eq]at h;obtain⟨⟨⟨u,x⟩,y⟩,j⟩:=h;split at j
 case h_2=>cases j
 rename_i z B;exact⟨e,i,z,hu,hi,B,u,x,by simpa using j,y⟩
theorem b0k {P:Program} {gt:List (Nat×List AV)} {f t sz bytes:Nat} {fn:Func} (hf:P.funcs[f]?=some fn) (C:CloneShape P fn t sz bytes):G3 P gt f (Y3 sz bytes):=by
 intro args st res st' h Y g w vs f3 _ J;obtain⟨e,ie,z,tu,ti,tz,h5,h4,h6,h3⟩:=b1u C.tb;unfold Y3 at h;split at h
 case h_2=>cases h
 rename_i own xs;split at h
 case isFalse=>cases h
 rename_i D;simp only[AA,decide_eq_true_eq]at D;obtain⟨V,E⟩:=D;simp only[AC,AH]at h;obtain⟨rfl,rfl⟩:=h;simp only[RelL]at J;obtain⟨v,_,rfl,hv,rfl⟩:=J;have b5:=hv;simp only[Rel]at b5;obtain⟨j,n,cap,rfl,rfl,h8,i0,l4⟩:=b5;let A:Nat→Prop:=fun b=>w.heap.size≤b∨g.sr b≠none
 let c:Cx:=⟨P,[0,2],[],8,[],A⟩
 have F:Fx c:=⟨show([0,2]:List Nat).Nodup by decide,show ∀ s∈([0,2]:List Nat),s < 8 by decide⟩;have b3:own=false:=by have:=Y (.list own xs) (by simp);simpa[AV.weak]using this.symm
 subst b3;refine calls_of_wp hf C.body ?_;have hS:S c g w (fun _=>none) (fun _=>0) ⟨[.list false xs,.undef],fun _=>.undef,st⟩ { tmps:=#[Value.slice j xs.length cap]++Array.replicate (fn.ntmps - 1) undef,defers:=[] }:=by
  refine⟨⟨by simp[c,C.nt],rfl,fun i s hs=>?_,fun s _=>ValOK.undef,fun b p B=>(by cases B),fun i cs hi=>?_⟩,f3,fun e he=>(by cases he),fun b B=>.inl B,fun b p B=>.inr (by rw[B]; simp)⟩
  · match i,hs with
    | 0,hs =>
     simp only[c,List.getElem?_cons_zero,AC]at hs;subst hs;have b4:ValOK g w (fun b=>(fun _=>none:Nat→Option Pl) b=some (.var 0)) (AV.list false xs).weak (.slice j xs.length cap):=ValOK.of_weak hv;have e0:(#[Value.slice j xs.length cap]++Array.replicate (fn.ntmps - 1) undef).getD 0 undef=.slice j xs.length cap:=by rw[C.nt]; rfl
     show VarOK g w (fun _=>none) (fun _=>0) 0 (.list false xs) ((#[Value.slice j xs.length cap]++Array.replicate (fn.ntmps - 1) undef).getD 0 undef);rw[e0];exact b4
    | 1,hs=>exact VarOK.undef
    | i+2,hs=>simp[c]at hs
  · match i,hi with
    | 0,hi=>simp at hi
    | 1,hi=>simp at hi
    | i+2,hi=>simp at hi
 -- the end
 have fin:∀ (x:AV) (a':Act) (w':World) (g':Gh) (b6:Nat→Option Pl) (a0:Nat→Nat) (b8:Nat→AV),a'.defers=[]→S c g' w' b6 a0 ⟨[x,.list true xs],b8,st⟩ a'→Tr c.A g w g' w' →
  bodyPost P fn (CallPost g w st (.list true xs)) .ret a' w':=by
  intro x a' w' g' b6 a0 b8 hd N ht;refine⟨hd,?_⟩;obtain⟨us,h0,g0,l⟩:=a9n (c:=c) N (rs:=fn.results.toList) (ks:=[.vs 1]) (vs:=[.list true xs]) (by rw[C.res]; rfl) rfl;refine⟨_,a5c h0,_,g',rfl,N.st,⟨ht.ext,ht.size,ht.env,fun b B hs _=>ht.keep b B hs fun hA=>?_⟩,?_⟩
  · rcases hA with hA|hA
    · omega
    · exact hA hs
  · match us,g0,l with
    | [u],_,l =>
     refine(l 0 (.list true xs) u rfl rfl).mono (Ext.refl _ _) fun b B=>⟨?_,rfl,fun _ x=>x⟩
     obtain⟨p,hp⟩:=B;obtain⟨q1,q2,q3⟩:=N.fr.prv b p hp;exact⟨q1,q2,q3⟩
 refine wp_seq (wp_region ?_);show wpOps P #[C.o0] _ [0] _ _;rw[wpOps_cons];refine Q9 rfl C.d0.2.2 (a4N (c:=c) F hS (.inr C.d0.2.1) (p:=.c (.list true [])) (d:=.v 1) rfl (by rw[C.d0.1]; rfl) fun a1 w1 g1 n0 i2 c8 c2 f4=>?_);show(Code.seq _ _).wp P _ a1 w1;refine wp_seq (wp_seq (wp_region ?_));show wpOps P #[C.o1,C.o2] _ [0,1] _ _;rw[wpOps_cons];refine Q9 rfl C.d1.2.2 (a4N (c:=c) F c2 (.inl C.d1.2.1) (p:=.v 0) (d:=.t 3) rfl (by rw[C.d1.1]; rfl) fun a2 w2 g2 pr2 i3 e4 b1 f5=>?_);rw[wpOps_cons];have c1:=N3 b1 (x:=.tmp 3) (p:=.t 3) rfl;have f2:Rel g2 w2 (.list false xs) (a2.eval (.tmp 3)):=ValOK.rel c1;have I:=f2;simp only[Rel]at I;obtain⟨Z,n2,h7,b2,l0,c7,U,h9⟩:=I;refine Q9 rfl C.d2.2.2 (c9b (c:=c) F b1 C.d2.2.1 tu b2 (d:=.t 4) (by rw[C.d2.1]; rfl) fun a3 w3 g3 n1 i4 e5 O f6=>?_);show(Code.cond _ _ _).wp P _ a3 w3;have M:=(f4.trans f5).trans f6;have G:a3.defers=[]:=e5.trans (e4.trans c8);have B:=a2o O (x:=.tmp 4) (y:=.t 4) rfl (b:=Z.isNone) rfl;refine wp_cond B ?_;cases Z with
 | none =>
  have h1:xs=[]:=by have:=U rfl;exact List.eq_nil_of_length_eq_zero (by omega)
  refine wp_seq (wp_region ?_);show wpOps P #[C.o3] _ [0] _ _;rw[wpOps_cons];refine Q9 rfl C.d3.2.2 (a4N (c:=c) F O (.inr C.d3.2.1) (p:=.c (.list true [])) (d:=.v 1) rfl (by rw[C.d3.1]; rfl) fun a4 w4 g4 b7 b0 T R W=>?_);show Code.ret.wp P _ a4 w4;refine wp_ret ?_;show bodyPost P fn _ .ret a4 w4;subst h1;exact fin _ a4 w4 g4 b7 b0 _ (T.trans G) R (M.trans W)
 | some i1 =>refine wp_skip ?_;show(Code.seq _ _).wp P _ a3 w3;refine wp_seq (wp_region ?_);show wpOps P #[C.o4,C.o5,C.o6,C.o7] _ [0,1,2,3] _ _;rw[wpOps_cons];refine Q9 rfl C.d4.2.2 (c49 (c:=c) F O C.d4.2.1 tu ti (d:=.t 5) (by rw[C.d4.1]; rfl) fun a4 w4 g4 b7 b0 T R W=>?_);rw[wpOps_cons];refine Q9 rfl C.d5.2.2 (a4N (c:=c) F R (.inl C.d5.2.1) (p:=.v 0) (d:=.t 6) rfl (by rw[C.d5.1]; rfl) fun a5 w5 g5 n3 i5 e6 c3 f7=>?_);rw[wpOps_cons];refine Q9 rfl C.d6.2.2 (b46 (c:=c) F c3 C.d6.2.1 rfl tu ti tz h5 h4 h6 h3 (p0:=.ts 5) (p1:=.t 6) (d:=.t 7) rfl rfl (by rw[C.d6.1]; rfl) (by rw[C.d6.1]; rfl) (xs:=[]) (ys:=xs) (own:=false) rfl rfl rfl V (by simpa using E) fun a6 w6 g6 o8 i9 f0 c4 f8=>?_);rw[wpOps_cons];refine Q9 rfl C.d7.2.2 (a4N (c:=c) F c4 (.inr C.d7.2.1) (p:=.ts 7) (d:=.v 1) rfl (by rw[C.d7.1]; rfl) fun a7 w7 g7 h2 c0 f1 c6 f9=>?_);show Code.ret.wp P _ a7 w7;refine wp_ret ?_;show bodyPost P fn _ .ret a7 w7;exact fin _ a7 w7 g7 h2 c0 _ (f1.trans (f0.trans (e6.trans (T.trans G)))) c6 ((((M.trans W).trans f7).trans f8).trans f9)
end
end Go.Cb
namespace Go.Cb
open Classical
def T9 (i bytes:Nat):List AV→St→Option (AV×St)
 | [.nils],st=>some (.nils,st)
 | [.sl o f n s],st=>match st[o]? with
  | some (.cells cs)=>if s=i∧f+n*i≤cs.length∧n*bytes≤70368744177664 then some (.sl st.length 0 n i,st++[.cells (((cs.drop f).take (n*i)).map AV.weak1)])else none
  | _=>none
 | _,_=>none
def G9 (j i:Nat) (cs row:List AV):List AV:=(cs.take (i*j)++row++cs.drop (i*j)).map AV.weak1
def J6 (j bytes:Nat):List AV→St→Option (AV×St)
 | [.nils,.int .i64 i,.list _ [row]],st=>if i=0∧row.length=j then some (.sl st.length 0 1 j,st++[.cells (G9 j 0 [] row)])else none
 | [.sl o 0 n s,.int .i64 i,.list _ [row]],st=>match st[o]? with
  | some (.cells cs)=>if s=j∧0≤i∧i≤n∧cs.length=n*j∧row.length=j∧(n+1)*bytes≤70368744177664 then some (.sl st.length 0 (n+1) j,st.set o .dead++[.cells (G9 j i.toNat cs row)])else none
  | _=>none
 | _,_=>none
def U7 (j i:Nat) (cs:List AV):List AV:=(cs.take (i*j)++cs.drop ((i+1)*j)).map AV.weak1
def U1 (l bytes:Nat):List AV→St→Option (AV×St)
 | [.sl o 0 n s,.int .i64 i,.int .i64 j],st=>match st[o]? with
  | some (.cells cs)=>if s=l∧0≤i∧i < n∧j=i+1∧cs.length=n*l∧n*bytes≤70368744177664 then some (.sl st.length 0 (n - 1) l,st.set o .dead++[.cells (U7 l i.toNat cs)])else none
  | _=>none
 | _,_=>none
def gh0 (W:World):Gh:={ n:=0,m:=fun _=>0,cl:=fun b _=>b < W.heap.size,sr:=fun _=>none,cp:=fun _=>0 }
theorem b98 (W:World):SRel (gh0 W) W []:=⟨rfl,fun o i h=>by simp at h,fun b p h=>(by cases h),fun b f h=>h⟩
structure Kept (W W':World):Prop where
 kept:W.keptBut W' (fun _=>False)
 fz:∀ a:Addr,a.block < W.heap.size→W'.frozen? a=W.frozen? a
 size:W.heap.size≤W'.heap.size
 old:∀ b,b < W.heap.size→W'.heap[b]?=W.heap[b]?
theorem E6 {P:Program} {gt:List (Nat×List AV)} {tbl:Nat→Option AFn} (y:ProgOK P gt tbl) {n f:Nat} {args:List AV} {b:Bool} {st':St} (h:j0 tbl n f args []=some (.bool b,st')) (F:∀ x∈args,x.weak=x)
 {W:World} {vs:List Value} (D:Globs gt (gh0 W) W) (E:RelL (gh0 W) W args vs):Calls P f vs.toArray W (fun e u=>e=.returned (.bool b)∧Kept W u):=by
 refine((b7j y n f args [] _ _ h F).2 (gh0 W) W vs (b98 W) D E).mono fun e u C=>?_
 obtain⟨v,g',rfl,_,l,t⟩:=C;have t:=t.rel;simp only[Rel]at t;subst t;have j:∀ b,b < W.heap.size→u.heap[b]?=W.heap[b]?:=fun b B=>(l.keep b B rfl fun x=>x).1.1
 refine⟨rfl,⟨l.env.os,l.env.out,fun i hi=>?_⟩,fun a z=>by unfold World.frozen?; rw[j a.block z],l.size,j⟩;rw[j i hi];cases G:W.heap[i]? with
 | none=>simp
 | some o=>cases o<;>simp
theorem b9 {α:Sort _} {a b:α} (h:a=b):a=b:=by cases h;rfl
def obind {α β:Type} (x:Option α) (f:α→Option β):Option β:=match x with
 | some a=>f a
 | none=>none
theorem n9 {α β:Type} (a:α) (f:α→Option β):obind (some a) f=f a:=b9 rfl
theorem F1 {α β:Type} {x i:Option α} {f:α→Option β} (h:x=i):obind x f=obind i f:=by rw[h]
def p1 (x:Option (AV×AV×St)):Option AV:=match x with
 | some (r,_,_)=>some r
 | none=>none
theorem c0z (r b:AV) (st:St):p1 (some (r,b,st))=some r:=b9 rfl
def p2 (x:Option (AV×AV×St)):Option (AV×St):=match x with
 | some (r,_,st)=>some (r,st)
 | none=>none
theorem a7v (r b:AV) (st:St):p2 (some (r,b,st))=some (r,st):=b9 rfl
def gv (x:AV) (want:Bool) (e:Option AV):Option AV:=match x with
 | .bool b=>if b == want then e else some (.tuple [])
 | .tuple []=>some (.tuple [])
 | _=>none
def gv2 (x:AV) (want:Bool) (st:St) (e:Option (AV×St)):Option (AV×St):=match x with
 | .bool b=>if b == want then e else some (.tuple [],st)
 | .tuple []=>some (.tuple [],st)
 | _=>none
theorem b15 (want:Bool) (e:Option AV):gv (.tuple []) want e=some (.tuple []):=b9 rfl
theorem d3T (e:Option AV):gv (.bool true) true e=e:=b9 rfl
theorem d2r (e:Option AV):gv (.bool true) false e=some (.tuple []):=b9 rfl
theorem d2s (e:Option AV):gv (.bool false) false e=e:=b9 rfl
theorem d3J (e:Option AV):gv (.bool false) true e=some (.tuple []):=b9 rfl
theorem d0u (st:St) (e:Option (AV×St)):gv2 (.bool true) true st e=e:=b9 rfl
theorem c9R (st:St) (e:Option (AV×St)):gv2 (.bool true) false st e=some (.tuple [],st):=b9 rfl
theorem c5r (st:St) (e:Option (AV×St)):gv2 (.bool false) false st e=e:=b9 rfl
theorem d0S (st:St) (e:Option (AV×St)):gv2 (.bool false) true st e=some (.tuple [],st):=b9 rfl
theorem b8y (want:Bool) (st:St) (e:Option (AV×St)):gv2 (.tuple []) want st e=some (.tuple [],st):=b9 rfl
theorem L1 {x:AV} {want:Bool} {st:St} {e:Option (AV×St)} {i:AV} (h:x=i):gv2 x want st e=gv2 i want st e:=by rw[h]
def e9 (xs:List Opd):Bool:=xs.any Opd.steals
theorem W5:∀ {xs:List Opd} {σ:Sig},e9 xs=false→d9 xs σ=σ
 | [],_,_=>rfl
 | x::xs,σ,h=>by
  simp only[e9,List.any_cons,Bool.or_eq_false_iff]at h;have e:x.spend σ=σ:=by cases x<;>simp_all [Opd.spend,Opd.steals]
  rw[d9,e];exact W5 (xs:=xs) h.2
def goK (call:d8) {α:Type} (o:AOper) (σ:Sig) (k:Sig→Option α):Option α :=
 match o.kind.setSt || o.kind.alters || e9 o.args with
 | false=>obind (p1 (sem o.kind call (o.args.map (·.read σ)) (boxOf' o.box σ) σ.st)) fun r=>k (o.dst.put r σ)
 | true=>match o.kind.alters || e9 o.args with
  | false=>obind (p2 (sem o.kind call (o.args.map (·.read σ)) (boxOf' o.box σ) σ.st)) fun r=>k (o.dst.put r.1 { σ with st:=r.2 })
  | true=>obind (sem o.kind call (o.args.map (·.read σ)) (boxOf' o.box σ) σ.st) fun r =>
   let σ:=d9 o.args σ
   match o.box with
   | some i=>k (o.dst.put r.1 { σ with fr:=σ.fr.set i r.2.1,st:=r.2.2 })
   | none=>k (o.dst.put r.1 { σ with st:=r.2.2 })
where boxOf' (b:Option Nat) (σ:Sig):AV:=match b with|some i=>σ.fr.getD i .undef|none=>.undef
def a4E (call:d8) {α:Type} (o:AOper) (σ:Sig) (k:Sig→Option α):Option α :=
 match o.guard with
 | none=>goK call o σ k
 | some (x,want)=>match o.kind.setSt || o.kind.alters || e9 o.args with
  | false=>obind (gv (x.read σ) want (p1 (sem o.kind call (o.args.map (·.read σ)) (goK.boxOf' o.box σ) σ.st))) fun r=>k (o.dst.put r σ)
  | true=>match o.kind.alters || e9 o.args with
   | false=>obind (gv2 (x.read σ) want σ.st (p2 (sem o.kind call (o.args.map (·.read σ)) (goK.boxOf' o.box σ) σ.st))) fun r=>k (o.dst.put r.1 { σ with st:=r.2 })
   | true=>match x.read σ with
    | .bool b=>if b == want then goK call o σ k else k (o.dst.put (.tuple []) σ)
    | .tuple []=>k (o.dst.put (.tuple []) σ)
    | _=>none
def a7s (call:d8) {α:Type}:List AOper→Sig→(Sig→Option α)→Option α
 | [],σ,k=>k σ
 | o::os,σ,k=>a4E call o σ fun σ=>a7s call os σ k
theorem a3C (fr:List AV) (i:Nat):fr.set i (fr.getD i .undef)=fr:=by
 apply List.ext_getElem?;intro j;rw[List.getElem?_set];by_cases e:i=j
 · subst e;rw[if_pos rfl];split
   · rename_i h; simp[h]
   · rename_i h; rw[List.getElem?_eq_none (by omega)]
 · rw[if_neg e]
theorem a6l {call:d8} {α:Type} {o:AOper} {σ:Sig} {k:Sig→Option α}:goK call o σ k=obind (y9 call o σ) k:=by
 have B:goK.boxOf' o.box σ=(match o.box with|some i=>σ.fr.getD i .undef|none=>.undef):=rfl;unfold goK;rw[J5,B];split
 · rename_i u;simp only[Bool.or_eq_false_iff]at u;obtain⟨⟨z,l⟩,t⟩:=u;cases hs:sem o.kind call (o.args.map (·.read σ)) (match o.box with|some i=>σ.fr.getD i .undef|none=>.undef) σ.st with
   | none=>rfl
   | some x =>
    obtain⟨r,b',st'⟩:=x;have e1:=a1q z hs;have e2:=a2E l hs;subst e1;simp only[p1,n9,W5 t];cases j:o.box with
    | none=>rfl
    | some i =>simp only[j]at e2;rw[e2];simp only[a3C,n9]
 · rename_i u;split
   · rename_i y;simp only[Bool.or_eq_false_iff]at y;obtain⟨l,t⟩:=y;cases hs:sem o.kind call (o.args.map (·.read σ)) (match o.box with|some i=>σ.fr.getD i .undef|none=>.undef) σ.st with
     | none=>rfl
     | some x =>
      obtain⟨r,b',st'⟩:=x;have e2:=a2E l hs;simp only[p2,n9,W5 t];cases j:o.box with
      | none=>rfl
      | some i =>simp only[j]at e2;rw[e2];simp only[a3C,n9]
   · cases hs:sem o.kind call (o.args.map (·.read σ)) (match o.box with|some i=>σ.fr.getD i .undef|none=>.undef) σ.st with
     | none=>rfl
     | some x =>
      obtain⟨r,b',st'⟩:=x;simp only[n9];cases j:o.box with
      | none=>rfl
      | some i=>rfl
theorem c34 {α:Type} {x:AV} {want:Bool} {e:Option AV} {f:AV→Option α}:obind (gv x want e) f =
 (match x with|.bool b=>if b == want then obind e f else f (.tuple [])|.tuple []=>f (.tuple [])|_=>none):=by
 unfold gv;split
 · split<;>rfl
 · rfl
 · rfl
theorem b66 {α:Type} {x:AV} {want:Bool} {st:St} {e:Option (AV×St)} {f:AV×St→Option α}:obind (gv2 x want st e) f =
 (match x with|.bool b=>if b == want then obind e f else f (.tuple [],st)|.tuple []=>f (.tuple [],st)|_=>none):=by
 unfold gv2;split
 · split<;>rfl
 · rfl
 · rfl
theorem a3e {call:d8} {α:Type} {o:AOper} {σ:Sig} {k:Sig→Option α}:a4E call o σ k=obind (i7 call o σ) k:=by
 unfold a4E i7;cases y:o.guard with
 | none=>exact a6l
 | some u =>
  obtain⟨x,want⟩:=u;simp only;split
  · rename_i j;have i:obind (p1 (sem o.kind call (o.args.map (·.read σ)) (goK.boxOf' o.box σ) σ.st)) (fun r=>k (o.dst.put r σ))=obind (y9 call o σ) k:=by have:=a6l (call:=call) (o:=o) (σ:=σ) (k:=k);unfold goK at this;rw[j]at this;exact this
    rw[c34];cases l:x.read σ<;>try rfl
    · dsimp only;split
      · exact i
      · rfl
    · rename_i vs;cases vs<;>rfl
  · rename_i j;split
    · rename_i t;have i:obind (p2 (sem o.kind call (o.args.map (·.read σ)) (goK.boxOf' o.box σ) σ.st)) (fun r=>k (o.dst.put r.1 { σ with st:=r.2 }))=obind (y9 call o σ) k:=by have:=a6l (call:=call) (o:=o) (σ:=σ) (k:=k);unfold goK at this;rw[j,t]at this;exact this
      rw[b66];cases l:x.read σ<;>try rfl
      · dsimp only;split
        · exact i
        · rfl
      · rename_i vs;cases vs<;>rfl
    · cases l:x.read σ<;>try rfl
      · dsimp only;split
        · exact a6l
        · rfl
      · rename_i vs;cases vs<;>rfl
theorem a0f {call:d8} {α:Type} {k:Sig→Option α}:∀ {ops:List AOper} {σ:Sig},a7s call ops σ k=obind (g9 call ops σ) k
 | [],σ=>rfl
 | o::os,σ=>by
  simp only[a7s,g9,a3e];cases hs:i7 call o σ with
  | none=>rfl
  | some σ1=>exact a0f
def br (c:AV) (a b:Option Out):Option Out:=match c with
 | .bool true=>a
 | .bool false=>b
 | _=>none
theorem b7a (call:d8) (n:Nat) (kill:List Nat) (i:List AOper) (fr:List AV) (st:St) :
 exec call n (.reg kill i) fr st=a7s call i ⟨i6 kill fr,fun _=>.undef,st⟩ fun σ=>some (.normal,σ.fr,σ.st):=by
 rw[a0f];simp only[exec,fL_eq];cases g9 call i ⟨i6 kill fr,fun _=>.undef,st⟩<;>rfl
theorem a4r (call:d8) (n:Nat) (kill:List Nat) (i:List AOper) (c:Opd) (a b:ACode) (fr:List AV) (st:St) :
 exec call n (.test kill i c a b) fr st=a7s call i ⟨i6 kill fr,fun _=>.undef,st⟩ fun σ=>br (c.read σ) (exec call n a σ.fr σ.st) (exec call n b σ.fr σ.st):=by
 rw[a0f];simp only[exec,fL_eq];cases g9 call i ⟨i6 kill fr,fun _=>.undef,st⟩with
 | none=>rfl
 | some σ =>simp only[n9];generalize c.read σ=y;cases y<;>rfl
def b94 (i:Nat) (x:AV):AV:=match x with
 | .box _=>.loc i 0
 | _=>.undef
def seqK (x:Option Out) (f:List AV→St→Option Out):Option Out:=match x with
 | some (.normal,fr,st)=>f fr st
 | r=>r
theorem a2l (fr:List AV) (st:St) (f:List AV→St→Option Out):seqK (some (.normal,fr,st)) f=f fr st:=b9 rfl
theorem b5J (id:Nat) (fr:List AV) (st:St) (f:List AV→St→Option Out):seqK (some (.exit id,fr,st)) f=some (.exit id,fr,st):=b9 rfl
theorem b8K (fr:List AV) (st:St) (f:List AV→St→Option Out):seqK (some (.ret,fr,st)) f=some (.ret,fr,st):=b9 rfl
theorem H5 {x i:Option Out} {f:List AV→St→Option Out} (h:x=i):seqK x f=seqK i f:=by rw[h]
theorem exec_seqK (call:d8) (n:Nat) (a b:ACode) (fr:List AV) (st:St):exec call n (.seq a b) fr st=seqK (exec call n a fr st) (exec call n b):=by simp only[exec,seqK];split<;>rename_i h<;>simp only[h]
def finK (rs:List ResK) (x:Option Out):Option (AV×St):=match x with
 | some (.exit _,_,_)=>none
 | some (_,fr,st)=>match B3 rs fr st with
  | some [v]=>some (v,st)
  | some vs=>some (.tuple vs,st)
  | none=>none
 | none=>none
theorem R6 (fn:AFn) (call:d8) (n:Nat) (args:List AV) (st:St) (h:args.length=fn.np) :
 fn.run call n args st=finK fn.results (exec call n fn.code (args++List.replicate (fn.nv - fn.np) .undef) st):=by
 unfold AFn.run finK;rw[if_pos h];cases exec call n fn.code (args++List.replicate (fn.nv - fn.np) .undef) st with
 | none=>rfl
 | some x =>
  obtain⟨e,fr,st'⟩:=x;cases e<;>dsimp only<;>cases B3 fn.results fr st' with
  | none=>rfl
  | some vs =>
   match vs with
   | []=>rfl
   | [v]=>rfl
   | _::_::_=>rfl
theorem b80 (call:d8) (n:Nat) (fr:List AV) (st:St):exec call n .ret fr st=some (.ret,fr,st):=by simp only[exec]
theorem b52 (call:d8) (n id:Nat) (fr:List AV) (st:St):exec call n (.exit id) fr st=some (.exit id,fr,st):=by simp only[exec]
theorem b5b (call:d8) (n:Nat) (fr:List AV) (st:St):exec call n .skip fr st=some (.normal,fr,st):=by simp only[exec]
def P1 (c i:d8):Prop:=∀ f as st r,c f as st=some r→i f as st=some r
theorem c7G {c l:d8} (h:P1 c l) {k:Kind} {as:List AV} {b:AV} {st:St} {r:AV×AV×St} (hs:sem k c as b st=some r):sem k l as b st=some r:=by
 cases k
 case call f =>
  simp only[sem,n4]at hs ⊢;split at hs
  · rename_i j;rw[if_pos j];obtain⟨x,t,rfl⟩:=AK.1 hs;rw[h _ _ _ _ t];rfl
  · cases hs
 case callA f m =>
  simp only[sem,C9]at hs ⊢;cases i:n4 f c (as.take m) b st with
  | none=>rw[i]at hs; cases hs
  | some x =>
   rw[i]at hs;have:n4 f l (as.take m) b st=some x:=by
    unfold n4 at i ⊢;split at i
    · rename_i j;rw[if_pos j];obtain⟨y,u,rfl⟩:=AK.1 i;rw[h _ _ _ _ u];rfl
    · cases i
   rw[this];exact hs
 case callV =>
  simp only[sem]at hs ⊢;unfold D6 at hs ⊢;split at hs
  · split at hs
    · rename_i j;simp only[if_pos j];obtain⟨x,t,rfl⟩:=AK.1 hs;rw[h _ _ _ _ t];rfl
    · cases hs
  · cases hs
 all_goals exact hs
theorem b1M {c i:d8} (h:P1 c i) {o:AOper} {σ σ':Sig} (hs:y9 c o σ=some σ'):y9 i o σ=some σ':=by obtain⟨r,b',st',j,rfl⟩:=l5 hs;exact a1e (c7G h j)
theorem a4h {c j:d8} (h:P1 c j) {o:AOper} {σ σ':Sig} (hs:i7 c o σ=some σ'):i7 j o σ=some σ':=by
 unfold i7 at hs ⊢;split at hs
 · exact b1M h hs
 · split at hs
   · split at hs
     · rename_i i; rw[if_pos i]; exact b1M h hs
     · rename_i i; rw[if_neg i]; exact hs
   · exact hs
   · cases hs
theorem R9 {c j:d8} (h:P1 c j):∀ {os:List AOper} {σ σ':Sig},g9 c os σ=some σ'→g9 j os σ=some σ'
 | [],_,_,hs=>hs
 | o::os,σ,σ',hs=>by
  simp only[g9]at hs ⊢;cases i:i7 c o σ with
  | none=>simp[i]at hs
  | some σ1 =>simp only[i]at hs;simp only[a4h h i];exact R9 h hs
theorem a2F {body i:List AV→St→Option Out} (h:∀ fr st r,body fr st=some r→i fr st=some r):∀ {n m:Nat} {fr:List AV} {st:St} {r:Out},n≤m→E5 body n fr st=some r→E5 i m fr st=some r
 | 0,_,_,_,_,_,hs=>by simp[E5]at hs
 | n+1,0,_,_,_,j,_=>by omega
 | n+1,m+1,fr,st,r,j,hs=>by
  simp only[E5]at hs ⊢;cases l:body fr st with
  | none=>simp[l]at hs
  | some o =>
   rw[l]at hs;rw[h _ _ _ l];obtain⟨e,t,u⟩:=o;cases e with
   | normal=>exact a2F h (by omega) hs
   | exit id=>exact hs
   | ret=>exact hs
theorem r8 {c l:d8} (h:P1 c l) {n m:Nat} (i:n≤m):∀ {x:ACode} {fr:List AV} {st:St} {r:Out},exec c n x fr st=some r→exec l m x fr st=some r
 | .skip,_,_,_,hs=>hs
 | .exit _,_,_,_,hs=>hs
 | .ret,_,_,_,hs=>hs
 | .reg kill ops,fr,st,r,hs=>by
  simp only[exec]at hs ⊢;cases j:g9 c ops ⟨i6 kill fr,fun _=>.undef,st⟩with
  | none=>simp[j]at hs
  | some σ=>rw[j]at hs; rw[R9 h j]; exact hs
 | .test kill ops x a b,fr,st,r,hs=>by
  rw[a4r]at hs ⊢;rw[a0f]at hs ⊢;cases j:g9 c ops ⟨i6 kill fr,fun _=>.undef,st⟩with
  | none=>rw[j]at hs; cases hs
  | some σ =>
   rw[j]at hs;rw[R9 h j];rw[n9]at hs ⊢;unfold br at hs ⊢;split at hs
   · exact r8 h i hs
   · exact r8 h i hs
   · cases hs
 | .either kill a b,fr,st,r,hs=>by simp only[exec]at hs ⊢;obtain⟨E,F,u,y,t,C⟩:=a04 hs;rw[r8 h i u,r8 h i y,a2T (t.trans C.symm),t]
 | .seq a b,fr,st,r,hs=>by
  rw[exec_seqK]at hs ⊢;cases j:exec c n a fr st with
  | none=>rw[j]at hs; cases hs
  | some o =>
   rw[j]at hs;rw[r8 h i j];obtain⟨e,z,D⟩:=o;cases e with
   | normal=>exact r8 h i hs
   | exit id=>exact hs
   | ret=>exact hs
 | .blk id a,fr,st,r,hs=>by
  simp only[exec]at hs ⊢;cases j:exec c n a fr st with
  | none=>rw[j]at hs; cases hs
  | some o=>rw[j]at hs; rw[r8 h i j]; exact hs
 | .loop a,fr,st,r,hs=>by simp only[exec]at hs ⊢;exact a2F (fun _ _ _ B=>r8 h i B) i hs
theorem a8z {c l:d8} (h:P1 c l) {n m:Nat} (i:n≤m) {fn:AFn} {args:List AV} {st:St} {r:AV×St} (hs:fn.run c n args st=some r):fn.run l m args st=some r:=by
 have hl:args.length=fn.np:=by
  unfold AFn.run at hs;split at hs
  · assumption
  · cases hs
 rw[R6 _ _ _ _ _ hl]at hs ⊢;cases j:exec c n fn.code (args++List.replicate (fn.nv - fn.np) .undef) st with
 | none=>rw[j]at hs; cases hs
 | some o=>rw[j]at hs; rw[r8 h i j]; exact hs
theorem E8 {tbl:Nat→Option AFn}:∀ {n m:Nat},n≤m→P1 (j0 tbl n) (j0 tbl m)
 | 0,_,_,_,_,_,_,hs=>by simp[j0]at hs
 | n+1,0,j,_,_,_,_,_=>by omega
 | n+1,m+1,j,f,as,st,r,hs=>by
  simp only[j0]at hs ⊢;cases i:tbl f with
  | none=>simp[i]at hs
  | some fn =>
   simp only[i]at hs ⊢;cases l:fn.ext with
   | some e=>simp only[l]at hs ⊢; exact hs
   | none =>simp only[l]at hs ⊢;exact a8z (E8 (by omega)) (by omega) hs
def Ev (tbl:Nat→Option AFn) (f:Nat) (as:List AV) (st:St) (r:AV) (st':St):Prop:=∃ n,j0 tbl n f as st=some (r,st')
theorem Ev.ge {tbl:Nat→Option AFn} {f:Nat} {as:List AV} {st:St} {r:AV} {st':St} (h:Ev tbl f as st r st'):∃ i,∀ n,i≤n→j0 tbl n f as st=some (r,st') :=
 let ⟨n,hn⟩:=h; ⟨n,fun m hm=>E8 hm _ _ _ _ hn⟩
end Go.Cb
namespace Go.Cb
open Classical
section
variable {tbl:Nat→Option AFn}
def XC (tbl:Nat→Option AFn) (x:ACode) (fr:List AV) (st:St) (out:Out):Prop:=∃ n,exec (j0 tbl n) n x fr st=some out
theorem XC.ge {x:ACode} {fr:List AV} {st:St} {out:Out} (h:XC tbl x fr st out):∃ i,∀ n,i≤n→exec (j0 tbl n) n x fr st=some out :=
 let ⟨n,hn⟩:=h; ⟨n,fun m hm=>r8 (E8 hm) hm hn⟩
def LX (tbl:Nat→Option AFn) (x:ACode) (fr:List AV) (st:St) (out:Out):Prop:=∃ n k,E5 (exec (j0 tbl n) n x) k fr st=some out
theorem LX.done {x:ACode} {fr:List AV} {st:St} {e:Ex} {i:List AV} {st':St} (h:XC tbl x fr st (e,i,st')) (j:e≠.normal):LX tbl x fr st (e,i,st'):=by
 obtain⟨n,hn⟩:=h;refine⟨n,1,?_⟩;simp only[E5,hn];cases e with
 | normal=>exact absurd rfl j
 | exit id=>rfl
 | ret=>rfl
theorem LX.step {x:ACode} {fr i:List AV} {st j:St} {out:Out} (h:XC tbl x fr st (.normal,i,j)) (l:LX tbl x i j out):LX tbl x fr st out:=by obtain⟨n,hn⟩:=h;obtain⟨m,k,hm⟩:=l;refine⟨max n m,k+1,?_⟩;have t:=r8 (E8 (tbl:=tbl) (Nat.le_max_left n m)) (Nat.le_max_left n m) hn;simp only[E5,t];exact a2F (fun _ _ _ u=>r8 (E8 (Nat.le_max_right n m)) (Nat.le_max_right n m) u) (AJ k) hm
theorem XC.loop {x:ACode} {fr:List AV} {st:St} {out:Out} (h:LX tbl x fr st out):XC tbl (.loop x) fr st out:=by obtain⟨n,k,h⟩:=h;refine⟨max n k,?_⟩;simp only[exec];exact a2F (fun _ _ _ i=>r8 (E8 (Nat.le_max_left n k)) (Nat.le_max_left n k) i) (Nat.le_max_right n k) h
theorem XC.seq {a b:ACode} {fr i:List AV} {st j:St} {out:Out} (h:XC tbl a fr st (.normal,i,j)) (l:XC tbl b i j out):XC tbl (.seq a b) fr st out:=by obtain⟨n,hn⟩:=h;obtain⟨m,hm⟩:=l;refine⟨max n m,?_⟩;rw[exec_seqK,r8 (E8 (Nat.le_max_left n m)) (Nat.le_max_left n m) hn,a2l];exact r8 (E8 (Nat.le_max_right n m)) (Nat.le_max_right n m) hm
theorem XC.seq_out {a b:ACode} {fr i:List AV} {st j:St} {e:Ex} (h:XC tbl a fr st (e,i,j)) (l:e≠.normal):XC tbl (.seq a b) fr st (e,i,j):=by
 obtain⟨n,hn⟩:=h;refine⟨n,?_⟩;rw[exec_seqK,hn];cases e with
 | normal=>exact absurd rfl l
 | exit id=>rfl
 | ret=>rfl
theorem XC.blk {id:Nat} {a:ACode} {fr i:List AV} {st j:St} {e:Ex} (h:XC tbl a fr st (e,i,j)):XC tbl (.blk id a) fr st (if e=.exit id then .normal else e,i,j):=by
 obtain⟨n,hn⟩:=h;refine⟨n,?_⟩;simp only[exec,hn];cases e with
 | normal=>rfl
 | exit l =>
  by_cases hid:l=id
  · subst hid; simp
  · simp[hid]
 | ret=>rfl
theorem XC.skip {fr:List AV} {st:St}:XC tbl .skip fr st (.normal,fr,st):=⟨0,rfl⟩
theorem XC.exit {id:Nat} {fr:List AV} {st:St}:XC tbl (.exit id) fr st (.exit id,fr,st):=⟨0,rfl⟩
theorem XC.ret {fr:List AV} {st:St}:XC tbl .ret fr st (.ret,fr,st):=⟨0,rfl⟩
theorem XC.of {x:ACode} {fr:List AV} {st:St} {out:Out} (h:∃ i,∀ n,i≤n→exec (j0 tbl n) n x fr st=some out):XC tbl x fr st out :=
 let ⟨n,hn⟩:=h; ⟨n,hn n (AJ n)⟩
theorem XC.goes {x a:ACode} {fr i:List AV} {st j:St} {out:Out} (h:∃ t,∀ n,t≤n→exec (j0 tbl n) n x fr st=exec (j0 tbl n) n a i j) (l:XC tbl a i j out):XC tbl x fr st out:=by obtain⟨n,hn⟩:=h;obtain⟨m,hm⟩:=l.ge;exact⟨max n m,by rw[hn _ (Nat.le_max_left n m)]; exact hm _ (Nat.le_max_right n m)⟩
theorem Ev.of_body {f:Nat} {fn:AFn} {as:List AV} {st:St} {e:Ex} {i:List AV} {st':St} {r:AV×St} (j:tbl f=some fn) (l:fn.ext=none) (hl:as.length=fn.np)
 (h:XC tbl fn.code (as++List.replicate (fn.nv - fn.np) .undef) st (e,i,st')) (t:finK fn.results (some (e,i,st'))=some r):Ev tbl f as st r.1 r.2:=by
 obtain⟨n,hn⟩:=h;refine⟨n+1,?_⟩;simp only[j0,j,l];rw[R6 _ _ _ _ _ hl,hn,t]
theorem Ev.of_ext {f:Nat} {fn:AFn} {as:List AV} {st:St} {e:List AV→St→Option (AV×St)} {r:AV×St} (i:tbl f=some fn) (j:fn.ext=some e) (h:e as st=some r):Ev tbl f as st r.1 r.2 :=
 ⟨1,by simp only[j0,i,j]; exact h⟩
end
end Go.Cb
namespace Go.Cb.G
open Go Go.Cb
variable {ρ:Type}
section
noncomputable def onI (x:AV) (e:(Option ρ)) (k:IntKind→Int→(Option ρ)):(Option ρ):=AV.rec (motive_1:=fun _=>(Option ρ)) (motive_2:=fun _=>Unit) (motive_3:=fun _=>Unit)
 e (fun _=>e) (fun t n=>k t n) (fun _=>e) (fun _ _ _=>e) (fun _ _=>e) e (fun _ _=>e) (fun _ _=>e) (fun _ _=>e) (fun _=>e) e (fun _ _ _ _ _=>e) e (fun _ _=>e) (fun _ _=>e) (fun _ _ _=>e) e (fun _ _ _ _=>e) (fun _ _=>e) e
 () (fun _ _ _ _=>()) () (fun _ _ _ _=>()) x
noncomputable def b7s (x:AV) (e:(Option ρ)) (k:IntKind→Int→(Option ρ)) (l:List Nat→(Option ρ)):(Option ρ):=AV.rec (motive_1:=fun _=>(Option ρ)) (motive_2:=fun _=>Unit) (motive_3:=fun _=>Unit)
 e (fun _=>e) (fun t n=>k t n) (fun s=>l s) (fun _ _ _=>e) (fun _ _=>e) e (fun _ _=>e) (fun _ _=>e) (fun _ _=>e) (fun _=>e) e (fun _ _ _ _ _=>e) e (fun _ _=>e) (fun _ _=>e) (fun _ _ _=>e) e (fun _ _ _ _=>e) (fun _ _=>e) e
 () (fun _ _ _ _=>()) () (fun _ _ _ _=>()) x
noncomputable def onS (x:AV) (e:(Option ρ)) (k:List Nat→(Option ρ)):(Option ρ):=AV.rec (motive_1:=fun _=>(Option ρ)) (motive_2:=fun _=>Unit) (motive_3:=fun _=>Unit)
 e (fun _=>e) (fun t n=>e) (fun s=>k s) (fun _ _ _=>e) (fun _ _=>e) e (fun _ _=>e) (fun _ _=>e) (fun _ _=>e) (fun _=>e) e (fun _ _ _ _ _=>e) e (fun _ _=>e) (fun _ _=>e) (fun _ _ _=>e) e (fun _ _ _ _=>e) (fun _ _=>e) e
 () (fun _ _ _ _=>()) () (fun _ _ _ _=>()) x
noncomputable def onB (x:AV) (e:(Option ρ)) (k:Bool→(Option ρ)):(Option ρ):=AV.rec (motive_1:=fun _=>(Option ρ)) (motive_2:=fun _=>Unit) (motive_3:=fun _=>Unit)
 e (fun b=>k b) (fun t n=>e) (fun s=>e) (fun _ _ _=>e) (fun _ _=>e) e (fun _ _=>e) (fun _ _=>e) (fun _ _=>e) (fun _=>e) e (fun _ _ _ _ _=>e) e (fun _ _=>e) (fun _ _=>e) (fun _ _ _=>e) e (fun _ _ _ _=>e) (fun _ _=>e) e
 () (fun _ _ _ _=>()) () (fun _ _ _ _=>()) x
noncomputable def c6U (x:AV) (e:(Option ρ)) (k:Bool→(Option ρ)) (t:List AV→(Option ρ)):(Option ρ):=AV.rec (motive_1:=fun _=>(Option ρ)) (motive_2:=fun _=>Unit) (motive_3:=fun _=>Unit)
 e (fun b=>k b) (fun t n=>e) (fun s=>e) (fun _ _ _=>e) (fun _ _=>e) e (fun _ _=>e) (fun _ _=>e) (fun _ _=>e) (fun _=>e) e (fun _ _ _ _ _=>e) e (fun _ _=>e) (fun vs _=>t vs) (fun _ _ _=>e) e (fun _ _ _ _=>e) (fun _ _=>e) e
 () (fun _ _ _ _=>()) () (fun _ _ _ _=>()) x
noncomputable def onL (x:AV) (e:(Option ρ)) (k:List (List AV)→(Option ρ)):(Option ρ):=AV.rec (motive_1:=fun _=>(Option ρ)) (motive_2:=fun _=>Unit) (motive_3:=fun _=>Unit)
 e (fun b=>e) (fun t n=>e) (fun s=>e) (fun _ xs _=>k xs) (fun _ _=>e) e (fun _ _=>e) (fun _ _=>e) (fun _ _=>e) (fun _=>e) e (fun _ _ _ _ _=>e) e (fun _ _=>e) (fun _ _=>e) (fun _ _ _=>e) e (fun _ _ _ _=>e) (fun _ _=>e) e
 () (fun _ _ _ _=>()) () (fun _ _ _ _=>()) x
noncomputable def onP (x:AV) (e:(Option ρ)) (k:Nat→Nat→(Option ρ)):(Option ρ):=AV.rec (motive_1:=fun _=>(Option ρ)) (motive_2:=fun _=>Unit) (motive_3:=fun _=>Unit)
 e (fun b=>e) (fun t n=>e) (fun s=>e) (fun _ xs _=>e) (fun o f=>k o f) e (fun _ _=>e) (fun _ _=>e) (fun _ _=>e) (fun _=>e) e (fun _ _ _ _ _=>e) e (fun _ _=>e) (fun _ _=>e) (fun _ _ _=>e) e (fun _ _ _ _=>e) (fun _ _=>e) e
 () (fun _ _ _ _=>()) () (fun _ _ _ _=>()) x
noncomputable def a8c (x:AV) (e:(Option ρ)) (k:Nat→Nat→(Option ρ)) (l:List AV→(Option ρ)) (m:Nat→Nat→(Option ρ)):(Option ρ):=AV.rec (motive_1:=fun _=>(Option ρ)) (motive_2:=fun _=>Unit) (motive_3:=fun _=>Unit)
 e (fun b=>e) (fun t n=>e) (fun s=>e) (fun _ xs _=>e) (fun o f=>k o f) e (fun cs _=>l cs) (fun i f=>m i f) (fun _ _=>e) (fun _=>e) e (fun _ _ _ _ _=>e) e (fun _ _=>e) (fun _ _=>e) (fun _ _ _=>e) e (fun _ _ _ _=>e) (fun _ _=>e) e
 () (fun _ _ _ _=>()) () (fun _ _ _ _=>()) x
noncomputable def onR (x:AV) (e:(Option ρ)) (l:List AV→(Option ρ)):(Option ρ):=AV.rec (motive_1:=fun _=>(Option ρ)) (motive_2:=fun _=>Unit) (motive_3:=fun _=>Unit)
 e (fun b=>e) (fun t n=>e) (fun s=>e) (fun _ xs _=>e) (fun o f=>e) e (fun cs _=>l cs) (fun _ _=>e) (fun _ _=>e) (fun _=>e) e (fun _ _ _ _ _=>e) e (fun _ _=>e) (fun _ _=>e) (fun _ _ _=>e) e (fun _ _ _ _=>e) (fun _ _=>e) e
 () (fun _ _ _ _=>()) () (fun _ _ _ _=>()) x
noncomputable def b2y (x:AV) (e:(Option ρ)) (l:List AV→(Option ρ)):(Option ρ):=AV.rec (motive_1:=fun _=>(Option ρ)) (motive_2:=fun _=>Unit) (motive_3:=fun _=>Unit)
 e (fun b=>e) (fun t n=>e) (fun s=>e) (fun _ xs _=>e) (fun o f=>e) e (fun cs _=>e) (fun _ _=>e) (fun cs _=>l cs) (fun _=>e) e (fun _ _ _ _ _=>e) e (fun _ _=>e) (fun _ _=>e) (fun _ _ _=>e) e (fun _ _ _ _=>e) (fun _ _=>e) e
 () (fun _ _ _ _=>()) () (fun _ _ _ _=>()) x
noncomputable def b69 (x:AV) (e:(Option ρ)) (l:Nat→Nat→(Option ρ)):(Option ρ):=AV.rec (motive_1:=fun _=>(Option ρ)) (motive_2:=fun _=>Unit) (motive_3:=fun _=>Unit)
 e (fun b=>e) (fun t n=>e) (fun s=>e) (fun _ xs _=>e) (fun o f=>e) e (fun cs _=>e) (fun i f=>l i f) (fun cs _=>e) (fun _=>e) e (fun _ _ _ _ _=>e) e (fun _ _=>e) (fun _ _=>e) (fun _ _ _=>e) e (fun _ _ _ _=>e) (fun _ _=>e) e
 () (fun _ _ _ _=>()) () (fun _ _ _ _=>()) x
theorem a0D (x:AV) (e:(Option ρ)) (k:IntKind→Int→(Option ρ)):onI x e k=match x with|.int t n=>k t n|_=>e:=by cases x<;>rfl
theorem b2j (x:AV) (e:(Option ρ)) (k:IntKind→Int→(Option ρ)) (l:List Nat→(Option ρ)):b7s x e k l=match x with|.int t n=>k t n|.str s=>l s|_=>e:=by cases x<;>rfl
theorem a3V (x:AV) (e:(Option ρ)) (k:List Nat→(Option ρ)):onS x e k=match x with|.str s=>k s|_=>e:=by cases x<;>rfl
theorem b0v (x:AV) (e:(Option ρ)) (k:Bool→(Option ρ)):onB x e k=match x with|.bool b=>k b|_=>e:=by cases x<;>rfl
theorem c4F (x:AV) (e:(Option ρ)) (k:Bool→(Option ρ)) (t:List AV→(Option ρ)):c6U x e k t=match x with|.bool b=>k b|.tuple vs=>t vs|_=>e:=by cases x<;>rfl
theorem a8N (x:AV) (e:(Option ρ)) (k:List (List AV)→(Option ρ)):onL x e k=match x with|.list _ xs=>k xs|_=>e:=by cases x<;>rfl
theorem a8H (x:AV) (e:(Option ρ)) (k:Nat→Nat→(Option ρ)):onP x e k=match x with|.ptr o f=>k o f|_=>e:=by cases x<;>rfl
theorem a5q (x:AV) (e:(Option ρ)) (k:Nat→Nat→(Option ρ)) (l:List AV→(Option ρ)) (m:Nat→Nat→(Option ρ)):a8c x e k l m=match x with|.ptr o f=>k o f|.ro cs=>l cs|.loc i f=>m i f|_=>e:=by cases x<;>rfl
theorem d1J (x:AV) (e:(Option ρ)) (l:List AV→(Option ρ)):onR x e l=match x with|.ro cs=>l cs|_=>e:=by cases x<;>rfl
theorem a7p (x:AV) (e:(Option ρ)) (l:List AV→(Option ρ)):b2y x e l=match x with|.box cs=>l cs|_=>e:=by cases x<;>rfl
theorem b1E (x:AV) (e:(Option ρ)) (l:Nat→Nat→(Option ρ)):b69 x e l=match x with|.loc i f=>l i f|_=>e:=by cases x<;>rfl
end
noncomputable def kIx (k:IntKind):Nat:=IntKind.rec (motive:=fun _=>Nat) 0 1 2 3 4 5 6 7 k
noncomputable def cB (b:Bool) (x y:(Option ρ)):(Option ρ):=Bool.rec (motive:=fun _=>(Option ρ)) y x b
theorem R3 (b:Bool) (x y:(Option ρ)):cB b x y=if b=true then x else y:=by cases b<;>rfl
theorem a3z (a b:IntKind):Nat.beq (kIx a) (kIx b)=decide (a=b):=by cases a<;>cases b<;>rfl
noncomputable def bo (b:Bool) (k:AV→(Option ρ)):(Option ρ):=cB b (k (.bool true)) (k (.bool false))
theorem a6v (b:Bool) (k:AV→(Option ρ)):bo b k=k (.bool b):=by cases b<;>rfl
noncomputable def a3a (n:Nat) (k:Nat→(Option ρ)):(Option ρ):=Nat.rec (motive:=fun _=>(Option ρ)) (k 0) (fun m _=>k (Nat.succ m)) n
theorem a0l (n:Nat) (k:Nat→(Option ρ)):a3a n k=k n:=by cases n<;>rfl
noncomputable def nn (a b:Int) (e:(Option ρ)) (k:Nat→Nat→(Option ρ)):(Option ρ):=Int.rec (motive:=fun _=>(Option ρ)) (fun a=>Int.rec (motive:=fun _=>(Option ρ)) (fun b=>k a b) (fun _=>e) b) (fun _=>e) a
theorem a4C (a b:Int) (e:(Option ρ)) (k:Nat→Nat→(Option ρ)):nn a b e k=match a,b with|.ofNat a,.ofNat b=>k a b|_,_=>e:=by cases a<;>cases b<;>rfl
noncomputable def eqF (x:List Nat):List Nat→Bool:=List.rec (motive:=fun _=>List Nat→Bool) (fun y=>List.rec (motive:=fun _=>Bool) true (fun _ _ _=>false) y)
 (fun a _ i y=>List.rec (motive:=fun _=>Bool) false (fun b t _=>Bool.rec (motive:=fun _=>Bool) false (i t) (Nat.beq a b)) y) x
theorem a9x:∀ x y:List Nat,eqF x y=eqN x y
 | [],[]=>rfl
 | [],_::_=>rfl
 | _::_,[]=>rfl
 | a::x,b::y=>by have i:=a9x x y;show(Bool.rec (motive:=fun _=>Bool) false (eqF x y) (Nat.beq a b))=(Nat.beq a b && eqN x y);rw[i];cases Nat.beq a b<;>rfl
noncomputable def a4j {β:Type} (l:List β) (e:(Option ρ)) (k:β→(Option ρ)):Nat→(Option ρ):=List.rec (motive:=fun _=>Nat→(Option ρ)) (fun _=>e) (fun a _ t i=>Nat.rec (motive:=fun _=>(Option ρ)) (k a) (fun j _=>t j) i) l
theorem a2r {β:Type}:∀ (l:List β) (e:(Option ρ)) (k:β→(Option ρ)) (i:Nat),a4j l e k i=match l[i]? with|some a=>k a|none=>e
 | [],e,k,i=>by cases i<;>rfl
 | a::l,e,k,0=>rfl
 | a::l,e,k,i+1=>by have:=a2r l e k i;show a4j l e k i=_;rw[this];simp
noncomputable def J1 {β:Type} (l:List β):Nat:=List.rec (motive:=fun _=>Nat) 0 (fun _ _ n=>Nat.add n 1) l
theorem G4 {β:Type}:∀ l:List β,J1 l=l.length
 | []=>rfl
 | a::l=>by show Nat.add (J1 l) 1=_;rw[G4 l];rfl
noncomputable def a6q (n:Nat):List AV→List AV:=Nat.rec (motive:=fun _=>List AV→List AV) (fun l=>l) (fun _ i l=>List.rec (motive:=fun _=>List AV) [] (fun _ t _=>i t) l) n
theorem a0p:∀ (n:Nat) (l:List AV),a6q n l=l.drop n
 | 0,l=>rfl
 | n+1,[]=>rfl
 | n+1,a::l=>a0p n l
noncomputable def a8n {β:Type} (i:Nat) (l:List β):List β:=Nat.rec (motive:=fun _=>List β) l (fun _ j=>List.rec (motive:=fun _=>List β) [] (fun _ t _=>t) j) i
theorem a5T {β:Type}:∀ (i:Nat) (l:List β),a8n i l=l.drop i
 | 0,l=>rfl
 | i+1,l=>by have:=a5T i l;show List.rec (motive:=fun _=>List β) [] (fun _ t _=>t) (a8n i l)=_;rw[this,show l.drop (i+1)=(l.drop i).drop 1 by rw[List.drop_drop]];cases l.drop i<;>rfl
noncomputable def atO {β:Type} (l:List β) (e:(Option ρ)) (k:β→(Option ρ)) (i:Nat):(Option ρ):=List.rec (motive:=fun _=>(Option ρ)) e (fun a _ _=>k a) (a8n i l)
theorem b6N {β:Type} (l:List β) (e:(Option ρ)) (k:β→(Option ρ)) (i:Nat):atO l e k i=match l[i]? with|some a=>k a|none=>e:=by
 unfold atO;rw[a5T];have h:l[i]?=(l.drop i)[0]?:=by simp
 rw[h];cases l.drop i<;>rfl
noncomputable def a8h {β:Type} (n:Nat) (l:List β) (k:List β→(Option ρ)):(Option ρ):=Nat.rec (motive:=fun _=>List β→(List β→(Option ρ))→(Option ρ)) (fun _ k=>k []) (fun _ i l k=>List.rec (motive:=fun _=>(Option ρ)) (k []) (fun a t _=>i t fun r=>k (a::r)) l) n l k
theorem a3t {β:Type}:∀ (n:Nat) (l:List β) (k:List β→(Option ρ)),a8h n l k=k (l.take n)
 | 0,l,k=>by show k []=_; rw[List.take_zero]
 | n+1,[],k=>rfl
 | n+1,a::l,k=>a3t n l fun r=>k (a::r)
noncomputable def a5F {β:Type} (l r:List β) (k:List β→(Option ρ)):(Option ρ):=List.rec (motive:=fun _=>(List β→(Option ρ))→(Option ρ)) (fun k=>k r) (fun a _ i k=>i fun t=>k (a::t)) l k
theorem a4z {β:Type} (r:List β):∀ (l:List β) (k:List β→(Option ρ)),a5F l r k=k (l++r)
 | [],k=>rfl
 | a::l,k=>a4z r l fun t=>k (a::t)
noncomputable def c0a (l:List AV) (e:(Option ρ)) (k:AV→(Option ρ)):(Option ρ):=List.rec (motive:=fun _=>(Option ρ)) e (fun a _ _=>k a) l
theorem b7f (l:List AV) (e:(Option ρ)) (k:AV→(Option ρ)):c0a l e k=match l with|a::_=>k a|[]=>e:=by cases l<;>rfl
noncomputable def w1K (x:AV) (k:AV→(Option ρ)):(Option ρ):=AV.rec (motive_1:=fun _=>(Option ρ)) (motive_2:=fun _=>Unit) (motive_3:=fun _=>Unit)
 (k .undef) (fun b=>k (.bool b)) (fun t n=>k (.int t n)) (fun s=>k (.str s)) (fun _ xs _=>k (.list false xs)) (fun o f=>k (.ptr o f)) (k .nilp) (fun cs _=>k (.ro cs)) (fun i f=>k (.loc i f)) (fun cs _=>k (.box cs)) (fun o=>k (.map o)) (k .nilm) (fun f a c _ _=>k (.func f a c)) (k .nilf) (fun cs _=>k (.agg cs)) (fun vs _=>k (.tuple vs)) (fun t v _=>k (.iface t v)) (k .nili) (fun o f n s=>k (.sl o f n s)) (fun xs _=>k (.fresh xs)) (k .nils)
 () (fun _ _ _ _=>()) () (fun _ _ _ _=>()) x
theorem b56 (x:AV) (k:AV→(Option ρ)):w1K x k=k x.weak1:=by cases x<;>rfl
noncomputable def b9d (l:List AV) (k:List AV→(Option ρ)):(Option ρ):=List.rec (motive:=fun _=>(List AV→(Option ρ))→(Option ρ)) (fun k=>k []) (fun a _ i k=>w1K a fun w=>i fun r=>k (w::r)) l k
theorem b1K:∀ (l:List AV) (k:List AV→(Option ρ)),b9d l k=k (l.map AV.weak1)
 | [],k=>rfl
 | a::l,k=>by show w1K a (fun w=>b9d l fun r=>k (w::r))=_;rw[b56,b1K l];rfl
noncomputable def a5Z {β:Type} (l:List β) (e:(Option ρ)) (k:List β→(Option ρ)):(Option ρ):=List.rec (motive:=fun _=>(Option ρ)) e (fun _ l _=>List.rec (motive:=fun _=>(Option ρ)) e (fun _ l _=>List.rec (motive:=fun _=>(Option ρ)) e (fun _ l _=>List.rec (motive:=fun _=>(Option ρ)) e (fun _ l _=>List.rec (motive:=fun _=>(Option ρ)) e (fun _ l _=>List.rec (motive:=fun _=>(Option ρ)) e (fun _ l _=>List.rec (motive:=fun _=>(Option ρ)) e (fun _ l _=>List.rec (motive:=fun _=>(Option ρ)) e (fun _ l _=>k l) l) l) l) l) l) l) l) l
theorem b7g {β:Type} (l:List β) (e:(Option ρ)) (k:List β→(Option ρ)):a5Z l e k=if 8≤l.length then k (l.drop 8)else e:=by
 match l with
 | []=>rfl
 | [_]=>rfl
 | [_,_]=>rfl
 | [_,_,_]=>rfl
 | [_,_,_,_]=>rfl
 | [_,_,_,_,_]=>rfl
 | [_,_,_,_,_,_]=>rfl
 | [_,_,_,_,_,_,_]=>rfl
 | _::_::_::_::_::_::_::_::t=>rw[if_pos (by simp)]; rfl
noncomputable def b2E {β:Type} (l:List β) (e:(Option ρ)) (k:β→(Option ρ)) (i:Nat):(Option ρ):=Nat.rec (motive:=fun _=>List β→(Option ρ)) (fun l=>a4j l e k (Nat.mod i 8)) (fun _ j l=>a5Z l e j) (Nat.div i 8) l
theorem b1F {β:Type} (e:(Option ρ)) (k:β→(Option ρ)) (r:Nat):∀ (q:Nat) (l:List β),Nat.rec (motive:=fun _=>List β→(Option ρ)) (fun l=>a4j l e k r) (fun _ i l=>a5Z l e i) q l=a4j l e k (8*q+r)
 | 0,l=>by show a4j l e k r=_; rw[Nat.mul_zero,Nat.zero_add]
 | q+1,l=>by
  show a5Z l e (fun l=>Nat.rec (motive:=fun _=>List β→(Option ρ)) (fun l=>a4j l e k r) (fun _ i l=>a5Z l e i) q l)=_;rw[b7g,b1F e k r q (l.drop 8),a2r,a2r];split
  · rw[List.getElem?_drop,show 8+(8*q+r)=8*(q+1)+r by omega]
  · rw[List.getElem?_eq_none (by omega)]
theorem a7h {β:Type} (l:List β) (e:(Option ρ)) (k:β→(Option ρ)) (i:Nat):b2E l e k i=match l[i]? with|some a=>k a|none=>e:=by unfold b2E;rw[b1F e k (Nat.mod i 8) (Nat.div i 8) l,a2r,show 8*Nat.div i 8+Nat.mod i 8=i from Nat.div_add_mod i 8]
noncomputable def a3g {β:Type} (l:List β) (e:(Option ρ)) (i:List β→(List β→(Option ρ))→(Option ρ)) (k:List β→(Option ρ)):(Option ρ):=List.rec (motive:=fun _=>(Option ρ)) e (fun a0 l _=>List.rec (motive:=fun _=>(Option ρ)) e (fun a1 l _=>List.rec (motive:=fun _=>(Option ρ)) e (fun a2 l _=>List.rec (motive:=fun _=>(Option ρ)) e (fun a3 l _=>List.rec (motive:=fun _=>(Option ρ)) e (fun a4 l _=>List.rec (motive:=fun _=>(Option ρ)) e (fun a5 l _=>List.rec (motive:=fun _=>(Option ρ)) e (fun a6 l _=>List.rec (motive:=fun _=>(Option ρ)) e (fun a7 l _=>i l (fun r=>k (a0::a1::a2::a3::a4::a5::a6::a7::r))) l) l) l) l) l) l) l) l
theorem b1D {β:Type} (l:List β) (e:(Option ρ)) (i:List β→(List β→(Option ρ))→(Option ρ)) (k:List β→(Option ρ)):a3g l e i k=if 8≤l.length then i (l.drop 8) (fun r=>k (l.take 8++r))else e:=by
 match l with
 | []=>rfl
 | [_]=>rfl
 | [_,_]=>rfl
 | [_,_,_]=>rfl
 | [_,_,_,_]=>rfl
 | [_,_,_,_,_]=>rfl
 | [_,_,_,_,_,_]=>rfl
 | [_,_,_,_,_,_,_]=>rfl
 | _::_::_::_::_::_::_::_::t=>rw[if_pos (by simp)]; rfl
section
variable (c:d8) (b:AV) (s:St) (f:AV→(Option ρ))
noncomputable def b8T (x y:AV):(Option ρ):=b7s x none (fun t m=>onI y none fun u n=>cB (Nat.beq (kIx t) (kIx u)) (nn m n (bo (eqI m n) f) fun a b=>bo (Nat.beq a b) f) none) (fun l=>onS y none fun r=>bo (eqF l r) f)
noncomputable def b9y (x y:AV):(Option ρ):=b7s x none (fun t m=>onI y none fun u n=>cB (Nat.beq (kIx t) (kIx u)) (nn m n (bo (!eqI m n) f) fun a b=>cB (Nat.beq a b) (f (.bool false)) (f (.bool true))) none) (fun l=>onS y none fun r=>cB (eqF l r) (f (.bool false)) (f (.bool true)))
noncomputable def a2e (op:BinOp) (g:Nat→Nat→Bool) (x y:AV):(Option ρ):=onI x (obind (p1 (sem (.bin op) c [x,y] b s)) f) (fun t m=>onI y none fun u n=>cB (Nat.beq (kIx t) (kIx u)) (nn m n (obind (p1 (sem (.bin op) c [.int t m,.int u n] b s)) f) fun a b=>bo (g a b) f) none)
noncomputable def b9K (x y:AV):(Option ρ):=onI x (obind (p1 (sem (.bin .add) c [x,y] b s)) f) (fun t m=>onI y none fun u n=>cB (Nat.beq (kIx t) (kIx u)) (nn m n (obind (p1 (sem (.bin .add) c [.int t m,.int u n] b s)) f)
 fun i j=>a3a (Nat.add i j) fun r=>cB (Nat.blt r 128) (f (.int t (.ofNat r))) (cB (Nat.beq (kIx t) 3) (cB (Nat.blt r 9223372036854775808) (f (.int t (.ofNat r))) (obind (p1 (sem (.bin .add) c [.int t m,.int u n] b s)) f)) (obind (p1 (sem (.bin .add) c [.int t m,.int u n] b s)) f))) none)
noncomputable def b9b (x y:AV):(Option ρ):=onI x (obind (p1 (sem (.bin .sub) c [x,y] b s)) f) (fun t m=>onI y none fun u n=>cB (Nat.beq (kIx t) (kIx u)) (nn m n (obind (p1 (sem (.bin .sub) c [.int t m,.int u n] b s)) f)
 fun i j=>cB (Nat.ble j i) (a3a (Nat.sub i j) fun r=>cB (Nat.blt r 128) (f (.int t (.ofNat r))) (cB (Nat.beq (kIx t) 3) (cB (Nat.blt r 9223372036854775808) (f (.int t (.ofNat r))) (obind (p1 (sem (.bin .sub) c [.int t m,.int u n] b s)) f)) (obind (p1 (sem (.bin .sub) c [.int t m,.int u n] b s)) f))) (obind (p1 (sem (.bin .sub) c [.int t m,.int u n] b s)) f)) none)
noncomputable def b71 (x:AV):(Option ρ):=onB x none fun y=>cB y (f (.bool false)) (f (.bool true))
noncomputable def a9r (x:AV):(Option ρ):=cB x.plain (f x) none
noncomputable def b2P (x y z:AV):(Option ρ):=onB x none fun v=>cB v (a9r f y) (a9r f z)
noncomputable def b9Z (x:AV):(Option ρ):=a8c x (obind (p1 (sem .nilchk c [x] b s)) f) (fun o i=>f (.ptr o i)) (fun cs=>f (.ro cs)) (fun i j=>f (.loc i j))
noncomputable def b9v (d:Nat) (x:AV):(Option ρ):=a8c x none (fun o i=>a3a (Nat.add i d) fun i=>f (.ptr o i)) (fun cs=>f (.ro (a6q d cs))) (fun o i=>a3a (Nat.add i d) fun i=>f (.loc o i))
noncomputable def a4B (i:Bool) (n:Nat) (cs:List AV):(Option ρ):=cB i (cB (Nat.ble n (J1 cs)) (a8h n cs fun r=>b9d r fun r=>f (.agg r)) none) (c0a cs none fun x=>w1K x f)
noncomputable def a9P (x:Obj) (k:List AV→(Option ρ)):(Option ρ):=Obj.rec (motive:=fun _=>(Option ρ)) k (fun _=>none) none x
noncomputable def a3s (j:Bool) (n:Nat) (x:AV):(Option ρ):=onP x none fun o i=>b2E s none (fun l=>a9P l fun cs=>a4B f j n (a6q i cs)) o
noncomputable def a6i (i:Bool) (n:Nat) (x:AV):(Option ρ):=onR x none fun cs=>a4B f i n cs
noncomputable def b4S (i:Nat) (l:Bool) (n:Nat) (x:AV):(Option ρ):=b69 x none fun j off=>b2y b none fun cs=>cB (Nat.beq i j) (a4B f l n (a6q off cs)) none
noncomputable def b4z (x:AV):(Option ρ):=onS x none fun l=>a3a (J1 l) fun n=>f (.int .i64 (.ofNat n))
noncomputable def b4o (x:AV):(Option ρ):=onL x (obind (p1 (sem .lenL c [x] b s)) f) fun l=>a3a (J1 l) fun n=>f (.int .i64 (.ofNat n))
noncomputable def b9C (x y:AV):(Option ρ):=onS x none fun l=>onI y none fun _ n=>Int.rec (motive:=fun _=>(Option ρ)) (fun i=>atO l none (fun m=>f (.int .u8 (.ofNat m))) i) (fun _=>none) n
noncomputable def b68 (j:Nat) (x y:AV):(Option ρ):=onL x (obind (p1 (sem (.iad j) c [x,y] b s)) f) fun l=>onI y none fun _ n=>Int.rec (motive:=fun _=>(Option ρ)) (fun i=>atO l none (fun r=>cB (Nat.beq (J1 r) j) (f (.ro r)) none) i) (fun _=>none) n
end
section
variable (c:d8) (b:AV) (s:St) (f:AV→(Option ρ))
theorem c2q (x y:AV):b8T f x y=obind (p1 (sem (.bin .eql) c [x,y] b s)) f:=by
 simp only[b8T,b2j,a0D,a3V,R3,a6v,a4C,a9x,a3z,sem,A0];cases x<;>cases y<;>try rfl
 · rename_i t m u n;by_cases h:t=u
   · subst h;cases m<;>cases n<;>simp[l7,p1,obind,eqI]
   · simp[l7,h,p1,obind]
theorem c1f (x y:AV):b9y f x y=obind (p1 (sem (.bin .neq) c [x,y] b s)) f:=by
 simp only[b9y,b2j,a0D,a3V,R3,a6v,a4C,a9x,a3z,sem,A0];cases x<;>cases y<;>try rfl
 · rename_i t m u n;by_cases h:t=u
   · subst h;cases m<;>cases n<;>simp[l7,p1,obind,eqI];rename_i m n;by_cases h:m=n
     · subst h; simp
     · have e:Nat.beq m n=false:=Bool.eq_false_iff.mpr (fun q=>h (Nat.eq_of_beq_eq_true q));simp[e,h]
   · simp[l7,h,p1,obind]
 · rename_i l r;simp only[l7,AN,p1,obind];cases eqN l r<;>rfl
theorem b7i {op:BinOp} (i:op=.lss∨op=.leq∨op=.gtr∨op=.geq) (t:IntKind) (m:Int) (y:AV) (j:∀ u n,y≠.int u n):l7 op (.int t m) y=none:=by cases y<;>first|(exfalso; exact j _ _ rfl)|(rcases i with rfl|rfl|rfl|rfl<;>rfl)
theorem c77 {op:BinOp} (i:op=.lss∨op=.leq∨op=.gtr∨op=.geq) {t u:IntKind} (h:t≠u) (m n:Int):l7 op (.int t m) (.int u n)=none:=by rcases i with rfl|rfl|rfl|rfl<;>simp[l7,h]
theorem a4O (op:BinOp) (g:Nat→Nat→Bool) (l:op=.lss∨op=.leq∨op=.gtr∨op=.geq) (z:∀ (t:IntKind) (i j:Nat),l7 op (.int t (.ofNat i)) (.int t (.ofNat j))=some (.bool (g i j))) (x y:AV):a2e c b s f op g x y=obind (p1 (sem (.bin op) c [x,y] b s)) f:=by
 simp only[a2e,a0D,R3,a6v,a4C,a3z];cases x<;>try rfl
 rename_i t m;cases y
 case int u n =>
  simp only;by_cases h:t=u
  · subst h;simp only[decide_true,if_true];cases m<;>cases n<;>try rfl
    rename_i i j;simp only[sem,A0,z,AN,p1,obind]
  · simp only[h,decide_false,Bool.false_eq_true,if_false,sem,A0,c77 l h,Option.map_none,p1,obind]
 all_goals (simp only[sem,A0]; rw[b7i l _ _ _ (by simp)]; rfl)
theorem a6g (t:IntKind) {r:Nat} (h:r < 128):B2 t (Int.ofNat r)=Int.ofNat r:=by rw[R5];cases t<;>simp[IntKind.wrap,IntKind.signed,IntKind.bits]<;>omega
theorem a7I {r:Nat} (h:r < 9223372036854775808):B2 .i64 (Int.ofNat r)=Int.ofNat r:=by simp only[B2];rw[if_pos (by simpa using h)]
theorem c0g (t:IntKind):Nat.beq (kIx t) 3=true→t=.i64:=by cases t<;>decide
theorem a6j {op:BinOp} (i:op=.add∨op=.sub) (t:IntKind) (m:Int) (y:AV) (j:∀ u n,y≠.int u n):l7 op (.int t m) y=none:=by cases y<;>first|(exfalso; exact j _ _ rfl)|(rcases i with rfl|rfl<;>rfl)
theorem c2E (x y:AV):b9K c b s f x y=obind (p1 (sem (.bin .add) c [x,y] b s)) f:=by
 simp only[b9K,a0D,R3,a6v,a4C,a3z,a0l];cases x<;>try rfl
 rename_i t m;cases y
 case int u n =>
  simp only;by_cases h:t=u
  · subst h;simp only[decide_true,if_true];cases m<;>cases n<;>try rfl
    rename_i i j;dsimp only;have e:∀ r,Nat.add i j=r→B2 t (Int.ofNat r)=Int.ofNat r→f (.int t (.ofNat r))=obind (p1 (sem (.bin .add) c [.int t (.ofNat i),.int t (.ofNat j)] b s)) f:=fun r z B=>by subst z;simp only[sem,A0,l7,if_true,a6K,B,AN,p1,obind]
    split
    · rename_i hl;exact e _ rfl (a6g t (by simpa using hl))
    · split
      · rename_i l;have:=c0g t l;subst this;split
        · rename_i hl;exact e _ rfl (a7I (by simpa using hl))
        · rfl
      · rfl
  · simp only[h,decide_false,Bool.false_eq_true,if_false,sem,A0,l7,Option.map_none,p1,obind]
 all_goals (simp only[sem,A0]; rw[a6j (.inl rfl) _ _ _ (by simp)]; rfl)
theorem c2m (x y:AV):b9b c b s f x y=obind (p1 (sem (.bin .sub) c [x,y] b s)) f:=by
 simp only[b9b,a0D,R3,a6v,a4C,a3z,a0l];cases x<;>try rfl
 rename_i t m;cases y
 case int u n =>
  simp only;by_cases h:t=u
  · subst h;simp only[decide_true,if_true];cases m<;>cases n<;>try rfl
    rename_i i j;dsimp only;split
    · rename_i l;have e:∀ r,Nat.sub i j=r→B2 t (Int.ofNat r)=Int.ofNat r→f (.int t (.ofNat r))=obind (p1 (sem (.bin .sub) c [.int t (.ofNat i),.int t (.ofNat j)] b s)) f:=fun r B C=>by subst B;simp only[sem,A0,l7,if_true,b0A,l,C,AN,p1,obind]
      split
      · rename_i hl;exact e _ rfl (a6g t (by simpa using hl))
      · split
        · rename_i z;have:=c0g t z;subst this;split
          · rename_i hl;exact e _ rfl (a7I (by simpa using hl))
          · rfl
        · rfl
    · rfl
  · simp only[h,decide_false,Bool.false_eq_true,if_false,sem,A0,l7,Option.map_none,p1,obind]
 all_goals (simp only[sem,A0]; rw[a6j (.inr rfl) _ _ _ (by simp)]; rfl)
theorem c30 (x:AV):b71 f x=obind (p1 (sem (.un .not) c [x] b s)) f:=by
 simp only[b71,b0v,R3,sem];cases x<;>try rfl
 rename_i y; cases y<;>rfl
theorem b8f (x y z:AV):b2P f x y z=obind (p1 (sem .pick c [x,y,z] b s)) f:=by
 simp only[b2P,a9r,b0v,R3,sem];cases x<;>try rfl
 rename_i v;cases v
 · simp only[A9,Bool.false_eq_true,if_false]; split<;>rfl
 · simp only[A9,if_true]; split<;>rfl
theorem c2K (x:AV):b9Z c b s f x=obind (p1 (sem .nilchk c [x] b s)) f:=by simp only[b9Z,a5q];cases x<;>rfl
theorem c1L (d:Nat) (x:AV):b9v f d x=obind (p1 (sem (.fad d) c [x] b s)) f:=by simp only[b9v,a5q,a0l,a0p];cases x<;>rfl
theorem a1x (i:Bool) (n:Nat) (cs:List AV):a4B f i n cs=match i8 i n cs with|some v=>f v|none=>none:=by
 simp only[a4B,R3,b7f,G4,a3t,b1K,b56];cases i
 · cases cs<;>rfl
 · simp only[i8,if_true];by_cases h:n≤cs.length
   · have e:Nat.ble n cs.length=true:=by simpa using h
     simp only[e,h,if_true]
   · have e:Nat.ble n cs.length=false:=Bool.eq_false_iff.mpr (fun q=>h (Nat.le_of_ble_eq_true q));simp only[e,h,Bool.false_eq_true,if_false]
theorem a3U (x:Obj) (k:List AV→(Option ρ)):a9P x k=match x with|.cells cs=>k cs|_=>none:=by cases x<;>rfl
theorem a8o {x:Option AV}:obind (p1 (x.map fun v=>(v,b,s))) f=match x with|some v=>f v|none=>none:=by cases x<;>rfl
theorem a9M (j:Bool) (n:Nat) (x:AV):a3s s f j n x=obind (p1 (sem (.ldSt j n) c [x] b s)) f:=by
 simp only[a3s,a8H,a7h,a3U,a1x,a0p];cases x<;>try rfl
 rename_i o i;simp only[sem,B1];cases s[o]? with
 | none=>rfl
 | some l=>cases l<;>first|rfl|exact(a8o b s f).symm
theorem b0u (i:Bool) (n:Nat) (x:AV):a6i f i n x=obind (p1 (sem (.ldRo i n) c [x] b s)) f:=by
 simp only[a6i,d1J,a1x];cases x<;>try rfl
 exact(a8o b s f).symm
theorem b7W (i:Nat) (l:Bool) (n:Nat) (x:AV):b4S b f i l n x=obind (p1 (sem (.ldLc i l n) c [x] b s)) f:=by
 simp only[b4S,b1E,a7p,a1x,a0p,R3];cases x<;>try rfl
 rename_i j off;cases b<;>try rfl
 rename_i cs;simp only[sem,G6];by_cases h:i=j
 · simp only[h,Nat.beq_refl,if_true];exact(a8o _ s f).symm
 · have:Nat.beq i j=false:=Bool.eq_false_iff.mpr (fun q=>h (Nat.eq_of_beq_eq_true q));simp only[this,h,Bool.false_eq_true,if_false];rfl
theorem b7b (x:AV):b4z f x=obind (p1 (sem .lenS c [x] b s)) f:=by simp only[b4z,a3V,a0l,G4];cases x<;>rfl
theorem b9x (x:AV):b4o c b s f x=obind (p1 (sem .lenL c [x] b s)) f:=by simp only[b4o,a8N,a0l,G4];cases x<;>rfl
theorem c0y (x y:AV):b9C f x y=obind (p1 (sem .idxS c [x,y] b s)) f:=by
 simp only[b9C,a3V,a0D,b6N];cases x<;>try rfl
 cases y<;>try rfl
 rename_i l k n;simp only[sem,I0];cases n with
 | ofNat i =>have e:(Int.ofNat i).toNat=i:=rfl;simp only[Int.ofNat_eq_natCast,Int.natCast_nonneg,if_true,Int.toNat_natCast];cases l[i]?<;>rfl
 | negSucc i=>rfl
theorem c1x (j:Nat) (x y:AV):b68 c b s f j x y=obind (p1 (sem (.iad j) c [x,y] b s)) f:=by
 simp only[b68,a8N,a0D,b6N,R3,G4];cases x<;>try rfl
 cases y<;>try rfl
 rename_i w l k n;simp only[sem,I7];cases n with
 | ofNat i =>
  simp only[Int.ofNat_eq_natCast,Int.natCast_nonneg,if_true,Int.toNat_natCast];cases l[i]? with
  | none=>rfl
  | some r =>
   by_cases h:r.length=j
   · have:Nat.beq r.length j=true:=by rw[h]; exact Nat.beq_refl j
     simp only[this,if_true,if_pos h];rfl
   · have:Nat.beq r.length j=false:=Bool.eq_false_iff.mpr (fun q=>h (Nat.eq_of_beq_eq_true q));simp only[this,h,Bool.false_eq_true,if_false];rfl
 | negSucc i=>rfl
end
noncomputable def qSb (x:AV) (k:AV→AV→(Option ρ)):(Option ρ):=AV.rec (motive_1:=fun _=>(Option ρ)) (motive_2:=fun _=>Unit) (motive_3:=fun _=>Unit)
 (k .undef .undef)
 (fun b=>k (.bool b) (.bool b))
 (fun t n=>k (.int t n) (.int t n))
 (fun s=>k (.str s) (.str s))
 (fun o xs _=>k (.list o xs) (.list false xs))
 (fun o f=>k (.ptr o f) (.ptr o f))
 (k .nilp .nilp)
 (fun cs _=>k (.ro cs) (.ro cs))
 (fun i f=>k (.loc i f) (.loc i f))
 (fun cs _=>k .undef .undef)
 (fun o=>k (.map o) (.map o))
 (k .nilm .nilm)
 (fun f a c _ _=>k (.func f a c) (.func f a c))
 (k .nilf .nilf)
 (fun cs _=>k (.agg cs) (.agg (cs.map AV.weak1)))
 (fun vs _=>k (.tuple vs) (.tuple vs))
 (fun t v _=>k (.iface t v) (.iface t v))
 (k .nili .nili)
 (fun o f n s=>k (.sl o f n s) (.sl o f n s))
 (fun xs _=>k (.fresh xs) (.fresh xs))
 (k .nils .nils)
 () (fun _ _ _ _=>()) () (fun _ _ _ _=>()) x
noncomputable def qSv (x:AV) (k:AV→AV→(Option ρ)):(Option ρ):=AV.rec (motive_1:=fun _=>(Option ρ)) (motive_2:=fun _=>Unit) (motive_3:=fun _=>Unit)
 (k .undef .undef)
 (fun b=>k (.bool b) (.bool b))
 (fun t n=>k (.int t n) (.int t n))
 (fun s=>k (.str s) (.str s))
 (fun o xs _=>k (.list o xs) (.list false xs))
 (fun o f=>k (.ptr o f) (.ptr o f))
 (k .nilp .nilp)
 (fun cs _=>k (.ro cs) (.ro cs))
 (fun i f=>k .undef .undef)
 (fun cs _=>k .undef .undef)
 (fun o=>k (.map o) (.map o))
 (k .nilm .nilm)
 (fun f a c _ _=>k (.func f a c) (.func f a c))
 (k .nilf .nilf)
 (fun cs _=>k (.agg cs) (.agg (cs.map AV.weak1)))
 (fun vs _=>k (.tuple vs) (.tuple vs))
 (fun t v _=>k (.iface t v) (.iface t v))
 (k .nili .nili)
 (fun o f n s=>k (.sl o f n s) (.sl o f n s))
 (fun xs _=>k (.fresh xs) (.fresh xs))
 (k .nils .nils)
 () (fun _ _ _ _=>()) () (fun _ _ _ _=>()) x
noncomputable def qWk (x:AV) (k:AV→(Option ρ)):(Option ρ):=AV.rec (motive_1:=fun _=>(Option ρ)) (motive_2:=fun _=>Unit) (motive_3:=fun _=>Unit)
 (k .undef)
 (fun b=>k (.bool b))
 (fun t n=>k (.int t n))
 (fun s=>k (.str s))
 (fun o xs _=>k (.list false xs))
 (fun o f=>k (.ptr o f))
 (k .nilp)
 (fun cs _=>k (.ro cs))
 (fun i f=>k (.loc i f))
 (fun cs _=>k (.box cs))
 (fun o=>k (.map o))
 (k .nilm)
 (fun f a c _ _=>k (.func f a c))
 (k .nilf)
 (fun cs _=>k (.agg (cs.map AV.weak1)))
 (fun vs _=>k (.tuple vs))
 (fun t v _=>k (.iface t v))
 (k .nili)
 (fun o f n s=>k (.sl o f n s))
 (fun xs _=>k (.fresh xs))
 (k .nils)
 () (fun _ _ _ _=>()) () (fun _ _ _ _=>()) x
theorem b6K (x:AV) (k:AV→AV→(Option ρ)):qSb x k=k (AV.stripB x) (AV.weak (AV.stripB x)):=by cases x<;>rfl
theorem c6v (x:AV) (k:AV→AV→(Option ρ)):qSv x k=k (AV.strip x) (AV.weak (AV.strip x)):=by cases x<;>rfl
theorem a1C (x:AV) (k:AV→(Option ρ)):qWk x k=k (AV.weak x):=by cases x<;>rfl
noncomputable def onT (x:AV) (k:List AV→(Option ρ)):(Option ρ):=AV.rec (motive_1:=fun _=>(Option ρ)) (motive_2:=fun _=>Unit) (motive_3:=fun _=>Unit)
 (none)
 (fun b=>none)
 (fun t n=>none)
 (fun s=>none)
 (fun o xs _=>none)
 (fun o f=>none)
 (none)
 (fun cs _=>none)
 (fun i f=>none)
 (fun cs _=>none)
 (fun o=>none)
 (none)
 (fun f a c _ _=>none)
 (none)
 (fun cs _=>none)
 (fun vs _=>k vs)
 (fun t v _=>none)
 (none)
 (fun o f n s=>none)
 (fun xs _=>none)
 (none)
 () (fun _ _ _ _=>()) () (fun _ _ _ _=>()) x
theorem d0n (x:AV) (k:List AV→(Option ρ)):onT x k=match x with|.tuple vs=>k vs|_=>none:=by cases x<;>rfl
noncomputable def d0w (x:AV) (e:(Option ρ)) (k:Bool→List (List AV)→(Option ρ)):(Option ρ):=AV.rec (motive_1:=fun _=>(Option ρ)) (motive_2:=fun _=>Unit) (motive_3:=fun _=>Unit)
 (e)
 (fun b=>e)
 (fun t n=>e)
 (fun s=>e)
 (fun o xs _=>k o xs)
 (fun o f=>e)
 (e)
 (fun cs _=>e)
 (fun i f=>e)
 (fun cs _=>e)
 (fun o=>e)
 (e)
 (fun f a c _ _=>e)
 (e)
 (fun cs _=>e)
 (fun vs _=>e)
 (fun t v _=>e)
 (e)
 (fun o f n s=>e)
 (fun xs _=>e)
 (e)
 () (fun _ _ _ _=>()) () (fun _ _ _ _=>()) x
theorem c1v (x:AV) (e:(Option ρ)) (k:Bool→List (List AV)→(Option ρ)):d0w x e k=match x with|.list o xs=>k o xs|_=>e:=by cases x<;>rfl
noncomputable def onU (x:AV) (k:(Option ρ)):(Option ρ):=AV.rec (motive_1:=fun _=>(Option ρ)) (motive_2:=fun _=>Unit) (motive_3:=fun _=>Unit)
 (k)
 (fun b=>none)
 (fun t n=>none)
 (fun s=>none)
 (fun o xs _=>none)
 (fun o f=>none)
 (none)
 (fun cs _=>none)
 (fun i f=>none)
 (fun cs _=>none)
 (fun o=>none)
 (none)
 (fun f a c _ _=>none)
 (none)
 (fun cs _=>none)
 (fun vs _=>none)
 (fun t v _=>none)
 (none)
 (fun o f n s=>none)
 (fun xs _=>none)
 (none)
 () (fun _ _ _ _=>()) () (fun _ _ _ _=>()) x
theorem d0X (x:AV) (k:(Option ρ)):onU x k=match x with|.undef=>k|_=>none:=by cases x<;>rfl
noncomputable def onC (x:AV) (k:List AV→(Option ρ)):(Option ρ):=AV.rec (motive_1:=fun _=>(Option ρ)) (motive_2:=fun _=>Unit) (motive_3:=fun _=>Unit)
 (k [.undef])
 (fun b=>k [(.bool b)])
 (fun t n=>k [(.int t n)])
 (fun s=>k [(.str s)])
 (fun o xs _=>k [(.list o xs)])
 (fun o f=>k [(.ptr o f)])
 (k [.nilp])
 (fun cs _=>k [(.ro cs)])
 (fun i f=>k [(.loc i f)])
 (fun cs _=>k [(.box cs)])
 (fun o=>k [(.map o)])
 (k [.nilm])
 (fun f a c _ _=>k [(.func f a c)])
 (k [.nilf])
 (fun cs _=>k cs)
 (fun vs _=>k [(.tuple vs)])
 (fun t v _=>k [(.iface t v)])
 (k [.nili])
 (fun o f n s=>k [(.sl o f n s)])
 (fun xs _=>k [(.fresh xs)])
 (k [.nils])
 () (fun _ _ _ _=>()) () (fun _ _ _ _=>()) x
theorem b5p (x:AV) (k:List AV→(Option ρ)):onC x k=k x.cells:=by cases x<;>rfl
noncomputable def plB (x:AV) (k:(Option ρ)):(Option ρ):=AV.rec (motive_1:=fun _=>(Option ρ)) (motive_2:=fun _=>Unit) (motive_3:=fun _=>Unit)
 (none)
 (fun b=>k)
 (fun t n=>k)
 (fun s=>k)
 (fun o xs _=>k)
 (fun o f=>k)
 (k)
 (fun cs _=>k)
 (fun i f=>none)
 (fun cs _=>none)
 (fun o=>k)
 (k)
 (fun f a c _ _=>k)
 (k)
 (fun cs _=>k)
 (fun vs _=>none)
 (fun t v _=>k)
 (k)
 (fun o f n s=>k)
 (fun xs _=>none)
 (k)
 () (fun _ _ _ _=>()) () (fun _ _ _ _=>()) x
theorem a6A (x:AV) (k:(Option ρ)):plB x k=if x.plain then k else none:=by cases x<;>rfl
noncomputable def b9V (f:AV→(Option ρ)) (d:Nat) (x:AV):(Option ρ):=onT x fun vs=>a4j vs none (fun v=>qWk v f) d
theorem c2v (c:d8) (b:AV) (s:St) (f:AV→(Option ρ)) (d:Nat) (x:AV):b9V f d x=obind (p1 (sem (.ext d) c [x] b s)) f:=by
 simp only[b9V,d0n,a2r,a1C];cases x<;>try rfl
 rename_i vs;simp only[sem,L9];cases vs[d]?<;>rfl
noncomputable def a6w (xs:List AV) (k:List AV→(Option ρ)):(Option ρ):=List.rec (motive:=fun _=>(List AV→(Option ρ))→(Option ρ)) (fun k=>k []) (fun a _ i k=>plB a (qWk a fun w=>i fun j=>k (w::j))) xs k
theorem a4i:∀ (xs:List AV) (k:List AV→(Option ρ)),a6w xs k=if m4 xs then k (xs.map AV.weak)else none
 | [],k=>rfl
 | a::xs,k=>by show plB a (qWk a fun w=>a6w xs fun l=>k (w::l))=_;rw[a6A,a1C,a4i xs];simp only[m4,AA,AG];by_cases i:a.plain=true<;>by_cases j:m4 xs=true<;>simp[i,j]
noncomputable def b9e (x:Option (AV×St)) (k:AV→St→(Option ρ)):(Option ρ):=Option.rec (motive:=fun _=>(Option ρ)) none (fun p=>Prod.rec (motive:=fun _=>(Option ρ)) (fun v s=>k v s) p) x
theorem b2e (x:Option (AV×St)) (k:AV→St→(Option ρ)):b9e x k=match x with|some (v,s)=>k v s|none=>none:=by cases x<;>rfl
noncomputable def b7L (c:d8) (b:AV) (s:St) (f:AV→(Option ρ)) (x y z:AV):(Option ρ):=onS x none fun l=>onI z none fun _ m=>onI y (obind (p1 (sem (.slS true true) c [x,y,z] b s)) f) fun _ i=>nn i m (obind (p1 (sem (.slS true true) c [x,y,z] b s)) f) fun i m =>cB (Nat.ble m (J1 l)) (cB (Nat.ble i m) (a8h (Nat.sub m i) (a8n i l) fun r=>f (.str r)) none) none
theorem c4A (c:d8) (b:AV) (s:St) (f:AV→(Option ρ)) (x y z:AV):b7L c b s f x y z=obind (p1 (sem (.slS true true) c [x,y,z] b s)) f:=by
 simp only[b7L,a3V,a0D,a4C,R3,a3t,a5T,G4];cases x<;>try rfl
 cases z<;>try rfl
 cases y<;>try rfl
 rename_i l _ m _ i;cases i<;>cases m<;>try rfl
 rename_i i m;simp only[sem,M9,D4,L8,Int.ofNat_eq_natCast,Int.natCast_nonneg,true_and,Int.toNat_natCast,Int.ofNat_le,Nat.ble_eq];by_cases j:m≤l.length
 · simp only[j,if_true];by_cases t:i≤m
   · simp only[t,if_true,AN,p1,obind];rw[List.drop_take];rfl
   · simp only[t,if_false];rfl
 · simp only[j,if_false];rfl
noncomputable def b3Y (i:Nat) (l:List (List AV)):Bool:=List.rec (motive:=fun _=>Bool) true (fun r _ _=>Nat.beq (J1 r) i) l
theorem b7Q (i:Nat) (l:List (List AV)):b3Y i l=m2 i l:=by
 cases l with
 | nil=>rfl
 | cons r l =>show Nat.beq (J1 r) i=(r.length == i);rw[G4,Bool.eq_iff_iff];simp
noncomputable def b8b (b:AV) (s:St) (f:AV×AV×St→(Option ρ)) (d e:Nat) (x y:AV):(Option ρ):=d0w x none fun o xs=>onL y none fun ys=>cB o (cB (b3Y d xs) (cB (b3Y d ys) (cB (Nat.ble (Nat.mul (Nat.add (J1 xs) (J1 ys)) e) 140737488355328) (a5F xs ys fun r=>f (.list true r,b,s)) none) none) none) none
theorem c1J (c:d8) (b:AV) (s:St) (f:AV×AV×St→(Option ρ)) (d e:Nat) (x y:AV):b8b b s f d e x y=obind (sem (.app d e) c [x,y] b s) f:=by
 simp only[b8b,c1v,a8N,R3,b7Q,G4,a4z];cases x<;>try rfl
 rename_i o xs;cases y<;>try (cases o<;>rfl)
 rename_i o2 ys;cases o<;>try rfl
 simp only[sem,P5,if_true];have e1:(Nat.ble (Nat.mul (Nat.add xs.length ys.length) e) 140737488355328)=decide ((xs.length+ys.length)*e≤2 ^ 47):=by rw[Bool.eq_iff_iff];simp
 rw[e1];cases m2 d xs<;>cases m2 d ys<;>try rfl
 simp only[Bool.true_and,if_true];split<;>rfl
noncomputable def a8p (b:AV) (s:St) (f:AV×AV×St→(Option ρ)) (d:List AV):(Option ρ):=onU b (f (.undef,.box d,s))
theorem b61 (c:d8) (b:AV) (s:St) (f:AV×AV×St→(Option ρ)) (d:List AV):a8p b s f d=obind (sem (.alloc d) c [] b s) f:=by simp only[a8p,d0X];cases b<;>rfl
noncomputable def b4T (cs:List AV) (off:Nat) (new:List AV) (k:List AV→(Option ρ)):(Option ρ):=a8h off cs fun a=>a5F new (a6q (Nat.add off (J1 new)) cs) fun t=>a5F a t k
theorem b2a (cs:List AV) (off:Nat) (new:List AV) (k:List AV→(Option ρ)):b4T cs off new k=k (n6 cs off new):=by simp only[b4T,a3t,a4z,a0p,G4,n6,AU];rfl
noncomputable def b2U (b:AV) (s:St) (f:AV×AV×St→(Option ρ)) (i d:Nat) (x y:AV):(Option ρ):=b69 x none fun j off=>b2y b none fun cs=>cB (Nat.beq i j) (plB y (onC y fun new=>cB (Nat.beq (J1 new) d) (cB (Nat.ble (Nat.add off d) (J1 cs)) (b4T cs off new fun r=>f (.tuple [],.box r,s)) none) none)) none
theorem c0d (a b:Nat):(Nat.beq a b=true)=(a=b):=by simp
theorem b96 (a b:Nat):(Nat.ble a b=true)=(a≤b):=by simp
theorem b7G (c:d8) (b:AV) (s:St) (f:AV×AV×St→(Option ρ)) (i d:Nat) (x y:AV):b2U b s f i d x y=obind (sem (.stLc i d) c [x,y] b s) f:=by
 simp only[b2U,b1E,a7p,R3,a6A,b5p,G4,b2a,c0d,b96];cases x<;>try rfl
 rename_i j off;cases b<;>try rfl
 rename_i cs;simp only[sem,J2];by_cases l:i=j<;>by_cases t:y.plain=true<;>by_cases u:y.cells.length=d<;>by_cases z:off+d≤cs.length<;>simp[l,t,u,z,obind]
noncomputable def a81 {β:Type} (l:List β) (i:Nat) (x:β) (k:List β→(Option ρ)):(Option ρ):=List.rec (motive:=fun _=>Nat→(List β→(Option ρ))→(Option ρ)) (fun _ k=>k []) (fun a t u i k=>Nat.rec (motive:=fun _=>(Option ρ)) (k (x::t)) (fun j _=>u j fun r=>k (a::r)) i) l i k
theorem b2i {β:Type} (x:β):∀ (l:List β) (i:Nat) (k:List β→(Option ρ)),a81 l i x k=k (l.set i x)
 | [],_,_=>rfl
 | a::l,0,k=>rfl
 | a::l,i+1,k=>b2i x l i fun r=>k (a::r)
noncomputable def b85 {β:Type} (l:List β) (i:Nat) (x:β) (k:List β→(Option ρ)):(Option ρ):=Nat.rec (motive:=fun _=>List β→(List β→(Option ρ))→(Option ρ)) (fun l k=>a81 l (Nat.mod i 8) x k) (fun _ j l k=>a3g l (k l) j k) (Nat.div i 8) l k
theorem b1Y {β:Type} (x:β) (r:Nat):∀ (q:Nat) (l:List β) (k:List β→(Option ρ)),Nat.rec (motive:=fun _=>List β→(List β→(Option ρ))→(Option ρ)) (fun l k=>a81 l r x k) (fun _ i l k=>a3g l (k l) i k) q l k=k (l.set (8*q+r) x)
 | 0,l,k=>by show a81 l r x k=_; rw[b2i,Nat.mul_zero,Nat.zero_add]
 | q+1,l,k=>by
  show a3g l (k l) (fun l k=>Nat.rec (motive:=fun _=>List β→(List β→(Option ρ))→(Option ρ)) (fun l k=>a81 l r x k) (fun _ i l k=>a3g l (k l) i k) q l k) k=_;rw[b1D];split
  · rename_i h;rw[b1Y x r q (l.drop 8)];congr 1;rw[show 8*(q+1)+r=8+(8*q+r)by omega];conv=>rhs; rw[← List.take_append_drop 8 l]
    rw[List.set_append_right _ _ (by rw[AO]; omega),AO,Nat.min_eq_left h,Nat.add_sub_cancel_left]
  · rename_i h;rw[List.set_eq_of_length_le (by omega)]
theorem c3M {β:Type} (x:β) (l:List β) (i:Nat) (k:List β→(Option ρ)):b85 l i x k=k (l.set i x):=by unfold b85;rw[b1Y x (Nat.mod i 8) (Nat.div i 8) l k,show 8*Nat.div i 8+Nat.mod i 8=i from Nat.div_add_mod i 8]
noncomputable def b2q (s:St) (f:AV×St→(Option ρ)) (d:Nat) (x y:AV):(Option ρ):=onP x none fun o off=>b2E s none (fun i=>a9P i fun cs=>plB y (onC y fun new=>cB (Nat.beq (J1 new) d) (cB (Nat.ble (Nat.add off d) (J1 cs)) (b4T cs off new fun r=>b85 s o (.cells r) fun s=>f (.tuple [],s)) none) none)) o
theorem b8N (c:d8) (b:AV) (s:St) (f:AV×St→(Option ρ)) (d:Nat) (x y:AV):b2q s f d x y=obind (p2 (sem (.stSt d) c [x,y] b s)) f:=by
 simp only[b2q,a8H,a7h,a3U,R3,a6A,b5p,G4,b2a,c3M,c0d,b96];cases x<;>try rfl
 rename_i o off;simp only[sem,D5,fL_eq];cases s[o]? with
 | none=>rfl
 | some t =>
  cases t<;>try rfl
  rename_i cs;by_cases i:y.plain=true<;>by_cases j:y.cells.length=d<;>by_cases l:off+d≤cs.length<;>simp[i,j,l,obind,p2]
noncomputable def bW (v w:Bool) (x y:(Option ρ)):(Option ρ):=Bool.rec (motive:=fun _=>(Option ρ)) (Bool.rec (motive:=fun _=>(Option ρ)) x y w) (Bool.rec (motive:=fun _=>(Option ρ)) y x w) v
theorem d3E (v w:Bool) (x y:(Option ρ)):bW v w x y=if v == w then x else y:=by cases v<;>cases w<;>rfl
theorem nb (i j:Nat):(!Nat.blt j i)=Nat.ble i j:=by
 have l:(Nat.blt j i=true)↔j < i:=by simp
 have t:(Nat.ble i j=true)↔i≤j:=by simp
 cases u:Nat.blt j i<;>cases x:Nat.ble i j<;>simp only[u,x,true_iff,false_iff,Bool.false_eq_true]at l t<;>first|rfl|omega
theorem c8m (c:d8) (b:AV) (s:St) (f:AV→(Option ρ)) (x y:AV):a2e c b s f .lss Nat.blt x y=obind (p1 (sem (.bin .lss) c [x,y] b s)) f:=a4O c b s f .lss _ (by simp) (fun t i j=>by simp[l7,ltI]) x y
theorem c6l (c:d8) (b:AV) (s:St) (f:AV→(Option ρ)) (x y:AV):a2e c b s f .leq Nat.ble x y=obind (p1 (sem (.bin .leq) c [x,y] b s)) f:=a4O c b s f .leq _ (by simp) (fun t i j=>by simp only[l7,if_true,Int.ofNat_eq_natCast]; rw[show ∀ a b:Nat,ltI (a:Int) (b:Int)=Nat.blt a b from fun _ _=>rfl,nb]) x y
theorem d0c (c:d8) (b:AV) (s:St) (f:AV→(Option ρ)) (x y:AV):a2e c b s f .gtr (fun i j=>Nat.blt j i) x y=obind (p1 (sem (.bin .gtr) c [x,y] b s)) f:=a4O c b s f .gtr _ (by simp) (fun t i j=>by simp[l7,ltI]) x y
theorem c8f (c:d8) (b:AV) (s:St) (f:AV→(Option ρ)) (x y:AV):a2e c b s f .geq (fun i j=>Nat.ble j i) x y=obind (p1 (sem (.bin .geq) c [x,y] b s)) f:=a4O c b s f .geq _ (by simp) (fun t i j=>by simp only[l7,if_true,Int.ofNat_eq_natCast]; rw[show ∀ a b:Nat,ltI (a:Int) (b:Int)=Nat.blt a b from fun _ _=>rfl,nb]) x y
end Go.Cb.G
namespace Go.Cb.G
open Go Go.Cb
inductive W8 (α:Type) where
 | mk (x0 x1 x2 x3 x4 x5 x6 x7:α)
abbrev Fr:=W8 (W8 AV)
def pk8 {α:Type} (i:Nat) (w:W8 α):α:=match w with
 | .mk j l t u x y z B=>match i with
  | 0=>j
  | 1=>l
  | 2=>t
  | 3=>u
  | 4=>x
  | 5=>y
  | 6=>z
  | _=>B
def st8 {α:Type} (i:Nat) (x:α) (w:W8 α):W8 α:=match w with
 | .mk j l t u y z B C=>match i with
  | 0=>.mk x l t u y z B C
  | 1=>.mk j x t u y z B C
  | 2=>.mk j l x u y z B C
  | 3=>.mk j l t x y z B C
  | 4=>.mk j l t u x z B C
  | 5=>.mk j l t u y x B C
  | 6=>.mk j l t u y z x C
  | _=>.mk j l t u y z B x
theorem lt8 {i:Nat} (h:i < 8):i=0∨i=1∨i=2∨i=3∨i=4∨i=5∨i=6∨i=7:=by omega
theorem b6s {α:Type} {i j:Nat} (hi:i < 8) (l:j < 8) (x:α) (w:W8 α):pk8 j (st8 i x w)=if j=i then x else pk8 j w:=by cases w;rcases lt8 hi with rfl|rfl|rfl|rfl|rfl|rfl|rfl|rfl<;>rcases lt8 l with rfl|rfl|rfl|rfl|rfl|rfl|rfl|rfl<;>rfl
def V5 (i:Nat) (fr:Fr):AV:=pk8 (i % 8) (pk8 (i / 8) fr)
def a1Q (i:Nat) (x:AV) (fr:Fr):Fr:=st8 (i / 8) (st8 (i % 8) x (pk8 (i / 8) fr)) fr
theorem c3V {i j:Nat} (hi:i < 64) (t:j < 64) (x:AV) (fr:Fr):V5 j (a1Q i x fr)=if j=i then x else V5 j fr:=by
 unfold V5 a1Q;rw[b6s (by omega) (by omega)];by_cases h:j / 8=i / 8
 · rw[if_pos h,b6s (by omega) (by omega),← h];by_cases l:j % 8=i % 8
   · rw[if_pos l,if_pos (by omega)]
   · rw[if_neg l,if_neg (by omega)]
 · rw[if_neg h,if_neg (by intro e; exact h (by rw[e]))]
def toL (nv:Nat) (fr:Fr):List AV:=(List.range nv).map fun i=>V5 i fr
theorem c2M (nv:Nat) (fr:Fr):(toL nv fr).length=nv:=by simp[toL]
theorem N1 {i nv:Nat} (h:i < nv) (fr:Fr):(toL nv fr).getD i .undef=V5 i fr:=by simp[toL,List.getD,h]
theorem a2w {i nv:Nat} (h:i < nv) (hn:nv≤64) (x:AV) (fr:Fr):(toL nv fr).set i x=toL nv (a1Q i x fr):=by
 apply List.ext_getElem
 · simp[toL]
 · intro j l t;have u:j < nv:=by simpa[toL]using l
   rw[List.getElem_set];simp only[toL,List.getElem_map,List.getElem_range];rw[c3V (by omega) (by omega)];by_cases e:i=j
   · rw[if_pos e,if_pos e.symm]
   · rw[if_neg e,if_neg (fun q=>e q.symm)]
theorem a5f {i nv:Nat} (h:¬ i < nv) (x:AV) (fr:Fr):(toL nv fr).set i x=toL nv fr:=List.set_eq_of_length_le (by rw[c2M]; omega)
noncomputable def b0w {α β:Type} (i:Nat) (e:β) (Q:α→β) (j l t u x y z B:α):β :=
 Nat.rec (motive:=fun _=>β) (Q j) (fun i _=>Nat.rec (motive:=fun _=>β) (Q l) (fun i _=>Nat.rec (motive:=fun _=>β) (Q t) (fun i _=>Nat.rec (motive:=fun _=>β) (Q u) (fun i _=>Nat.rec (motive:=fun _=>β) (Q x) (fun i _=>Nat.rec (motive:=fun _=>β) (Q y) (fun i _=>Nat.rec (motive:=fun _=>β) (Q z) (fun i _=>Nat.rec (motive:=fun _=>β) (Q B) (fun i _=>e) i) i) i) i) i) i) i) i
theorem a1H {α β:Type} {G:β→Prop} {i:Nat} {e:β} {Q:α→β} {j l t u x y z B:α} (O:G e) (C:i=0→G (Q j)) (D:i=1→G (Q l)) (E:i=2→G (Q t)) (F:i=3→G (Q u)) (I:i=4→G (Q x)) (J:i=5→G (Q y)) (M:i=6→G (Q z)) (N:i=7→G (Q B)):G (b0w i e Q j l t u x y z B):=by
 match i,C,D,E,F,I,J,M,N with
 | 0,h,_,_,_,_,_,_,_=>exact h rfl
 | 1,_,h,_,_,_,_,_,_=>exact h rfl
 | 2,_,_,h,_,_,_,_,_=>exact h rfl
 | 3,_,_,_,h,_,_,_,_=>exact h rfl
 | 4,_,_,_,_,h,_,_,_=>exact h rfl
 | 5,_,_,_,_,_,h,_,_=>exact h rfl
 | 6,_,_,_,_,_,_,h,_=>exact h rfl
 | 7,_,_,_,_,_,_,_,h=>exact h rfl
 | _+8,_,_,_,_,_,_,_,_=>exact O
abbrev Gt (ρ:Type):=Fr→(AV→Option ρ)→Option ρ
abbrev Wr (ρ:Type):=AV→Fr→(Fr→Option ρ)→Option ρ
section
variable {ρ β:Type}
noncomputable def a2h (i:Nat) (e:β) (Q:Gt ρ→β):β:=b0w (i / 8) e (fun o:Fr→(W8 AV→Option ρ)→Option ρ=>b0w (i % 8) e (fun n:W8 AV→(AV→Option ρ)→Option ρ=>Q fun fr k=>o fr fun w=>n w k)
 (fun w k=>W8.rec (motive:=fun _=>Option ρ) (fun j l t u x y z B=>k j) w)
 (fun w k=>W8.rec (motive:=fun _=>Option ρ) (fun j l t u x y z B=>k l) w)
 (fun w k=>W8.rec (motive:=fun _=>Option ρ) (fun j l t u x y z B=>k t) w)
 (fun w k=>W8.rec (motive:=fun _=>Option ρ) (fun j l t u x y z B=>k u) w)
 (fun w k=>W8.rec (motive:=fun _=>Option ρ) (fun j l t u x y z B=>k x) w)
 (fun w k=>W8.rec (motive:=fun _=>Option ρ) (fun j l t u x y z B=>k y) w)
 (fun w k=>W8.rec (motive:=fun _=>Option ρ) (fun j l t u x y z B=>k z) w)
 (fun w k=>W8.rec (motive:=fun _=>Option ρ) (fun j l t u x y z B=>k B) w))
 (fun w k=>W8.rec (motive:=fun _=>Option ρ) (fun j l t u x y z B=>k j) w)
 (fun w k=>W8.rec (motive:=fun _=>Option ρ) (fun j l t u x y z B=>k l) w)
 (fun w k=>W8.rec (motive:=fun _=>Option ρ) (fun j l t u x y z B=>k t) w)
 (fun w k=>W8.rec (motive:=fun _=>Option ρ) (fun j l t u x y z B=>k u) w)
 (fun w k=>W8.rec (motive:=fun _=>Option ρ) (fun j l t u x y z B=>k x) w)
 (fun w k=>W8.rec (motive:=fun _=>Option ρ) (fun j l t u x y z B=>k y) w)
 (fun w k=>W8.rec (motive:=fun _=>Option ρ) (fun j l t u x y z B=>k z) w)
 (fun w k=>W8.rec (motive:=fun _=>Option ρ) (fun j l t u x y z B=>k B) w)
theorem K1 {G:β→Prop} {i:Nat} {e:β} {Q:Gt ρ→β} (hi:i < 64) (j:G e) (h:∀ g:Gt ρ,(∀ fr k,g fr k=k (V5 i fr))→G (Q g)):G (a2h i e Q):=by
 refine a1H j ?_ ?_ ?_ ?_ ?_ ?_ ?_ ?_<;>intro l<;>refine a1H j ?_ ?_ ?_ ?_ ?_ ?_ ?_ ?_<;>intro t<;>refine h _ (fun fr k=>?_)<;>unfold V5<;>rw[l,t]<;>cases fr with
  | mk w0 w1 u x y z B C=>first|(cases w0; rfl)|(cases w1; rfl)|(cases u; rfl)|(cases x; rfl)|(cases y; rfl)|(cases z; rfl)|(cases B; rfl)|(cases C; rfl)
noncomputable def a6F (i:Nat) (e:β) (Q:Wr ρ→β):β:=b0w (i / 8) e (fun o:Fr→(W8 AV→(W8 AV→Option ρ)→Option ρ)→(Fr→Option ρ)→Option ρ=>b0w (i % 8) e (fun n:AV→W8 AV→(W8 AV→Option ρ)→Option ρ=>Q fun x fr k=>o fr (n x) k)
 (fun y w k=>W8.rec (motive:=fun _=>Option ρ) (fun j l t z B C D E=>k (.mk y l t z B C D E)) w)
 (fun y w k=>W8.rec (motive:=fun _=>Option ρ) (fun j l t z B C D E=>k (.mk j y t z B C D E)) w)
 (fun y w k=>W8.rec (motive:=fun _=>Option ρ) (fun j l t z B C D E=>k (.mk j l y z B C D E)) w)
 (fun y w k=>W8.rec (motive:=fun _=>Option ρ) (fun j l t z B C D E=>k (.mk j l t y B C D E)) w)
 (fun y w k=>W8.rec (motive:=fun _=>Option ρ) (fun j l t z B C D E=>k (.mk j l t z y C D E)) w)
 (fun y w k=>W8.rec (motive:=fun _=>Option ρ) (fun j l t z B C D E=>k (.mk j l t z B y D E)) w)
 (fun y w k=>W8.rec (motive:=fun _=>Option ρ) (fun j l t z B C D E=>k (.mk j l t z B C y E)) w)
 (fun y w k=>W8.rec (motive:=fun _=>Option ρ) (fun j l t z B C D E=>k (.mk j l t z B C D y)) w))
 (fun w u k=>W8.rec (motive:=fun _=>Option ρ) (fun j l t z B C D E=>u j fun y=>k (.mk y l t z B C D E)) w)
 (fun w u k=>W8.rec (motive:=fun _=>Option ρ) (fun j l t z B C D E=>u l fun y=>k (.mk j y t z B C D E)) w)
 (fun w u k=>W8.rec (motive:=fun _=>Option ρ) (fun j l t z B C D E=>u t fun y=>k (.mk j l y z B C D E)) w)
 (fun w u k=>W8.rec (motive:=fun _=>Option ρ) (fun j l t z B C D E=>u z fun y=>k (.mk j l t y B C D E)) w)
 (fun w u k=>W8.rec (motive:=fun _=>Option ρ) (fun j l t z B C D E=>u B fun y=>k (.mk j l t z y C D E)) w)
 (fun w u k=>W8.rec (motive:=fun _=>Option ρ) (fun j l t z B C D E=>u C fun y=>k (.mk j l t z B y D E)) w)
 (fun w u k=>W8.rec (motive:=fun _=>Option ρ) (fun j l t z B C D E=>u D fun y=>k (.mk j l t z B C y E)) w)
 (fun w u k=>W8.rec (motive:=fun _=>Option ρ) (fun j l t z B C D E=>u E fun y=>k (.mk j l t z B C D y)) w)
theorem a1D {G:β→Prop} {i:Nat} {e:β} {Q:Wr ρ→β} (hi:i < 64) (j:G e) (h:∀ g:Wr ρ,(∀ x fr k,g x fr k=k (a1Q i x fr))→G (Q g)):G (a6F i e Q):=by
 refine a1H j ?_ ?_ ?_ ?_ ?_ ?_ ?_ ?_<;>intro l<;>refine a1H j ?_ ?_ ?_ ?_ ?_ ?_ ?_ ?_<;>intro t<;>refine h _ (fun x fr k=>?_)<;>unfold a1Q<;>rw[l,t]<;>cases fr with
  | mk w0 w1 u y z B C D=>first|(cases w0; rfl)|(cases w1; rfl)|(cases u; rfl)|(cases y; rfl)|(cases z; rfl)|(cases B; rfl)|(cases C; rfl)|(cases D; rfl)
noncomputable def b3L (i:Nat) (Q:(List AV→(AV→Option ρ)→Option ρ)→β):β:=Nat.rec (motive:=fun _=>((List AV→(AV→Option ρ)→Option ρ)→β)→β)
 (fun Q=>Q fun l k=>List.rec (motive:=fun _=>Option ρ) none (fun a _ _=>k a) l)
 (fun _ j Q=>j fun r=>Q fun l k=>List.rec (motive:=fun _=>Option ρ) none (fun _ t _=>r t k) l) i Q
theorem a0C {G:β→Prop}:∀ (i:Nat) {Q:(List AV→(AV→Option ρ)→Option ρ)→β},(∀ r:List AV→(AV→Option ρ)→Option ρ,(∀ l k,r l k=match l[i]? with|some a=>k a|none=>none)→G (Q r))→G (b3L i Q)
 | 0,Q,h=>h _ fun l k=>by cases l<;>rfl
 | i+1,Q,h=>a0C i fun r j=>h _ fun l k=>by
  cases l with
  | nil=>rfl
  | cons a t=>show r t k=_; rw[j]; simp
end
abbrev U:AV:=.undef
def u8:W8 AV:=.mk U U U U U U U U
noncomputable def b7u {ρ:Type} (l:List AV) (k:W8 AV→Option ρ):Option ρ:=List.rec (motive:=fun _=>Option ρ) (k (.mk U U U U U U U U)) (fun i l _=>List.rec (motive:=fun _=>Option ρ) (k (.mk i U U U U U U U)) (fun j l _=>List.rec (motive:=fun _=>Option ρ) (k (.mk i j U U U U U U)) (fun t l _=>List.rec (motive:=fun _=>Option ρ) (k (.mk i j t U U U U U)) (fun u l _=>List.rec (motive:=fun _=>Option ρ) (k (.mk i j t u U U U U)) (fun x l _=>List.rec (motive:=fun _=>Option ρ) (k (.mk i j t u x U U U)) (fun y l _=>List.rec (motive:=fun _=>Option ρ) (k (.mk i j t u x y U U)) (fun z l _=>List.rec (motive:=fun _=>Option ρ) (k (.mk i j t u x y z U)) (fun B l _=>List.rec (motive:=fun _=>Option ρ) (k (.mk i j t u x y z B)) (fun _ _ _=>none) l) l) l) l) l) l) l) l) l
theorem d3t (i:Nat):pk8 i u8=U:=by show(match i with|0=>U|1=>U|2=>U|3=>U|4=>U|5=>U|6=>U|_=>U)=U;split<;>rfl
theorem c1X {ρ:Type} {l:List AV} {k:W8 AV→Option ρ} {r:ρ} (h:b7u l k=some r):∃ w:W8 AV,k w=some r∧l.length≤8∧∀ i,i < 8→pk8 i w=l.getD i .undef:=by
 match l,h with
 | [],h=>exact⟨_,h,by simp,fun i hi=>by rcases lt8 hi with rfl|rfl|rfl|rfl|rfl|rfl|rfl|rfl<;>rfl⟩
 | [y0],h=>exact⟨_,h,by simp,fun i hi=>by rcases lt8 hi with rfl|rfl|rfl|rfl|rfl|rfl|rfl|rfl<;>rfl⟩
 | [y0,y1],h=>exact⟨_,h,by simp,fun i hi=>by rcases lt8 hi with rfl|rfl|rfl|rfl|rfl|rfl|rfl|rfl<;>rfl⟩
 | [y0,y1,y2],h=>exact⟨_,h,by simp,fun i hi=>by rcases lt8 hi with rfl|rfl|rfl|rfl|rfl|rfl|rfl|rfl<;>rfl⟩
 | [y0,y1,y2,y3],h=>exact⟨_,h,by simp,fun i hi=>by rcases lt8 hi with rfl|rfl|rfl|rfl|rfl|rfl|rfl|rfl<;>rfl⟩
 | [y0,y1,y2,y3,y4],h=>exact⟨_,h,by simp,fun i hi=>by rcases lt8 hi with rfl|rfl|rfl|rfl|rfl|rfl|rfl|rfl<;>rfl⟩
 | [y0,y1,y2,y3,y4,y5],h=>exact⟨_,h,by simp,fun i hi=>by rcases lt8 hi with rfl|rfl|rfl|rfl|rfl|rfl|rfl|rfl<;>rfl⟩
 | [y0,y1,y2,y3,y4,y5,y6],h=>exact⟨_,h,by simp,fun i hi=>by rcases lt8 hi with rfl|rfl|rfl|rfl|rfl|rfl|rfl|rfl<;>rfl⟩
 | [y0,y1,y2,y3,y4,y5,y6,y7],h=>exact⟨_,h,by simp,fun i hi=>by rcases lt8 hi with rfl|rfl|rfl|rfl|rfl|rfl|rfl|rfl<;>rfl⟩
 | _::_::_::_::_::_::_::_::_::_,h=>cases h
def fr0 (w:W8 AV):Fr:=.mk w u8 u8 u8 u8 u8 u8 u8
theorem c93 {w:W8 AV} {l:List AV} {np nv:Nat} (y:∀ i,i < 8→pk8 i w=l.getD i .undef) (hl:l.length=np) (B:l.length≤8) (x:np≤nv) (hn:nv≤64):toL nv (fr0 w)=l++List.replicate (nv - np) .undef:=by
 apply List.ext_getElem
 · simp[toL,hl]; omega
 · intro j t z;have C:j < nv:=by simpa[toL]using t
   have u:V5 j (fr0 w)=l.getD j .undef:=by
    unfold V5;rcases Nat.lt_or_ge j 8 with h|h
    · rw[show j / 8=0 by omega,show j % 8=j by omega];exact y j h
    · have:pk8 (j / 8) (fr0 w)=u8:=by rcases lt8 (show j / 8 < 8 by omega)with e|e|e|e|e|e|e|e<;>rw[e]<;>first|(exfalso; omega)|rfl
      rw[this,d3t,List.getD_eq_getElem?_getD,List.getElem?_eq_none (by omega)];rfl
   simp only[toL,List.getElem_map,List.getElem_range,u];rw[List.getElem_append];split
   · rename_i h; simp[List.getD,h]
   · rename_i h; rw[List.getD_eq_getElem?_getD,List.getElem?_eq_none (by omega)]; simp
end Go.Cb.G
namespace Go.Cb.G
open Go Go.Cb
abbrev RO:=Option (AV×Fr×St)
abbrev Rd:=List AV→Fr→(AV→RO)→RO
inductive Src where
 | w (l:Nat)|s (l:Nat)|d (l:Nat)|k (a:AV)|q (a:AV)
abbrev Scope:=List (Nat×Src)
noncomputable def G2 (s:Nat) (j:Scope):Option Src:=List.rec (motive:=fun _=>Option Src) none (fun p _ i=>Prod.rec (motive:=fun _=>Option Src) (fun t x=>Bool.rec (motive:=fun _=>Option Src) i (some x) (Nat.beq t s)) p) j
theorem a2q (s t:Nat) (x:Src) (i:Scope):G2 s ((t,x)::i)=if t=s then some x else G2 s i:=by
 show Bool.rec (motive:=fun _=>Option Src) (G2 s i) (some x) (Nat.beq t s)=_;by_cases h:t=s
 · rw[if_pos h,show Nat.beq t s=true by simpa using h]
 · rw[if_neg h,show Nat.beq t s=false from Bool.eq_false_iff.2 fun q=>h (Nat.eq_of_beq_eq_true q)]
def lv (env:List AV) (l:Nat):Option AV:=env.reverse[l]?
theorem e0q {env:List AV} {l:Nat} {a:AV} (x:AV) (h:lv env l=some a):lv (x::env) l=some a:=by
 unfold lv at *
 rw[List.reverse_cons,List.getElem?_append_left (by
  rcases Nat.lt_or_ge l env.reverse.length with q|q
  · exact q
  · rw[List.getElem?_eq_none q]at h; cases h)]
 exact h
theorem b5Y (x:AV) (env:List AV):lv (x::env) env.length=some x:=by unfold lv;rw[List.reverse_cons,List.getElem?_append_right (by simp)];simp
theorem a8i {env:List AV} {l d:Nat} {a:AV} (i:env.length=d) (h:lv env l=some a):env[d - 1 - l]?=some a:=by
 unfold lv at h;have hl:l < env.length:=by
  rcases Nat.lt_or_ge l env.reverse.length with q|q
  · simpa using q
  · rw[List.getElem?_eq_none q]at h; cases h
 rw[List.getElem?_reverse hl,i]at h;exact h
def SrcOK (env:List AV) (v:AV):Src→Prop
 | .w l=>∃ a,lv env l=some a∧v.weak=a
 | .s l=>∃ a,lv env l=some a∧v=a
 | .d l=>∃ a,lv env l=some a∧v.weak=a.weak
 | .k a=>v=a
 | .q a=>v.weak=a
theorem SrcOK.push {env:List AV} {v:AV} {x:Src} (y:AV) (h:SrcOK env v x):SrcOK (y::env) v x:=by cases x<;>simp only[SrcOK]at*<;> first|exact h|(obtain⟨a,i,j⟩:=h; exact⟨a,e0q y i,j⟩)
structure Ag (nv dep:Nat) (sc:Scope) (env:List AV) (fr:Fr) (σ:Sig):Prop where
 f:σ.fr=toL nv fr
 d:env.length=dep
 nb:∀ s,(σ.τ s).stripB=σ.τ s
 t:∀ s x,G2 s sc=some x→SrcOK env (σ.τ s) x
noncomputable def d2p (x:AV) (y z:RO):RO:=AV.rec (motive_1:=fun _=>RO) (motive_2:=fun _=>Unit) (motive_3:=fun _=>Unit)
 z (fun _=>z) (fun _ _=>z) (fun _=>z) (fun _ _ _=>z) (fun _ _=>z) z (fun _ _=>z) (fun _ _=>z) (fun _ _=>y) (fun _=>z) z (fun _ _ _ _ _=>z) z (fun _ _=>z) (fun _ _=>z) (fun _ _ _=>z) z (fun _ _ _ _=>z) (fun _ _=>z) z
 () (fun _ _ _ _=>()) () (fun _ _ _ _=>()) x
noncomputable def b8m (i:Nat) (x:AV) (k:AV→RO):RO:=d2p x (k (.loc i 0)) (k .undef)
theorem c3D (i:Nat) (x:AV) (k:AV→RO):b8m i x k=k (match x with|.box _=>.loc i 0|_=>.undef):=by cases x<;>rfl
section
variable {β:Type}
noncomputable def rdK (nv j:Nat) (u:Scope) (x:Opd) (e:β) (Q:Rd→β):β :=
 match x with
 | .t s=>match G2 s u with
  | some (.w l)=>b3L (j - 1 - l) fun r=>Q fun env _ k=>r env k
  | some (.s l)|some (.d l)=>b3L (j - 1 - l) fun r=>Q fun env _ k=>r env fun x=>qWk x k
  | some (.k a)=>Q fun _ _ k=>k a.weak
  | some (.q a)=>Q fun _ _ k=>k a
  | none=>e
 | .ts s=>match G2 s u with
  | some (.s l)=>b3L (j - 1 - l) fun r=>Q fun env _ k=>r env k
  | some (.k a)=>Q fun _ _ k=>k a
  | _=>e
 | .v i=>match Nat.blt i nv with
  | true=>a2h i e fun g=>Q fun _ fr k=>g fr fun x=>qWk x k
  | false=>e
 | .vs i=>match Nat.blt i nv with
  | true=>a2h i e fun g=>Q fun _ fr k=>g fr k
  | false=>e
 | .l i=>match Nat.blt i nv with
  | true=>a2h i e fun g=>Q fun _ fr k=>g fr fun x=>b8m i x k
  | false=>e
 | .c a=>Q fun _ _ k=>k a
def c6o (nv i:Nat) (j:Scope) (x:Opd) (r:Rd):Prop:=∀ env fr σ,Ag nv i j env fr σ→∀ k,r env fr k=k (x.read σ)
theorem S9 {i n:Nat} (h:Nat.blt i n=true):i < n:=by simpa using h
theorem a5z {G:β→Prop} {nv D:Nat} {I:Scope} {x:Opd} {e:β} {Q:Rd→β} (hn:nv≤64) (u:G e) (h:∀ r,c6o nv D I x r→G (Q r)):G (rdK nv D I x e Q):=by
 unfold rdK;cases x with
 | t s =>
  dsimp only;cases hs:G2 s I with
  | none=>exact u
  | some y =>
   cases y with
   | w l =>
    refine a0C _ fun r C=>h _ fun env fr σ j k=>?_
    obtain⟨a,z,B⟩:=j.t _ _ hs;show r env k=_;rw[C,a8i j.d z,← B]; rfl
   | s l =>
    refine a0C _ fun r C=>h _ fun env fr σ j k=>?_
    obtain⟨a,z,B⟩:=j.t _ _ hs;show r env _=_;rw[C,a8i j.d z];show qWk a k=_;rw[a1C,← B]; rfl
   | d l =>
    refine a0C _ fun r C=>h _ fun env fr σ j k=>?_
    obtain⟨a,z,B⟩:=j.t _ _ hs;show r env _=_;rw[C,a8i j.d z];show qWk a k=_;rw[a1C,← B]; rfl
   | k a =>
    refine h _ fun env fr σ j k=>?_
    have:=j.t _ _ hs;show k a.weak=k (σ.τ s).weak;rw[show σ.τ s=a from this]
   | q a =>
    refine h _ fun env fr σ j k=>?_
    have:=j.t _ _ hs;show k a=k (σ.τ s).weak;rw[show(σ.τ s).weak=a from this]
 | ts s =>
  dsimp only;cases hs:G2 s I with
  | none=>exact u
  | some y =>
   cases y with
   | s l =>
    refine a0C _ fun r C=>h _ fun env fr σ j k=>?_
    obtain⟨a,z,B⟩:=j.t _ _ hs;show r env k=_;rw[C,a8i j.d z,← B]; rfl
   | k a =>
    refine h _ fun env fr σ j k=>?_
    have:=j.t _ _ hs;show k a=k (σ.τ s);rw[show σ.τ s=a from this]
   | _=>exact u
 | v i =>
  dsimp only;cases E:Nat.blt i nv with
  | false=>exact u
  | true =>
   have hi:=S9 E;refine K1 (by omega) u fun g F=>h _ fun env fr σ j k=>?_
   show g fr (fun x=>qWk x k)=k (σ.fr.getD i .undef).weak;rw[F,a1C,j.f,N1 hi]
 | vs i =>
  dsimp only;cases E:Nat.blt i nv with
  | false=>exact u
  | true =>
   have hi:=S9 E;refine K1 (by omega) u fun g F=>h _ fun env fr σ j k=>?_
   show g fr k=k (σ.fr.getD i .undef);rw[F,j.f,N1 hi]
 | l i =>
  dsimp only;cases E:Nat.blt i nv with
  | false=>exact u
  | true =>
   have hi:=S9 E;refine K1 (by omega) u fun g F=>h _ fun env fr σ j k=>?_
   show g fr (fun x=>b8m i x k)=_;rw[F,c3D];show _=k (match σ.fr.getD i .undef with|.box _=>.loc i 0|_=>.undef);rw[j.f,N1 hi]
 | c a=>exact h _ fun _ _ _ _ _=>rfl
def rdL (nv i:Nat) (j:Scope) (rd:Opd→β→(Rd→β)→β):List Opd→β→(List Rd→β)→β
 | [],_,Q=>Q []
 | x::xs,e,Q=>rd x e fun r=>rdL nv i j rd xs e fun rs=>Q (r::rs)
def a8k (nv i:Nat) (j:Scope):List Opd→List Rd→Prop
 | [],[]=>True
 | x::xs,r::rs=>c6o nv i j x r∧a8k nv i j xs rs
 | _,_=>False
theorem b0J {G:β→Prop} {nv i:Nat} {l:Scope} (hn:nv≤64):∀ {xs:List Opd} {e:β} {Q:List Rd→β},G e→(∀ rs,a8k nv i l xs rs→G (Q rs))→G (rdL nv i l (fun x e Q=>rdK nv i l x e Q) xs e Q)
 | [],e,Q,he,h=>h [] trivial
 | x::xs,e,Q,he,h=>by unfold rdL;exact a5z hn he fun r t=>b0J hn he fun rs j=>h _ ⟨t,j⟩
end
def a1F:List Rd→List AV→Fr→(List AV→RO)→RO
 | [],_,_,k=>k []
 | r::rs,env,fr,k=>r env fr fun x=>a1F rs env fr fun xs=>k (x::xs)
theorem a1h {nv i:Nat} {l:Scope} {env:List AV} {fr:Fr} {σ:Sig} (j:Ag nv i l env fr σ):∀ {xs:List Opd} {rs:List Rd} {k:List AV→RO},a8k nv i l xs rs→a1F rs env fr k=k (xs.map (·.read σ))
 | [],[],k,_=>rfl
 | x::xs,r::rs,k,h=>by show r env fr _=_;rw[h.1 env fr σ j,a1h j h.2];rfl
 | [],_::_,_,h=>h.elim
 | _::_,[],_,h=>h.elim
section
variable {β:Type}
abbrev RdA:=List AV→Fr→(List AV→RO)→RO
noncomputable def b3m (rs:List Rd) (Q:RdA→β):β:=List.rec (motive:=fun _=>(RdA→β)→β) (fun Q=>Q fun _ _ k=>k []) (fun r _ i Q=>i fun j=>Q fun env fr k=>r env fr fun x=>j env fr fun xs=>k (x::xs)) rs Q
theorem a1R {G:β→Prop}:∀ {rs:List Rd} {Q:RdA→β},(∀ j:RdA,(∀ env fr k,j env fr k=a1F rs env fr k)→G (Q j))→G (b3m rs Q)
 | [],Q,h=>h _ fun _ _ _=>rfl
 | r::rs,Q,h=>a1R (rs:=rs) fun j i=>h _ fun env fr k=>by show r env fr _=r env fr _;congr;funext x;exact i _ _ _
abbrev KF:=d8→List AV→Fr→AV→St→(AV→AV→St→RO)→RO
def b9i (i:Kind) (rs:List Rd) (j:KF):Prop:=∀ c env fr b s K,j c env fr b s K=a1F rs env fr fun as=>obind (sem i c as b s) fun p=>K p.1 p.2.1 p.2.2
theorem r5 {i:Kind} (j:i.setSt=false) (l:i.alters=false) (c:d8) (as:List AV) (b:AV) (s:St) (K:AV→AV→St→RO):obind (p1 (sem i c as b s)) (fun r=>K r b s)=obind (sem i c as b s) fun p=>K p.1 p.2.1 p.2.2:=by
 cases hs:sem i c as b s with
 | none=>rfl
 | some p =>obtain⟨r,b',t⟩:=p;have e1:=a1q j hs;have e2:=a2E l hs;subst e1 e2;rfl
theorem a2S {i:Kind} (j:i.alters=false) (c:d8) (as:List AV) (b:AV) (s:St) (K:AV→AV→St→RO):obind (p2 (sem i c as b s)) (fun r=>K r.1 b r.2)=obind (sem i c as b s) fun p=>K p.1 p.2.1 p.2.2:=by
 cases hs:sem i c as b s with
 | none=>rfl
 | some p =>obtain⟨r,b',l⟩:=p;have e2:=a2E j hs;subst e2;rfl
noncomputable def a9Z (c:d8) (s:St) (K:AV→St→RO) (i:Nat) (xs:List AV):RO:=a6w xs fun j=>b9e (c i j s) fun v s=>K v s
noncomputable def b24 (c:d8) (b:AV) (s:St) (f:AV→RO) (g:Bool) (d:Nat) (x:AV):RO:=a8c x (obind (p1 (sem (.ldAn g d) c [x] b s)) f) (fun o i=>a3s s f g d (.ptr o i)) (fun cs=>a6i f g d (.ro cs)) (fun _ _=>obind (p1 (sem (.ldAn g d) c [x] b s)) f)
theorem b8C (c:d8) (b:AV) (s:St) (f:AV→RO) (g:Bool) (d:Nat) (x:AV):b24 c b s f g d x=obind (p1 (sem (.ldAn g d) c [x] b s)) f:=by
 unfold b24;rw[a5q];cases x<;>try rfl
 · rename_i o i;show a3s s f g d (.ptr o i)=_;rw[a9M c b s]; rfl
 · rename_i cs;show a6i f g d (.ro cs)=_;rw[b0u c b s]; rfl
noncomputable def b8P {β:Type} (l:List β) (x:β) (k:List β→RO):RO:=Nat.rec (motive:=fun _=>List β→(List β→RO)→RO) (fun l k=>a5F l [x] k) (fun _ i l k=>a3g l (k (l++[x])) i k) (Nat.div (J1 l) 8) l k
theorem b13 {β:Type} (x:β):∀ (q:Nat) (l:List β) (k:List β→RO),Nat.rec (motive:=fun _=>List β→(List β→RO)→RO) (fun l k=>a5F l [x] k) (fun _ i l k=>a3g l (k (l++[x])) i k) q l k=k (l++[x])
 | 0,l,k=>a4z [x] l k
 | q+1,l,k=>by
  show a3g l (k (l++[x])) (fun l k=>Nat.rec (motive:=fun _=>List β→(List β→RO)→RO) (fun l k=>a5F l [x] k) (fun _ i l k=>a3g l (k (l++[x])) i k) q l k) k=_;rw[b1D];split
  · rw[b13 x q (l.drop 8),← AU,List.take_append_drop]
  · rfl
theorem b1W {β:Type} (l:List β) (x:β) (k:List β→RO):b8P l x k=k (l++[x]):=b13 x _ l k
noncomputable def b39 (s:St) (f:AV×St→RO) (x:AV):RO:=plB x (fL x.cellsW fun cs=>a3a (J1 s) fun n=>b8P s (.cells cs) fun i=>f (.ptr n 0,i))
theorem b7z (c:d8) (b:AV) (s:St) (f:AV×St→RO) (x:AV):b39 s f x=obind (p2 (sem .boxO c [x] b s)) f:=by simp only[b39,a6A,fL_eq,a0l,G4,b1W,sem,J3];by_cases h:x.plain=true<;>simp[h,obind,p2]
noncomputable def a4V (s:St) (f:AV×St→RO) (z:List AV):RO:=a3a (J1 s) fun n=>b8P s (.cells z) fun i=>f (.ptr n 0,i)
theorem b4k (c:d8) (b:AV) (s:St) (f:AV×St→RO) (z:List AV):a4V s f z=obind (p2 (sem (.allocO z) c [] b s)) f:=by simp only[a4V,a0l,G4,b1W,sem,E1];rfl
noncomputable def a9S (c:d8) (s:St) (K:AV→St→RO) (as:List AV):RO:=match as with
 | .func f a cs::xs=>a6w xs fun _=>b9e (c f ((a++xs++cs).map AV.weak) s) fun v s=>K v s
 | _=>none
noncomputable def b9Q (i:Kind) (j:RdA) (Q:KF→β):β:=match i.alters with
 | true=>Q fun c env fr b s K=>j env fr fun as=>obind (sem i c as b s) fun p=>a2c p.1 fun r=>a2c p.2.1 fun b=>fL p.2.2 fun s=>K r b s
 | false=>match i.setSt with
  | true=>Q fun c env fr b s K=>j env fr fun as=>obind (p2 (sem i c as b s)) fun p=>a2c p.1 fun r=>fL p.2 fun s=>K r b s
  | false=>Q fun c env fr b s K=>j env fr fun as=>obind (p1 (sem i c as b s)) fun x=>a2c x fun r=>K r b s
noncomputable def b3j (t:Kind) (rs:List Rd) (Q:KF→β):β :=
 match t,rs with
 | .mv,[x]=>Q fun c env fr b s K=>x env fr fun x=>K x b s
 | .bin .eql,[x,y]=>Q fun c env fr b s K=>x env fr fun x=>y env fr fun y=>b8T (fun r=>K r b s) x y
 | .bin .neq,[x,y]=>Q fun c env fr b s K=>x env fr fun x=>y env fr fun y=>b9y (fun r=>K r b s) x y
 | .bin .lss,[x,y]=>Q fun c env fr b s K=>x env fr fun x=>y env fr fun y=>a2e c b s (fun r=>K r b s) .lss Nat.blt x y
 | .bin .leq,[x,y]=>Q fun c env fr b s K=>x env fr fun x=>y env fr fun y=>a2e c b s (fun r=>K r b s) .leq Nat.ble x y
 | .bin .gtr,[x,y]=>Q fun c env fr b s K=>x env fr fun x=>y env fr fun y=>a2e c b s (fun r=>K r b s) .gtr (fun i j=>Nat.blt j i) x y
 | .bin .geq,[x,y]=>Q fun c env fr b s K=>x env fr fun x=>y env fr fun y=>a2e c b s (fun r=>K r b s) .geq (fun i j=>Nat.ble j i) x y
 | .bin .add,[x,y]=>Q fun c env fr b s K=>x env fr fun x=>y env fr fun y=>b9K c b s (fun r=>K r b s) x y
 | .bin .sub,[x,y]=>Q fun c env fr b s K=>x env fr fun x=>y env fr fun y=>b9b c b s (fun r=>K r b s) x y
 | .un .not,[x]=>Q fun c env fr b s K=>x env fr fun x=>b71 (fun r=>K r b s) x
 | .nilchk,[x]=>Q fun c env fr b s K=>x env fr fun x=>b9Z c b s (fun r=>K r b s) x
 | .lenS,[x]=>Q fun c env fr b s K=>x env fr fun x=>b4z (fun r=>K r b s) x
 | .lenL,[x]=>Q fun c env fr b s K=>x env fr fun x=>b4o c b s (fun r=>K r b s) x
 | .idxS,[x,y]=>Q fun c env fr b s K=>x env fr fun x=>y env fr fun y=>b9C (fun r=>K r b s) x y
 | .pick,[x,y,z]=>Q fun c env fr b s K=>x env fr fun x=>y env fr fun y=>z env fr fun z=>b2P (fun r=>K r b s) x y z
 | .fad d,[x]=>Q fun c env fr b s K=>x env fr fun x=>b9v (fun r=>K r b s) d x
 | .iad d,[x,y]=>Q fun c env fr b s K=>x env fr fun x=>y env fr fun y=>b68 c b s (fun r=>K r b s) d x y
 | .ldSt g d,[x]=>Q fun c env fr b s K=>x env fr fun x=>a3s s (fun r=>K r b s) g d x
 | .ldRo g d,[x]=>Q fun c env fr b s K=>x env fr fun x=>a6i (fun r=>K r b s) g d x
 | .ldAn g d,[x]=>Q fun c env fr b s K=>x env fr fun x=>b24 c b s (fun r=>K r b s) g d x
 | .ldLc i g d,[x]=>Q fun c env fr b s K=>x env fr fun x=>b4S b (fun r=>K r b s) i g d x
 | .ext d,[x]=>Q fun c env fr b s K=>x env fr fun x=>b9V (fun r=>K r b s) d x
 | .slS true true,[x,y,z]=>Q fun c env fr b s K=>x env fr fun x=>y env fr fun y=>z env fr fun z=>b7L c b s (fun r=>K r b s) x y z
 | .app d e,[x,y]=>Q fun c env fr b s K=>x env fr fun x=>y env fr fun y=>b8b b s (fun p=>K p.1 p.2.1 p.2.2) d e x y
 | .alloc d,[]=>Q fun c env fr b s K=>a8p b s (fun p=>K p.1 p.2.1 p.2.2) d
 | .stLc i d,[x,y]=>Q fun c env fr b s K=>x env fr fun x=>y env fr fun y=>b2U b s (fun p=>K p.1 p.2.1 p.2.2) i d x y
 | .stSt d,[x,y]=>Q fun c env fr b s K=>x env fr fun x=>y env fr fun y=>b2q s (fun p=>K p.1 b p.2) d x y
 | .boxO,[x]=>Q fun c env fr b s K=>x env fr fun x=>b39 s (fun p=>K p.1 b p.2) x
 | .allocO z,[]=>Q fun c env fr b s K=>a4V s (fun p=>K p.1 b p.2) z
 | .callV,rs=>b3m rs fun l=>Q fun c env fr b s K=>l env fr fun as=>a9S c s (fun v s=>K v b s) as
 | .call f,rs=>b3m rs fun l=>Q fun c env fr b s K=>l env fr fun as=>a9Z c s (fun v s=>K v b s) f as
 | t,rs=>b3m rs fun l=>b9Q t l Q
theorem b6A {G:β→Prop} {j:Kind} {rs:List Rd} {u:RdA} {Q:KF→β} (i:∀ env fr k,u env fr k=a1F rs env fr k) (h:∀ t,b9i j rs t→G (Q t)):G (b9Q j u Q):=by
 unfold b9Q;cases l:j.alters with
 | true=>exact h _ fun c env fr b s K=>by rw[i]; simp only[fNew_eq,fL_eq]
 | false =>
  cases x:j.setSt with
  | true =>
   refine h _ fun c env fr b s K=>?_
   rw[i]; simp only[fNew_eq,fL_eq];congr; funext as;exact a2S l c as b s K
  | false =>
   refine h _ fun c env fr b s K=>?_
   rw[i]; simp only[fNew_eq];congr; funext as;exact r5 x l c as b s K
theorem S8 (x:Rd) (env:List AV) (fr:Fr) (k:List AV→RO):a1F [x] env fr k=x env fr fun x=>k [x]:=rfl
theorem N0 (x y:Rd) (env:List AV) (fr:Fr) (k:List AV→RO):a1F [x,y] env fr k=x env fr fun x=>y env fr fun y=>k [x,y]:=rfl
theorem b5H (x y z:Rd) (env:List AV) (fr:Fr) (k:List AV→RO):a1F [x,y,z] env fr k=x env fr fun x=>y env fr fun y=>z env fr fun z=>k [x,y,z]:=rfl
theorem b2A {G:β→Prop} {l:Kind} {rs:List Rd} {Q:KF→β} (h:∀ t,b9i l rs t→G (Q t)):G (b3j l rs Q):=by
 unfold b3j;split
 · exact h _ fun c env fr b s K=>rfl
 · exact h _ fun c env fr b s K=>by rw[N0]; congr; funext x; congr; funext y; rw[c2q c b s]; exact r5 rfl rfl ..
 · exact h _ fun c env fr b s K=>by rw[N0]; congr; funext x; congr; funext y; rw[c1f c b s]; exact r5 rfl rfl ..
 · exact h _ fun c env fr b s K=>by rw[N0]; congr; funext x; congr; funext y; rw[c8m c b s]; exact r5 rfl rfl ..
 · exact h _ fun c env fr b s K=>by rw[N0]; congr; funext x; congr; funext y; rw[c6l c b s]; exact r5 rfl rfl ..
 · exact h _ fun c env fr b s K=>by rw[N0]; congr; funext x; congr; funext y; rw[d0c c b s]; exact r5 rfl rfl ..
 · exact h _ fun c env fr b s K=>by rw[N0]; congr; funext x; congr; funext y; rw[c8f c b s]; exact r5 rfl rfl ..
 · exact h _ fun c env fr b s K=>by rw[N0]; congr; funext x; congr; funext y; rw[c2E c b s]; exact r5 rfl rfl ..
 · exact h _ fun c env fr b s K=>by rw[N0]; congr; funext x; congr; funext y; rw[c2m c b s]; exact r5 rfl rfl ..
 · exact h _ fun c env fr b s K=>by rw[S8]; congr; funext x; rw[c30 c b s]; exact r5 rfl rfl ..
 · exact h _ fun c env fr b s K=>by rw[S8]; congr; funext x; rw[c2K c b s]; exact r5 rfl rfl ..
 · exact h _ fun c env fr b s K=>by rw[S8]; congr; funext x; rw[b7b c b s]; exact r5 rfl rfl ..
 · exact h _ fun c env fr b s K=>by rw[S8]; congr; funext x; rw[b9x c b s]; exact r5 rfl rfl ..
 · exact h _ fun c env fr b s K=>by rw[N0]; congr; funext x; congr; funext y; rw[c0y c b s]; exact r5 rfl rfl ..
 · exact h _ fun c env fr b s K=>by rw[b5H]; congr; funext x; congr; funext y; congr; funext z; rw[b8f c b s]; exact r5 rfl rfl ..
 · exact h _ fun c env fr b s K=>by rw[S8]; congr; funext x; rw[c1L c b s]; exact r5 rfl rfl ..
 · exact h _ fun c env fr b s K=>by rw[N0]; congr; funext x; congr; funext y; rw[c1x c b s]; exact r5 rfl rfl ..
 · exact h _ fun c env fr b s K=>by rw[S8]; congr; funext x; rw[a9M c b s]; exact r5 rfl rfl ..
 · exact h _ fun c env fr b s K=>by rw[S8]; congr; funext x; rw[b0u c b s]; exact r5 rfl rfl ..
 · exact h _ fun c env fr b s K=>by rw[S8]; congr; funext x; rw[b8C c b s]; exact r5 rfl rfl ..
 · exact h _ fun c env fr b s K=>by rw[S8]; congr; funext x; rw[b7W c b s]; exact r5 rfl rfl ..
 · exact h _ fun c env fr b s K=>by rw[S8]; congr; funext x; rw[c2v c b s]; exact r5 rfl rfl ..
 · exact h _ fun c env fr b s K=>by rw[b5H]; congr; funext x; congr; funext y; congr; funext z; rw[c4A c b s]; exact r5 rfl rfl ..
 · exact h _ fun c env fr b s K=>by rw[N0]; congr; funext x; congr; funext y; exact c1J c b s ..
 · exact h _ fun c env fr b s K=>b61 c b s ..
 · exact h _ fun c env fr b s K=>by rw[N0]; congr; funext x; congr; funext y; exact b7G c b s ..
 · exact h _ fun c env fr b s K=>by rw[N0]; congr; funext x; congr; funext y; rw[b8N c b s]; exact a2S rfl ..
 · exact h _ fun c env fr b s K=>by rw[S8]; congr; funext x; rw[b7z c b s]; exact a2S rfl ..
 · exact h _ fun c env fr b s K=>by show a4V s (fun p=>K p.1 b p.2) _=_; rw[b4k c b s]; exact a2S rfl ..
 · refine a1R fun u i=>h _ fun c env fr b s K=>?_
   rw[i];congr; funext as;show a9S c s (fun v s=>K v b s) as=_;unfold a9S;simp only[sem,D6];split
   · rename_i f a cs xs;rw[a4i];dsimp only;split
     · rw[b2e];cases c f ((a++xs++cs).map AV.weak) s<;>rfl
     · rfl
   · rename_i j;split
     · rename_i f a cs xs;exact absurd rfl (j f a cs xs)
     · rfl
 · refine a1R fun u i=>h _ fun c env fr b s K=>?_
   rw[i];congr; funext as;show a9Z c s (fun v s=>K v b s) _ as=_;unfold a9Z;rw[a4i];simp only[sem,n4];split
   · rw[b2e];cases c _ (as.map AV.weak) s<;>rfl
   · rfl
 · exact a1R fun u i=>b6A i h
end
end Go.Cb.G
namespace Go.Cb.G
open Go Go.Cb
inductive Clo where
 | mk (f:d8→List AV→Fr→St→RO)
noncomputable def Clo.run (x:Clo):d8→List AV→Fr→St→RO:=Clo.rec (motive:=fun _=>d8→List AV→Fr→St→RO) (fun f=>f) x
noncomputable def a0I:Clo:=.mk fun _ _ _ _=>none
abbrev OpF:=d8→List AV→Fr→St→(List AV→Fr→St→RO)→RO
abbrev CF:=d8→List AV→Fr→St→(AV→Fr→St→RO)→RO
section
variable {β:Type}
noncomputable def a3G:List Opd→Scope→Scope
 | [],sc=>sc
 | .ts s::xs,sc=>a3G xs (match G2 s sc with
  | some (.s l)=>(s,.d l)::sc
  | some (.k a)=>(s,.q a.weak)::sc
  | _=>sc)
 | _::xs,sc=>a3G xs sc
noncomputable def a2z (nv:Nat):List Opd→β→((Fr→(Fr→RO)→RO)→β)→β
 | [],_,Q=>Q fun fr k=>k fr
 | .vs i::xs,e,Q=>match Nat.blt i nv with
  | true=>a2h i e fun g=>a6F i e fun p=>a2z nv xs e fun r=>Q fun fr k=>g fr fun x=>qWk x fun x=>p x fr fun fr=>r fr k
  | false=>e
 | _::xs,e,Q=>a2z nv xs e Q
def b4G:List Opd→Bool
 | []=>false
 | .vs _::_=>true
 | _::xs=>b4G xs
noncomputable def b4u (nv:Nat) (l:Kind) (args:List Opd) (box:Option Nat) (j:KF) (e:β) (Q:CF→β):β :=
 match b4G args,box with
 | false,none=>Q fun c env fr st K=>j c env fr .undef st fun r _ s=>K r fr s
 | true,none=>a2z nv args e fun sp=>Q fun c env fr st K=>j c env fr .undef st fun r _ s=>sp fr fun fr=>K r fr s
 | vs,some i=>match Nat.blt i nv with
  | false=>e
  | true=>a2h i e fun g=>match l.alters || vs with
   | false=>Q fun c env fr st K=>g fr fun b=>j c env fr b st fun r _ s=>K r fr s
   | true=>a2z nv args e fun sp=>a6F i e fun p=>Q fun c env fr st K=>g fr fun b=>j c env fr b st fun r b s=>sp fr fun fr=>p b fr fun fr=>K r fr s
abbrev PF:=AV→List AV→Fr→St→(List AV→Fr→St→RO)→RO
def b8e (x:Nat):List Nat→Bool
 | []=>false
 | y::ys=>Nat.beq x y || b8e x ys
noncomputable def b9A (nv j:Nat) (u:List Nat) (d:Dst) (l:Scope) (e:β) (Q:PF→Nat→Scope→β):β :=
 match d with
 | .t s=>match b8e s u with
  | true=>Q (fun r env fr s k=>qSb r fun v _=>k (v::env) fr s) (j+1) ((s,.s j)::l)
  | false=>Q (fun r env fr s k=>qSb r fun _ w=>k (w::env) fr s) (j+1) ((s,.w j)::l)
 | .v i=>match Nat.blt i nv with
  | true=>a6F i e fun p=>Q (fun r env fr s k=>qSv r fun v _=>p v fr fun fr=>k env fr s) j l
  | false=>e
 | _=>Q (fun r env fr s k=>k env fr s) j l
noncomputable def qGd (q:AV) (w:Bool) (x y:RO):RO:=c6U q none (fun v=>bW v w x y) (fun vs=>List.rec (motive:=fun _=>RO) y (fun _ _ _=>none) vs)
theorem d0s (q:AV) (w:Bool) (x y:RO):qGd q w x y=match q with|.bool b=>if b == w then x else y|.tuple []=>y|_=>none:=by
 simp only[qGd,c4F,d3E];cases q<;>try rfl
 rename_i vs; cases vs<;>rfl
def a6U (o:AOper):Option (Nat×Opd):=match o with
 | ⟨.t s,.mv,[.t s'],none,none⟩=>some (s,.t s')
 | ⟨.t s,.mv,[.c a],none,none⟩=>some (s,.c a)
 | _=>none
noncomputable def opK (nv j:Nat) (i:Scope) (B:List Nat) (o:AOper) (e:β) (Q0:Scope→β) (Q:OpF→Nat→Scope→β):β :=
 match a6U o with
 | some (s,.t E)=>match G2 E i with
  | some (.w l)=>Q0 ((s,.w l)::i)
  | some (.s l)|some (.d l)=>Q0 ((s,.d l)::i)
  | some (.k a)=>Q0 ((s,.q a.weak)::i)
  | some (.q a)=>Q0 ((s,.q a)::i)
  | none=>e
 | some (s,.c a)=>Q0 ((s,.k a.stripB)::i)
 | _=>rdL nv j i (fun x e Q=>rdK nv j i x e Q) o.args e fun rs=>b3j o.kind rs fun D=>b4u nv o.kind o.args o.box D e fun C =>
  b9A nv j B o.dst (a3G o.args i) e fun z u y=>match o.guard with
   | none=>Q (fun c env fr st k=>C c env fr st fun r fr s=>z r env fr s k) u y
   | some (x,w)=>rdK nv j i x e fun g=>Q (fun c env fr st k=>g env fr fun q=>qGd q w (C c env fr st fun r fr s=>z r env fr s k) (z (.tuple []) env fr st k)) u y
theorem b1R {v:AV} (h:v.stripB=v):v.weak.stripB=v.weak:=by cases v<;>first|rfl|cases h
theorem a5g (v:AV):v.stripB.stripB=v.stripB:=by cases v<;>rfl
theorem a1b (τ:Nat→AV) (s:Nat) (a:AV) (j:Nat):q8 τ s a j=if j=s then a else τ j:=by
 unfold q8;by_cases h:j=s
 · subst h; simp
 · rw[if_neg h]; simp[h]
theorem I6 {nv:Nat} (hn:nv≤64):∀ (xs:List Opd) {G:β→Prop} {e:β} {Q:(Fr→(Fr→RO)→RO)→β},G e →
 (∀ sp:Fr→(Fr→RO)→RO,(∀ fr σ,σ.fr=toL nv fr→∃ y,(∀ k,sp fr k=k y)∧(d9 xs σ).fr=toL nv y)→G (Q sp))→G (a2z nv xs e Q)
 | [],G,e,Q,he,h=>h _ fun fr σ u=>⟨fr,fun _=>rfl,u⟩
 | x::xs,G,e,Q,he,h=>by
  cases x with
  | vs i =>
   unfold a2z;cases C:Nat.blt i nv with
   | false=>exact he
   | true =>
    have hi:=S9 C;refine K1 (by omega) he fun g D=>a1D (by omega) he fun p E=>I6 hn xs he fun sp j=>h _ fun fr σ u=>?_
    obtain⟨y,z,B⟩:=j (a1Q i (V5 i fr).weak fr) (Opd.spend (.vs i) σ) (by show σ.fr.set i (σ.fr.getD i .undef).weak=_;rw[u,N1 hi,a2w hi hn]);refine⟨y,fun k=>?_,B⟩;show g fr (fun x=>qWk x fun x=>p x fr fun fr=>sp fr k)=_;rw[D,a1C,E,z]
  | ts s=>exact I6 hn xs he fun sp j=>h sp fun fr σ u=>j fr (Opd.spend (.ts s) σ) u
  | t s=>exact I6 hn xs he fun sp j=>h sp fun fr σ u=>j fr σ u
  | v s=>exact I6 hn xs he fun sp j=>h sp fun fr σ u=>j fr σ u
  | l s=>exact I6 hn xs he fun sp j=>h sp fun fr σ u=>j fr σ u
  | c s=>exact I6 hn xs he fun sp j=>h sp fun fr σ u=>j fr σ u
def a3S (i:Scope) (env:List AV) (τ:Nat→AV):Prop:=∀ s x,G2 s i=some x→SrcOK env (τ s) x
theorem H6 {env:List AV}:∀ {xs:List Opd} {u:Scope} {σ:Sig},a3S u env σ.τ→(∀ s,(σ.τ s).stripB=σ.τ s) →
 a3S (a3G xs u) env σ.τ∧a3S (a3G xs u) env (d9 xs σ).τ∧(∀ s,((d9 xs σ).τ s).stripB=(d9 xs σ).τ s)∧(d9 xs σ).st=σ.st
 | [],u,σ,h,hb=>⟨h,h,hb,rfl⟩
 | x::xs,u,σ,h,hb=>by
  cases x with
  | ts s =>
   have I:∀ (v:AV),v=σ.τ s∨v=(σ.τ s).weak→∀ y,G2 s (match G2 s u with|some (.s l)=>(s,.d l)::u|some (.k a)=>(s,.q a.weak)::u|_=>u)=some y→SrcOK env v y:=by
    intro v M y j;have B:v.weak=(σ.τ s).weak:=by rcases M with rfl|rfl; rfl; exact E3 _
    cases hs:G2 s u with
    | none=>rw[hs]at j; dsimp only at j; rw[hs]at j; cases j
    | some z =>
     have E:=h _ _ hs;rw[hs]at j;cases z with
     | s l =>dsimp only at j;rw[a2q,if_pos rfl]at j;cases j;obtain⟨a,C,D⟩:=E;exact⟨a,C,by rw[B,D]⟩
     | k a =>dsimp only at j;rw[a2q,if_pos rfl]at j;cases j;show v.weak=a.weak;rw[B,show σ.τ s=a from E]
     | w l =>dsimp only at j;rw[hs]at j;cases j;obtain⟨a,C,D⟩:=E;exact⟨a,C,by rw[B,D]⟩
     | d l =>dsimp only at j;rw[hs]at j;cases j;obtain⟨a,C,D⟩:=E;exact⟨a,C,by rw[B,D]⟩
     | q a =>dsimp only at j;rw[hs]at j;cases j;show v.weak=a;rw[B];exact E
   have G:∀ t,t≠s→∀ y,G2 t (match G2 s u with|some (.s l)=>(s,.d l)::u|some (.k a)=>(s,.q a.weak)::u|_=>u)=some y→G2 t u=some y:=by
    intro t J y j;cases hs:G2 s u with
    | none=>rw[hs]at j; exact j
    | some z =>rw[hs]at j;cases z<;>dsimp only at j<;>first|exact j|(rw[a2q,if_neg (fun q=>J q.symm)]at j; exact j)
   have C:a3S (match G2 s u with|some (.s l)=>(s,.d l)::u|some (.k a)=>(s,.q a.weak)::u|_=>u) env σ.τ:=fun t y j=>by
    by_cases e:t=s
    · subst e; exact I _ (.inl rfl) y j
    · exact h _ _ (G t e y j)
   have D:a3S (match G2 s u with|some (.s l)=>(s,.d l)::u|some (.k a)=>(s,.q a.weak)::u|_=>u) env (Opd.spend (.ts s) σ).τ:=fun t y j=>by
    show SrcOK env (q8 σ.τ s (σ.τ s).weak t) y;rw[a1b];by_cases e:t=s
    · subst e; rw[if_pos rfl]; exact I _ (.inr rfl) y j
    · rw[if_neg e]; exact h _ _ (G t e y j)
   have F:∀ t,((Opd.spend (.ts s) σ).τ t).stripB=(Opd.spend (.ts s) σ).τ t:=fun t=>by
    show(q8 σ.τ s (σ.τ s).weak t).stripB=q8 σ.τ s (σ.τ s).weak t;rw[a1b];split
    · exact b1R (hb s)
    · exact hb t
   have a:=H6 (xs:=xs) C hb;have b:=H6 (xs:=xs) D F;exact⟨a.1,b.2.1,b.2.2.1,b.2.2.2⟩
  | vs i =>have a:=H6 (xs:=xs) h hb;have b:=H6 (xs:=xs) (σ:=Opd.spend (.vs i) σ) h hb;exact⟨a.1,b.2.1,b.2.2.1,b.2.2.2⟩
  | t s=>exact H6 (xs:=xs) h hb
  | v s=>exact H6 (xs:=xs) h hb
  | l s=>exact H6 (xs:=xs) h hb
  | c s=>exact H6 (xs:=xs) h hb
theorem b0r {xs:List Opd} (h:b4G xs=false):∀ σ:Sig,(d9 xs σ).fr=σ.fr:=by
 induction xs with
 | nil=>intro σ; rfl
 | cons x xs i=>intro σ; cases x<;>first|exact i h _|cases h
def d9L (nv l:Nat) (u:Scope) (o:AOper) (t:CF):Prop:=∀ c env fr st σ,Ag nv l u env fr σ→σ.st=st→∀ (K:AV→Fr→St→RO) out,t c env fr st K=some out →
 ∃ r b st' j,sem o.kind c (o.args.map (·.read σ)) (match o.box with|some i=>σ.fr.getD i .undef|none=>.undef) st=some (r,b,st')∧K r j st'=some out ∧
  (match o.box with|some i=>(d9 o.args σ).fr.set i b|none=>(d9 o.args σ).fr)=toL nv j
theorem a4Q {α i:Type} {x:Option α} {f:α→Option i} {r:i} (h:obind x f=some r):∃ a,x=some a∧f a=some r:=by
 cases x with
 | none=>cases h
 | some a=>exact⟨a,rfl,h⟩
theorem b4M {G:β→Prop} {nv E:Nat} {U:Scope} {o:AOper} {rs:List Rd} {T:KF} {e:β} {Q:CF→β} (hn:nv≤64) (y:a8k nv E U o.args rs) (x:b9i o.kind rs T) (I:G e) (h:∀ O,d9L nv E U o O→G (Q O)) :
 G (b4u nv o.kind o.args o.box T e Q):=by
 unfold b4u;split
 · rename_i S u;refine h _ fun c env fr st σ l D K out j=>?_
   rw[x,a1h l y]at j;obtain⟨⟨r,b,st'⟩,z,t⟩:=a4Q j;exact⟨r,b,st',fr,by rw[u]; exact z,t,by rw[u]; dsimp only; rw[b0r S,l.f]⟩
 · rename_i S u;refine I6 hn o.args I fun sp C=>h _ fun c env fr st σ l D K out j=>?_
   rw[x,a1h l y]at j;obtain⟨⟨r,b,st'⟩,z,t⟩:=a4Q j;obtain⟨F,J,M⟩:=C fr σ l.f;dsimp only at t;rw[J]at t;exact⟨r,b,st',F,by rw[u]; exact z,t,by rw[u]; exact M⟩
 · rename_i i u;cases N:Nat.blt i nv with
   | false=>exact I
   | true =>
    have hi:=S9 N;refine K1 (by omega) I fun g R=>?_
    split
    · rename_i B;simp only[Bool.or_eq_false_iff]at B;refine h _ fun c env fr st σ l D K out j=>?_
      rw[R,x,a1h l y]at j;obtain⟨⟨r,b,st'⟩,z,t⟩:=a4Q j;refine⟨r,b,st',fr,by rw[u]; dsimp only; rw[l.f,N1 hi]; exact z,t,?_⟩;rw[u];have:=a2E B.1 z;subst this;dsimp only;rw[b0r B.2,l.f,← N1 hi fr];exact a3C _ _
    · refine I6 hn o.args I fun sp C=>a1D (by omega) I fun p V=>h _ fun c env fr st σ l D K out j=>?_
      rw[R,x,a1h l y]at j;obtain⟨⟨r,b,st'⟩,z,t⟩:=a4Q j;obtain⟨F,J,M⟩:=C fr σ l.f;dsimp only at t;rw[J,V]at t;refine⟨r,b,st',_,by rw[u]; dsimp only; rw[l.f,N1 hi]; exact z,t,?_⟩;rw[u];dsimp only;rw[M,a2w hi hn]
def d7A (nv u:Nat) (o:AOper) (z:Scope) (y:PF) (j:Nat) (x:Scope):Prop:=∀ r env fr s (k:List AV→Fr→St→RO) out,y r env fr s k=some out→∀ σ:Sig,σ.fr=toL nv fr→env.length=u→(∀ t,(σ.τ t).stripB=σ.τ t)→a3S z env σ.τ→σ.st=s →
 ∃ i l,k i l s=some out∧Ag nv j x i l (o.dst.put r σ)∧(o.dst.put r σ).st=s
theorem b54 {G:β→Prop} {nv E:Nat} {M:List Nat} {o:AOper} {R:Scope} {e:β} {Q:PF→Nat→Scope→β} (hn:nv≤64) (T:G e) (h:∀ U D I,d7A nv E o R U D I→G (Q U D I)):G (b9A nv E M o.dst R e Q):=by
 unfold b9A;cases B:o.dst with
 | t s =>
  dsimp only;have F:∀ (σ:Sig) (r:AV),(∀ t,(σ.τ t).stripB=σ.τ t)→∀ t,(q8 σ.τ s r.stripB t).stripB=q8 σ.τ s r.stripB t:=fun σ r z t=>by
   rw[a1b]; split
   · exact a5g r
   · exact z t
  have J:∀ (σ:Sig) (r:AV) (env:List AV) (y:Src) (v:AV),env.length=E→a3S R env σ.τ→SrcOK (v::env) r.stripB y→a3S ((s,y)::R) (v::env) (q8 σ.τ s r.stripB):=fun σ r env y v hl l W t x N=>by
   rw[a2q]at N;rw[a1b];split at N
   · rename_i e; cases N; rw[if_pos e.symm]; exact W
   · rename_i e; rw[if_neg (fun q=>e q.symm)]; exact(l _ _ N).push v
  cases b8e s M with
  | true =>
   refine h _ _ _ fun r env fr O k out j σ C hl z l u=>?_
   rw[b6K]at j;refine⟨_,_,j,?_,by rw[B]; exact u⟩;rw[B];exact⟨C,by simp[hl],F σ r z,J σ r env _ _ hl l ⟨_,by rw[← hl]; exact b5Y _ _,rfl⟩⟩
  | false =>
   refine h _ _ _ fun r env fr O k out j σ C hl z l u=>?_
   rw[b6K]at j;refine⟨_,_,j,?_,by rw[B]; exact u⟩;rw[B];exact⟨C,by simp[hl],F σ r z,J σ r env _ _ hl l ⟨_,by rw[← hl]; exact b5Y _ _,rfl⟩⟩
 | v i =>
  dsimp only;cases S:Nat.blt i nv with
  | false=>exact T
  | true =>
   have hi:=S9 S;refine a1D (by omega) T fun p V=>h _ _ _ fun r env fr O k out j σ C hl z l u=>?_
   rw[c6v,V]at j;refine⟨_,_,j,?_,by rw[B]; exact u⟩;rw[B];exact⟨by show σ.fr.set i r.strip=_; rw[C,a2w hi hn],hl,z,l⟩
 | none =>
  refine h _ _ _ fun r env fr O k out j σ C hl z l u=>?_
  refine⟨_,_,j,?_,by rw[B]; exact u⟩;rw[B];exact⟨C,hl,z,l⟩
 | bx =>
  refine h _ _ _ fun r env fr O k out j σ C hl z l u=>?_
  refine⟨_,_,j,?_,by rw[B]; exact u⟩;rw[B];exact⟨C,hl,z,l⟩
def d9B (nv t:Nat) (y:Scope) (o:AOper) (u:OpF) (j:Nat) (x:Scope):Prop:=∀ c env fr st σ,Ag nv t y env fr σ→σ.st=st→∀ (k:List AV→Fr→St→RO) out,u c env fr st k=some out →
 ∃ σ' i l,i7 c o σ=some σ'∧Ag nv j x i l σ'∧k i l σ'.st=some out
def c6Q (nv i:Nat) (l:Scope) (o:AOper) (j:Scope):Prop:=∀ c env fr σ,Ag nv i l env fr σ→∃ σ',i7 c o σ=some σ'∧Ag nv i j env fr σ'∧σ'.st=σ.st
theorem a7O {nv i:Nat} {u:Scope} {env:List AV} {fr:Fr} {σ:Sig} (j:Ag nv i u env fr σ) (s:Nat) (v:AV) (y:Src) (z:SrcOK env v.stripB y):Ag nv i ((s,y)::u) env fr ({ σ with τ:=q8 σ.τ s v.stripB }) :=
 ⟨j.f,j.d,fun t=>by
  show(q8 σ.τ s v.stripB t).stripB=q8 σ.τ s v.stripB t;rw[a1b]; split
  · exact a5g v
  · exact j.nb t,fun t x l=>by
  show SrcOK env (q8 σ.τ s v.stripB t) x;rw[a2q]at l;rw[a1b];split at l
  · rename_i e; cases l; rw[if_pos e.symm]; exact z
  · rename_i e; rw[if_neg (fun q=>e q.symm)]; exact j.t _ _ l⟩
theorem a6x (c:d8) (s:Nat) (x:Opd) (i:x.steals=false) (σ:Sig):i7 c ⟨.t s,.mv,[x],none,none⟩ σ=some { σ with τ:=q8 σ.τ s (x.read σ).stripB }:=by have e:d9 [x] σ=σ:=W5 (by simp[e9,i]);show y9 c _ σ=_;rw[J5];show some (Dst.put (.t s) (x.read σ) { d9 [x] σ with st:=σ.st })=_;rw[e];rfl
theorem b8j {G:β→Prop} {nv I:Nat} {T:Scope} {b3:List Nat} {o:AOper} {e:β} {Q0:Scope→β} {Q:OpF→Nat→Scope→β} (hn:nv≤64) (V:G e) (U:∀ E,c6Q nv I T o E→G (Q0 E))
 (h:∀ Z B E,d9B nv I T o Z B E→G (Q Z B E)):G (opK nv I T b3 o e Q0 Q):=by
 unfold opK;split
 · rename_i s N z;have ho:o=⟨.t s,.mv,[.t N],none,none⟩:=by unfold a6U at z;split at z<;>first|(cases z; rfl)|cases z
   subst ho;have go:∀ y,(∀ env fr σ,Ag nv I T env fr σ→SrcOK env (σ.τ N).weak y)→c6Q nv I T ⟨.t s,.mv,[.t N],none,none⟩ ((s,y)::T):=fun y hy c env fr σ u=>by refine⟨_,a6x c s (.t N) rfl σ,a7O u s _ y ?_,rfl⟩;show SrcOK env ((σ.τ N).weak).stripB y;rw[b1R (u.nb N)];exact hy env fr σ u
   split
   · rename_i l hs;exact U _ (go _ fun env fr σ u=>by obtain⟨a,M,R⟩:=u.t _ _ hs; exact⟨a,M,by rw[E3,R]⟩)
   · rename_i l hs;exact U _ (go _ fun env fr σ u=>by obtain⟨a,M,R⟩:=u.t _ _ hs; exact⟨a,M,by rw[E3,R]⟩)
   · rename_i l hs;exact U _ (go _ fun env fr σ u=>by obtain⟨a,M,R⟩:=u.t _ _ hs; exact⟨a,M,by rw[E3,R]⟩)
   · rename_i a hs;exact U _ (go _ fun env fr σ u=>by have:=u.t _ _ hs;show(σ.τ N).weak.weak=a.weak;rw[E3,show σ.τ N=a from this])
   · rename_i a hs;exact U _ (go _ fun env fr σ u=>by have:=u.t _ _ hs;show(σ.τ N).weak.weak=a;rw[E3];exact this)
   · exact V
 · rename_i s a z;have ho:o=⟨.t s,.mv,[.c a],none,none⟩:=by unfold a6U at z;split at z<;>first|(cases z; rfl)|cases z
   subst ho;exact U _ fun c env fr σ u=>⟨_,a6x c s (.c a) rfl σ,a7O u s _ _ rfl,rfl⟩
 · refine b0J hn V fun rs b1=>b2A fun kf b0=>b4M hn b1 b0 V fun cf a0=>b54 hn V fun pf B E W=>?_
   have body:∀ c env fr st σ,Ag nv I T env fr σ→σ.st=st→∀ (k:List AV→Fr→St→RO) out,(cf c env fr st fun r fr s=>pf r env fr s k)=some out →
    ∃ σ' C D,y9 c o σ=some σ'∧Ag nv B E C D σ'∧k C D σ'.st=some out:=fun c env fr st σ u F k out j=>by
    obtain⟨r,b,st',D,M,R,h3⟩:=a0 c env fr st σ u F _ out j;obtain⟨e1,e2,e3,e4⟩:=H6 (xs:=o.args) (σ:=σ) u.t u.nb;let σ1:Sig:=match o.box with
     | some i=>{ d9 o.args σ with fr:=(d9 o.args σ).fr.set i b,st:=st' }
     | none=>{ d9 o.args σ with st:=st' }
    have a1:σ1.fr=toL nv D:=by rw[← h3]; simp only[σ1]; cases o.box<;>rfl
    have Y:σ1.τ=(d9 o.args σ).τ:=by simp only[σ1]; cases o.box<;>rfl
    have b2:σ1.st=st':=by simp only[σ1]; cases o.box<;>rfl
    obtain⟨J,O,g1,g2,g3⟩:=W r env D st' k out R σ1 a1 u.d (by rw[Y]; exact e3) (by rw[Y]; exact e2) b2;refine⟨_,J,O,?_,g2,by rw[g3]; exact g1⟩;rw[J5,F];simp only[σ1];cases hb:o.box<;>rw[hb]at M<;>dsimp only at M ⊢<;>rw[M]
   split
   · rename_i hg;refine h _ _ _ fun c env fr st σ u F k out j=>?_
     unfold i7;rw[hg];exact body c env fr st σ u F k out j
   · rename_i x w hg;refine a5z hn V fun g a2=>h _ _ _ fun c env fr st σ u F k out j=>?_
     rw[a2 env fr σ u,d0s]at j;unfold i7;rw[hg];dsimp only;have skip:pf (.tuple []) env fr st k=some out→∃ σ' C D,some (o.dst.put (.tuple []) σ)=some σ'∧Ag nv B E C D σ'∧k C D σ'.st=some out:=fun j=>by obtain⟨J,O,g1,g2,g3⟩:=W _ env fr st k out j σ u.f u.d u.nb (H6 (xs:=o.args) (σ:=σ) u.t u.nb).1 F;exact⟨_,J,O,rfl,g2,by rw[g3]; exact g1⟩
     cases hx:x.read σ<;>rw[hx]at j<;>(try dsimp only at j ⊢)<;>try cases j
     · rename_i b;split at j
       · rename_i S; rw[if_pos S]; exact body c env fr st σ u F k out j
       · rename_i S; rw[if_neg S]; exact skip j
     · rename_i vs;cases vs with
       | nil=>exact skip j
       | cons=>cases j
end
noncomputable def a4A (nv:Nat) (y:List Nat) (cond:Opd) (ops:List AOper):Nat→Scope→Clo:=List.rec (motive:=fun _=>Nat→Scope→Clo)
 (fun i u=>rdK nv i u cond a0I fun r=>.mk fun c env fr st=>r env fr fun x=>some (x,fr,st))
 (fun o _ z i u=>opK nv i u y o a0I (fun j=>z i j) fun t l j=>.mk fun c env fr st=>t c env fr st fun env fr st=>(z l j).run c env fr st) ops
def a4w (nv j:Nat) (l:Scope) (cond:Opd) (ops:List AOper) (x:Clo):Prop:=∀ c env fr st σ v i st',Ag nv j l env fr σ→σ.st=st→x.run c env fr st=some (v,i,st') →
 ∃ σ',g9 c ops σ=some σ'∧σ'.fr=toL nv i∧σ'.st=st'∧cond.read σ'=v
theorem a8C {nv i:Nat} {t:Scope} {cond:Opd} {ops:List AOper}:a4w nv i t cond ops a0I:=fun c env fr st σ v j st' u l h=>by cases (show(none:RO)=some _ from h)
theorem a3h {nv:Nat} (hn:nv≤64) {z:List Nat} {cond:Opd}:∀ (ops:List AOper) (i:Nat) (y:Scope),a4w nv i y cond ops (a4A nv z cond ops i y)
 | [],i,y=>by
  show a4w nv i y cond [] (rdK nv i y cond a0I fun r=>.mk fun c env fr st=>r env fr fun x=>some (x,fr,st));refine a5z (G:=a4w nv i y cond []) hn a8C fun r O c env fr st σ v t st' B u h=>?_
  have h:r env fr (fun x=>some (x,fr,st))=some (v,t,st'):=h;rw[O env fr σ B]at h;cases h;exact⟨σ,rfl,B.f,u,rfl⟩
 | o::ops,i,y=>by
  show a4w nv i y cond (o::ops) (opK nv i y z o a0I (fun j=>a4A nv z cond ops i j) fun D l j=>.mk fun c env fr st=>D c env fr st fun env fr st=>(a4A nv z cond ops l j).run c env fr st);refine b8j (G:=a4w nv i y cond (o::ops)) hn a8C (fun j M c env fr st σ v t st' B u h=>?_) fun D l j N c env fr st σ v t st' B u h=>?_
  · obtain⟨σ1,F,I,J⟩:=M c env fr σ B;obtain⟨σ2,g1,g2⟩:=a3h hn ops i j c env fr st σ1 v t st' I (J.trans u) h;exact⟨σ2,by rw[g9,F]; exact g1,g2⟩
  · obtain⟨σ1,C,E,F,I,J⟩:=N c env fr st σ B u _ _ h;obtain⟨σ2,g1,g2⟩:=a3h hn ops l j c C E σ1.st σ1 v t st' I rfl J;exact⟨σ2,by rw[g9,F]; exact g1,g2⟩
end Go.Cb.G
namespace Go.Cb.G
open Go Go.Cb
noncomputable def a8j (nv:Nat) (kill:List Nat) (Q:(Fr→(Fr→RO)→RO)→Clo):Clo:=List.rec (motive:=fun _=>((Fr→(Fr→RO)→RO)→Clo)→Clo) (fun Q=>Q fun fr k=>k fr)
 (fun i _ j Q=>Bool.rec (motive:=fun _=>Clo) (j Q) (a6F i a0I fun p=>j fun r=>Q fun fr k=>p .undef fr fun fr=>r fr k) (Nat.blt i nv)) kill Q
def tsL:List Opd→List Nat
 | []=>[]
 | .ts s::xs=>s::tsL xs
 | _::xs=>tsL xs
def b2S:List AOper→List Nat
 | []=>[]
 | o::os=>match tsL o.args with
  | []=>b2S os
  | l=>l++b2S os
noncomputable def a6e (nv:Nat) (kill:List Nat) (ops:List AOper) (cond:Opd):Clo :=
 a8j nv kill fun i=>.mk fun c _ fr st=>i fr fun fr=>(a4A nv (tsL [cond]++b2S ops) cond ops 0 []).run c [] fr st
theorem a2Q {G:Clo→Prop} {nv:Nat} (hn:nv≤64) (hs:G a0I):∀ {kill:List Nat} {Q:(Fr→(Fr→RO)→RO)→Clo},(∀ r:Fr→(Fr→RO)→RO,(∀ fr,∃ j,(∀ k,r fr k=k j)∧i6 kill (toL nv fr)=toL nv j)→G (Q r))→G (a8j nv kill Q)
 | [],Q,h=>h _ fun fr=>⟨fr,fun _=>rfl,rfl⟩
 | i::is,Q,h=>by
  show G (Bool.rec (motive:=fun _=>Clo) (a8j nv is Q) (a6F i a0I fun p=>a8j nv is fun r=>Q fun fr k=>p .undef fr fun fr=>r fr k) (Nat.blt i nv));cases u:Nat.blt i nv with
  | false =>
   have hi:¬ i < nv:=fun q=>by rw[show Nat.blt i nv=true by simpa using q]at u; cases u
   exact a2Q hn hs (kill:=is) fun r x=>h r fun fr=>by obtain⟨j,l,t⟩:=x fr;exact⟨j,l,by rw[i6,a5f hi]; exact t⟩
  | true =>have hi:=S9 u;exact a1D (by omega) hs fun p y=>a2Q hn hs (kill:=is) fun r x=>h _ fun fr=>by obtain⟨j,l,t⟩:=x (a1Q i .undef fr);exact⟨j,fun k=>by show p .undef fr _=_; rw[y,l],by rw[i6,a2w hi hn]; exact t⟩
def b1J (nv:Nat) (kill:List Nat) (ops:List AOper) (cond:Opd) (x:Clo):Prop:=∀ c env fr st v i st',x.run c env fr st=some (v,i,st') →
 ∃ σ',g9 c ops ⟨i6 kill (toL nv fr),fun _=>.undef,st⟩=some σ'∧σ'.fr=toL nv i∧σ'.st=st'∧cond.read σ'=v
theorem a8Z {nv:Nat} (hn:nv≤64) {kill:List Nat} {ops:List AOper} {cond:Opd}:b1J nv kill ops cond (a6e nv kill ops cond):=by
 refine a2Q (G:=b1J nv kill ops cond) hn (fun c env fr st v i st' h=>by cases (show(none:RO)=some _ from h)) fun r u c env fr st v i st' h=>?_
 obtain⟨j,l,t⟩:=u fr;have h:r fr _=_:=h;rw[l]at h;exact a3h hn ops 0 [] c [] j st ⟨i6 kill (toL nv fr),fun _=>.undef,st⟩ v i st' ⟨t,rfl,fun _=>rfl,fun s x y=>by cases (show(none:Option Src)=some x from y)⟩ rfl h
abbrev CO:=Option (Ex×Fr×St)
inductive CloC where
 | mk (f:d8→Nat→Fr→St→CO)
noncomputable def CloC.run (x:CloC):d8→Nat→Fr→St→CO:=CloC.rec (motive:=fun _=>d8→Nat→Fr→St→CO) (fun f=>f) x
section
variable {ρ:Type}
noncomputable def b0D (x:RO) (k:AV→Fr→St→Option ρ):Option ρ:=Option.rec (motive:=fun _=>Option ρ) none (fun p=>Prod.rec (motive:=fun _=>Option ρ) (fun v q=>Prod.rec (motive:=fun _=>Option ρ) (fun fr st=>k v fr st) q) p) x
noncomputable def a1z (x:CO) (k:Ex→Fr→St→Option ρ):Option ρ:=Option.rec (motive:=fun _=>Option ρ) none (fun p=>Prod.rec (motive:=fun _=>Option ρ) (fun v q=>Prod.rec (motive:=fun _=>Option ρ) (fun fr st=>k v fr st) q) p) x
noncomputable def a1T (e:Ex) (n:Option ρ) (x:Nat→Option ρ) (r:Option ρ):Option ρ:=Ex.rec (motive:=fun _=>Option ρ) n x r e
theorem a7B {x:RO} {k:AV→Fr→St→Option ρ} {r:ρ} (h:b0D x k=some r):∃ v fr st,x=some (v,fr,st)∧k v fr st=some r:=by
 cases x with
 | none=>cases h
 | some p=>obtain⟨v,fr,st⟩:=p; exact⟨v,fr,st,rfl,h⟩
theorem X2 {x:CO} {k:Ex→Fr→St→Option ρ} {r:ρ} (h:a1z x k=some r):∃ v fr st,x=some (v,fr,st)∧k v fr st=some r:=by
 cases x with
 | none=>cases h
 | some p=>obtain⟨v,fr,st⟩:=p; exact⟨v,fr,st,rfl,h⟩
end
noncomputable def b3S (b:d8→Nat→Fr→St→CO) (c:d8) (n m:Nat):Fr→St→CO:=Nat.rec (motive:=fun _=>Fr→St→CO) (fun _ _=>none) (fun _ j fr st=>a1z (b c n fr st) fun e fr st=>a1T e (j fr st) (fun i=>some (.exit i,fr,st)) (some (.ret,fr,st))) m
def a6h (nv:Nat):List Nat→Fr→Fr
 | [],fr=>fr
 | i::is,fr=>a6h nv is (if i < nv then a1Q i .undef fr else fr)
theorem a4f {nv:Nat} (hn:nv≤64):∀ {is:List Nat} {fr:Fr},i6 is (toL nv fr)=toL nv (a6h nv is fr)
 | [],fr=>rfl
 | i::is,fr=>by
  rw[i6,a6h];split
  · rename_i h; rw[a2w h hn]; exact a4f hn
  · rename_i h; rw[a5f h]; exact a4f hn
noncomputable def b5v (nv:Nat) (kill:List Nat) (x y:CO):CO:=a1z x fun e fr st=>a1z y fun e' i st' =>if a8d (C1 kill (e,toL nv fr,st)) (C1 kill (e',toL nv i,st'))then some (e,a6h nv kill fr,st)else none
noncomputable def Y9 (nv:Nat) (x:ACode):CloC:=ACode.rec (motive:=fun _=>CloC)
 (.mk fun _ _ fr st=>some (.normal,fr,st))
 (fun kill ops=>.mk fun c _ fr st=>b0D ((a6e nv kill ops (.c .undef)).run c [] fr st) fun _ fr st=>some (.normal,fr,st))
 (fun kill ops x _ _ a b=>.mk fun c n fr st=>b0D ((a6e nv kill ops x).run c [] fr st) fun v fr st=>onB v none fun y=>Bool.rec (motive:=fun _=>CO) (b.run c n fr st) (a.run c n fr st) y)
 (fun _ _ a b=>.mk fun c n fr st=>a1z (a.run c n fr st) fun e fr st=>a1T e (b.run c n fr st) (fun i=>some (.exit i,fr,st)) (some (.ret,fr,st)))
 (fun id _ a=>.mk fun c n fr st=>a1z (a.run c n fr st) fun e fr st=>a1T e (some (.normal,fr,st)) (fun i=>Bool.rec (motive:=fun _=>CO) (some (.exit i,fr,st)) (some (.normal,fr,st)) (Nat.beq i id)) (some (.ret,fr,st)))
 (fun _ a=>.mk fun c n fr st=>b3S (fun c n fr st=>a.run c n fr st) c n n fr st)
 (fun kill _ _ a b=>.mk fun c n fr st=>b5v nv kill (a.run c n fr st) (b.run c n fr st))
 (fun id=>.mk fun _ _ fr st=>some (.exit id,fr,st))
 (.mk fun _ _ fr st=>some (.ret,fr,st)) x
def c3h (nv:Nat) (x:ACode) (y:CloC):Prop:=∀ c n fr st e i st',y.run c n fr st=some (e,i,st')→exec c n x (toL nv fr) st=some (e,toL nv i,st')
theorem a9q {nv:Nat} {a:ACode} {b:d8→Nat→Fr→St→CO} {c:d8} {n:Nat} (h:∀ fr st e j st',b c n fr st=some (e,j,st')→exec c n a (toL nv fr) st=some (e,toL nv j,st')):∀ (m:Nat) (fr:Fr) (st:St) (e:Ex) (j:Fr) (st':St),b3S b c n m fr st=some (e,j,st')→E5 (exec c n a) m (toL nv fr) st=some (e,toL nv j,st')
 | 0,fr,st,e,j,st',hs=>by cases (show(none:CO)=some _ from hs)
 | m+1,fr,st,e,j,st',hs=>by
  obtain⟨e1,l,t,x,u⟩:=X2 (show a1z (b c n fr st) (fun e fr st=>a1T e (b3S b c n m fr st) (fun i=>some (.exit i,fr,st)) (some (.ret,fr,st)))=some (e,j,st')from hs);rw[E5,h _ _ _ _ _ x];cases e1 with
  | normal=>exact a9q h m l t e j st' u
  | exit i=>cases (show some (Ex.exit i,l,t)=some (e,j,st')from u); rfl
  | ret=>cases (show some (Ex.ret,l,t)=some (e,j,st')from u); rfl
theorem O2 {nv:Nat} (hn:nv≤64):∀ x:ACode,c3h nv x (Y9 nv x)
 | .skip,c,n,fr,st,e,j,st',h=>by cases (show some (Ex.normal,fr,st)=some (e,j,st')from h); rfl
 | .ret,c,n,fr,st,e,j,st',h=>by cases (show some (Ex.ret,fr,st)=some (e,j,st')from h); rfl
 | .exit id,c,n,fr,st,e,j,st',h=>by cases (show some (Ex.exit id,fr,st)=some (e,j,st')from h); rfl
 | .reg kill ops,c,n,fr,st,e,j,st',h=>by obtain⟨v,l,u,z,t⟩:=a7B (show b0D ((a6e nv kill ops (.c .undef)).run c [] fr st) (fun _ fr st=>some (Ex.normal,fr,st))=some (e,j,st')from h);cases t;obtain⟨σ,g1,g2,g3,g4⟩:=a8Z hn _ _ _ _ _ _ _ z;rw[exec,g1];simp only[fL_eq,g2,g3]
 | .test kill ops x a b,c,n,fr,st,e,j,st',h=>by
  obtain⟨v,l,u,z,t⟩:=a7B (show b0D ((a6e nv kill ops x).run c [] fr st) (fun v fr st=>onB v none fun y=>Bool.rec (motive:=fun _=>CO) ((Y9 nv b).run c n fr st) ((Y9 nv a).run c n fr st) y)=some (e,j,st')from h);obtain⟨σ,g1,g2,g3,g4⟩:=a8Z hn _ _ _ _ _ _ _ z;rw[b0v]at t;rw[exec,g1];dsimp only;rw[g4];cases v<;>try (cases t; done)
  rename_i y;cases y
  · simp only[fL_eq,g2,g3]; exact O2 hn b _ _ _ _ _ _ _ t
  · simp only[fL_eq,g2,g3]; exact O2 hn a _ _ _ _ _ _ _ t
 | .seq a b,c,n,fr,st,e,j,st',h=>by
  obtain⟨e1,l,u,z,t⟩:=X2 (show a1z ((Y9 nv a).run c n fr st) (fun e fr st=>a1T e ((Y9 nv b).run c n fr st) (fun i=>some (.exit i,fr,st)) (some (.ret,fr,st)))=some (e,j,st')from h);rw[exec,O2 hn a _ _ _ _ _ _ _ z];cases e1 with
  | normal=>exact O2 hn b _ _ _ _ _ _ _ t
  | exit i=>cases (show some (Ex.exit i,l,u)=some (e,j,st')from t); rfl
  | ret=>cases (show some (Ex.ret,l,u)=some (e,j,st')from t); rfl
 | .blk id a,c,n,fr,st,e,j,st',h=>by
  obtain⟨e1,l,u,z,t⟩:=X2 (show a1z ((Y9 nv a).run c n fr st) (fun e fr st=>a1T e (some (.normal,fr,st)) (fun i=>Bool.rec (motive:=fun _=>CO) (some (.exit i,fr,st)) (some (.normal,fr,st)) (Nat.beq i id)) (some (.ret,fr,st)))=some (e,j,st')from h);rw[exec,O2 hn a _ _ _ _ _ _ _ z];cases e1 with
  | normal=>cases (show some (Ex.normal,l,u)=some (e,j,st')from t); rfl
  | exit i =>
   have t:Bool.rec (motive:=fun _=>CO) (some (.exit i,l,u)) (some (.normal,l,u)) (Nat.beq i id)=some (e,j,st'):=t;dsimp only;cases B:Nat.beq i id with
   | true=>rw[B]at t; cases t; rw[if_pos (Nat.eq_of_beq_eq_true B)]
   | false=>rw[B]at t; cases t; rw[if_neg (Nat.ne_of_beq_eq_false B)]
  | ret=>cases (show some (Ex.ret,l,u)=some (e,j,st')from t); rfl
 | .loop a,c,n,fr,st,e,j,st',h=>by rw[exec];exact a9q (b:=fun c n fr st=>(Y9 nv a).run c n fr st) (fun fr st e j st' h=>O2 hn a _ _ _ _ _ _ _ h) n fr st e j st' h
 | .either kill a b,c,n,fr,st,e,j,st',h=>by
  have h:b5v nv kill ((Y9 nv a).run c n fr st) ((Y9 nv b).run c n fr st)=some (e,j,st'):=h;obtain⟨e1,l,u,z,t⟩:=X2 h;obtain⟨e2,D,st2,E,C⟩:=X2 t;rw[exec,O2 hn a _ _ _ _ _ _ _ z,O2 hn b _ _ _ _ _ _ _ E];unfold a4D;split at C
  · rename_i F;cases C;dsimp only;rw[if_pos F];show some (_,i6 kill (toL nv l),_)=_;rw[a4f hn]
  · cases C
inductive FnC where
 | mk (f:d8→Nat→List AV→St→Option (AV×St))
noncomputable def FnC.run (x:FnC):d8→Nat→List AV→St→Option (AV×St):=FnC.rec (motive:=fun _=>d8→Nat→List AV→St→Option (AV×St)) (fun f=>f) x
noncomputable def M8:FnC:=.mk fun _ _ _ _=>none
noncomputable def b88 (nv:Nat) (r:ResK) (Q:(Fr→St→(AV→Option (AV×St))→Option (AV×St))→FnC):FnC :=
 match r with
 | .v i=>match Nat.blt i nv with
  | true=>a2h i M8 fun g=>Q fun fr _ k=>g fr fun x=>qWk x k
  | false=>M8
 | .vs i=>match Nat.blt i nv with
  | true=>a2h i M8 fun g=>Q fun fr _ k=>g fr k
  | false=>M8
 | .bx i agg n=>match Nat.blt i nv with
  | true=>a2h i M8 fun g=>Q fun fr st k=>g fr fun x=>b2y x none fun cs=>a4B k agg n cs
  | false=>M8
 | .po i agg n=>match Nat.blt i nv with
  | true=>a2h i M8 fun g=>Q fun fr st k=>g fr fun x=>a3s st k agg n x
  | false=>M8
theorem b60 {G:FnC→Prop} {nv:Nat} (hn:nv≤64) (hs:G M8) {r:ResK} {Q:(Fr→St→(AV→Option (AV×St))→Option (AV×St))→FnC} (h:∀ g:Fr→St→(AV→Option (AV×St))→Option (AV×St),(∀ fr st k out,g fr st k=some out→∃ v,r.get (toL nv fr) st=some v∧k v=some out)→G (Q g)):G (b88 nv r Q):=by
 unfold b88;cases r with
 | v i =>
  dsimp only;cases l:Nat.blt i nv with
  | false=>exact hs
  | true =>
   have hi:=S9 l;refine K1 (by omega) hs fun g t=>h _ fun fr st k out j=>?_
   rw[t,a1C]at j;exact⟨_,by rw[ResK.get,N1 hi],j⟩
 | vs i =>
  dsimp only;cases l:Nat.blt i nv with
  | false=>exact hs
  | true =>
   have hi:=S9 l;refine K1 (by omega) hs fun g t=>h _ fun fr st k out j=>?_
   rw[t]at j;exact⟨_,by rw[ResK.get,N1 hi],j⟩
 | bx i agg n =>
  dsimp only;cases l:Nat.blt i nv with
  | false=>exact hs
  | true =>
   have hi:=S9 l;refine K1 (by omega) hs fun g t=>h _ fun fr st k out j=>?_
   rw[t,a7p]at j;rw[ResK.get,N1 hi];cases x:V5 i fr<;>rw[x]at j<;>try (cases j; done)
   rename_i cs;dsimp only at j ⊢;rw[a1x]at j;cases u:i8 agg n cs with
   | none=>rw[u]at j; cases j
   | some v=>rw[u]at j; exact⟨v,rfl,j⟩
 | po i agg n =>
  dsimp only;cases l:Nat.blt i nv with
  | false=>exact hs
  | true =>
   have hi:=S9 l;refine K1 (by omega) hs fun g t=>h _ fun fr st k out j=>?_
   rw[t]at j;rw[ResK.get,N1 hi];simp only[a3s,a8H,a7h,a3U,a1x,a0p]at j;cases x:V5 i fr<;>rw[x]at j<;>try (cases j; done)
   rename_i o off;dsimp only at j ⊢;cases y:st[o]? with
   | none=>rw[y]at j; cases j
   | some z =>
    rw[y]at j;cases z with
    | cells cs =>
     dsimp only at j ⊢;cases u:i8 agg n (cs.drop off)with
     | none=>rw[u]at j; cases j
     | some v=>rw[u]at j; exact⟨v,rfl,j⟩
    | map _=>cases j
    | dead=>cases j
noncomputable def b4A (nv:Nat):List ResK→((Fr→St→(List AV→Option (AV×St))→Option (AV×St))→FnC)→FnC
 | [],Q=>Q fun _ _ k=>k []
 | r::rs,Q=>b88 nv r fun g=>b4A nv rs fun gs=>Q fun fr st k=>g fr st fun v=>gs fr st fun vs=>k (v::vs)
theorem a7G {G:FnC→Prop} {nv:Nat} (hn:nv≤64) (hs:G M8):∀ {rs:List ResK} {Q:(Fr→St→(List AV→Option (AV×St))→Option (AV×St))→FnC},(∀ g:Fr→St→(List AV→Option (AV×St))→Option (AV×St),(∀ fr st k out,g fr st k=some out→∃ vs,B3 rs (toL nv fr) st=some vs∧k vs=some out)→G (Q g))→G (b4A nv rs Q)
 | [],Q,h=>h _ fun fr st k out j=>⟨[],rfl,j⟩
 | r::rs,Q,h=>by unfold b4A;exact b60 hn hs fun g y=>a7G hn hs fun gs i=>h _ fun fr st k out j=>by obtain⟨v,l,t⟩:=y fr st _ _ j;obtain⟨vs,u,x⟩:=i fr st _ _ t;exact⟨v::vs,by rw[B3,l,u],x⟩
noncomputable def a7a (vs:List AV) (st:St):Option (AV×St):=List.rec (motive:=fun _=>Option (AV×St)) (some (.tuple [],st)) (fun v i _=>List.rec (motive:=fun _=>Option (AV×St)) (some (v,st)) (fun _ _ _=>some (.tuple vs,st)) i) vs
noncomputable def b3G (fn:AFn):FnC:=match Nat.ble fn.nv 64 && Nat.ble fn.np fn.nv with
 | true=>b4A fn.nv fn.results fun g=>.mk fun c n as st=>Bool.rec (motive:=fun _=>Option (AV×St)) none (b7u as fun w=>a1z ((Y9 fn.nv fn.code).run c n (fr0 w) st) fun e fr st=>a1T e (g fr st fun vs=>a7a vs st) (fun _=>none) (g fr st fun vs=>a7a vs st)) (Nat.beq (J1 as) fn.np)
 | false=>M8
noncomputable def fnC (x:Option AFn):FnC:=match x with
 | none=>M8
 | some fn=>match fn.ext with
  | some e=>.mk fun _ _ as st=>e as st
  | none=>b3G fn
theorem c36 {vs:List AV} {st:St}:a7a vs st=(match (some vs:Option (List AV))with|some [v]=>some (v,st)|some vs=>some (.tuple vs,st)|none=>none):=by
 match vs with
 | []=>rfl
 | [_]=>rfl
 | _::_::_=>rfl
def b6x (fn:AFn) (x:FnC):Prop:=∀ c n as st out,x.run c n as st=some out→fn.run c n as st=some out
theorem b8g (fn:AFn):b6x fn (b3G fn):=by
 have hs:b6x fn M8:=fun c n as st out h=>by cases (show(none:Option (AV×St))=some _ from h)
 unfold b3G;cases l:Nat.ble fn.nv 64 && Nat.ble fn.np fn.nv with
 | false=>exact hs
 | true =>
  simp only[AA,Nat.ble_eq]at l;refine a7G l.1 hs fun g E c n as st out h=>?_
  have h:Bool.rec (motive:=fun _=>Option (AV×St)) none (b7u as fun w=>a1z ((Y9 fn.nv fn.code).run c n (fr0 w) st) fun e fr st=>a1T e (g fr st fun vs=>a7a vs st) (fun _=>none) (g fr st fun vs=>a7a vs st)) (Nat.beq (J1 as) fn.np)=some out:=h;cases hl:Nat.beq (J1 as) fn.np with
  | false=>rw[hl]at h; cases h
  | true =>
   rw[hl]at h;have hl:=Nat.eq_of_beq_eq_true hl;rw[G4]at hl;obtain⟨w,x,y,z⟩:=c1X h;obtain⟨e,j,st',B,t⟩:=X2 x;have u:=O2 l.1 fn.code _ _ _ _ _ _ _ B;rw[c93 z hl y l.2 l.1]at u;unfold AFn.run;rw[if_pos hl,u];have fin:(g j st' fun vs=>a7a vs st')=some out→(match B3 fn.results (toL fn.nv j) st' with|some [v]=>some (v,st')|some vs=>some (.tuple vs,st')|none=>none)=some out:=fun h=>by obtain⟨vs,C,D⟩:=E j st' _ _ h;rw[C,← D,c36]
   cases e with
   | normal=>exact fin t
   | exit i=>cases (show(none:Option (AV×St))=some _ from t)
   | ret=>exact fin t
noncomputable def callG (tbl:Nat→Option AFn) (n:Nat):d8:=Nat.rec (motive:=fun _=>d8) (fun _ _ _=>none) (fun n i f as st=>(fnC (tbl f)).run i n as st) n
theorem W9 {tbl:Nat→Option AFn}:∀ n,P1 (callG tbl n) (j0 tbl n)
 | 0,f,as,st,r,h=>by cases (show(none:Option (AV×St))=some _ from h)
 | n+1,f,as,st,r,h=>by
  have h:(fnC (tbl f)).run (callG tbl n) n as st=some r:=h;unfold j0;cases j:tbl f with
  | none=>rw[j]at h; cases (show(none:Option (AV×St))=some _ from h)
  | some fn =>
   rw[j]at h;unfold fnC at h;dsimp only at h ⊢;cases i:fn.ext with
   | some e=>rw[i]at h; exact h
   | none =>rw[i]at h;exact a8z (W9 n) (AJ _) (b8g fn _ _ _ _ _ h)
theorem ev_ofG {tbl:Nat→Option AFn} {k f:Nat} {as:List AV} {st:St} {r:AV} {st':St} (h:callG tbl k f as st=some (r,st')):Ev tbl f as st r st':=⟨k,W9 k _ _ _ _ h⟩
end Go.Cb.G
namespace Go.Cb.G
open Go Go.Cb
def N:d8:=fun _ _ _=>none
theorem a6b (c:d8):∀ (a b:List AOper) (σ:Sig),g9 c (a++b) σ=match g9 c a σ with|some σ=>g9 c b σ|none=>none
 | [],b,σ=>rfl
 | o::a,b,σ=>by
  show g9 c (o::(a++b)) σ=_;rw[g9,g9];cases i7 c o σ with
  | none=>rfl
  | some σ=>exact a6b c a b σ
def sp (kill:List Nat) (ops:List AOper) (i:Nat) (fr:List AV) (st:St):Option (Sig×AOper×List AOper):=match g9 N (ops.take i) ⟨i6 kill fr,fun _=>.undef,st⟩,ops.drop i with
 | some σ,o::os=>some (σ,o,os)
 | _,_=>none
def after (kill:List Nat) (ops:List AOper) (i:Nat) (x:Opd) (fr:List AV) (st:St) (r:AV) (j:St):Option (AV×List AV×St):=match sp kill ops i fr st with
 | some (σ,o,os)=>match g9 N os (o.dst.put r { d9 o.args σ with st:=j })with
  | some σ=>some (x.read σ,σ.fr,σ.st)
  | none=>none
 | none=>none
section
variable {tbl:Nat→Option AFn}
theorem a8X {code:ACode} {k:Nat} {fr:List AV} {st:St} {out:Out} (h:exec (callG tbl k) k code fr st=some out):XC tbl code fr st out:=⟨k,r8 (W9 k) (AJ _) h⟩
def fin (rs:List ResK) (o:Option Out):Option (AV×St):=match o with
 | some (.exit _,_,_)=>none
 | some (_,fr,st)=>match B3 rs fr st with
  | some [v]=>some (v,st)
  | some vs=>some (.tuple vs,st)
  | none=>none
 | none=>none
def d67 (x:Option (AV×St)):Option AV:=match x with
 | some (v,_)=>some v
 | none=>none
def FX (tbl:Nat→Option AFn) (rs:List ResK) (code:ACode) (fr:List AV) (st:St) (v:AV):Prop:=∃ out st',XC tbl code fr st out∧fin rs (some out)=some (v,st')
theorem FX.seq {rs:List ResK} {a b:ACode} {fr i:List AV} {st j:St} {v:AV} (h:XC tbl a fr st (.normal,i,j)) (t:FX tbl rs b i j v):FX tbl rs (.seq a b) fr st v:=by obtain⟨⟨e,l,st'⟩,s,u,x⟩:=t;exact⟨_,s,XC.seq h u,x⟩
theorem FX.G {rs:List ResK} {code:ACode} {k:Nat} {fr:List AV} {st:St} {v:AV} (h:d67 (fin rs (exec (callG tbl k) k code fr st))=some v):FX tbl rs code fr st v:=by
 cases j:exec (callG tbl k) k code fr st with
 | none=>rw[j]at h; cases h
 | some o =>
  rw[j]at h;cases i:fin rs (some o)with
  | none=>rw[i]at h; cases h
  | some p =>obtain⟨w,s⟩:=p;rw[i]at h;cases (show some w=some v from h);exact⟨o,s,a8X j,i⟩
theorem FX.run {rs:List ResK} {code:ACode} {fr:List AV} {st:St} {v:AV} {f:Nat} {fn:AFn} {as:List AV} (t:tbl f=some fn) (z:fn.ext=none) (hl:as.length=fn.np) (B:fn.results=rs) (y:fn.code=code)
 (l:as++List.replicate (fn.nv - fn.np) .undef=fr) (h:FX tbl rs code fr st v):∃ n st',j0 tbl n f as st=some (v,st'):=by
 obtain⟨⟨e,u,C⟩,s,⟨n,x⟩,j⟩:=h;refine⟨n+1,s,?_⟩;unfold j0;rw[t];dsimp only;rw[z];dsimp only;unfold AFn.run;rw[if_pos hl,y,l,x,B];cases e with
 | exit i=>cases j
 | normal=>exact j
 | ret=>exact j
end
end Go.Cb.G
namespace Go.Cb
open Classical
def shN (L d a:Nat):Nat:=if a < L then a else a+d
mutual
def AV.sh (L d:Nat):AV→AV
 | .undef=>.undef
 | .bool b=>.bool b
 | .int k n=>.int k n
 | .str s=>.str s
 | .list o xs=>.list o (Y8 L d xs)
 | .ptr o f=>.ptr (shN L d o) f
 | .nilp=>.nilp
 | .ro cs=>.ro (I2 L d cs)
 | .loc i f=>.loc i f
 | .box cs=>.box (I2 L d cs)
 | .map o=>.map (shN L d o)
 | .nilm=>.nilm
 | .func f a c=>.func f (I2 L d a) (I2 L d c)
 | .nilf=>.nilf
 | .agg cs=>.agg (I2 L d cs)
 | .tuple vs=>.tuple (I2 L d vs)
 | .iface t v=>.iface t (v.sh L d)
 | .nili=>.nili
 | .sl o f n s=>.sl (shN L d o) f n s
 | .fresh xs=>.fresh (Y8 L d xs)
 | .nils=>.nils
def I2 (L d:Nat):List AV→List AV
 | []=>[]
 | a::as=>a.sh L d::I2 L d as
def Y8 (L d:Nat):List (List AV)→List (List AV)
 | []=>[]
 | r::rs=>I2 L d r::Y8 L d rs
end
def Obj.sh (L d:Nat):Obj→Obj
 | .cells cs=>.cells (cs.map (AV.sh L d))
 | .map es=>.map (es.map fun e=>(e.1.sh L d,e.2.sh L d))
 | .dead=>.dead
def shS (L:Nat) (ext st:St):St:=(st.take L).map (Obj.sh L ext.length)++ext++(st.drop L).map (Obj.sh L ext.length)
section
variable {L d:Nat}
theorem m0:∀ as:List AV,I2 L d as=as.map (AV.sh L d)
 | []=>rfl
 | a::as=>by rw[I2,m0 as]; rfl
theorem s8:∀ rs:List (List AV),Y8 L d rs=rs.map (·.map (AV.sh L d))
 | []=>rfl
 | r::rs=>by rw[Y8,s8 rs,m0]; rfl
theorem b49 {a b:Nat}:Nat.beq a b=false↔a≠b:=by rw[← Bool.not_eq_true,Nat.beq_eq]
theorem shN_inj {a b:Nat}:shN L d a=shN L d b↔a=b:=by unfold shN;split<;>split<;>omega
theorem a2V (a:AV):(a.weak1).sh L d=(a.sh L d).weak1:=by cases a<;>simp only[AV.weak1,AV.sh]
theorem X4 (cs:List AV):(cs.map AV.weak1).map (AV.sh L d)=(cs.map (AV.sh L d)).map AV.weak1:=by rw[List.map_map,List.map_map];exact List.map_congr_left fun a _=>a2V a
theorem T7 (a:AV):(a.weak).sh L d=(a.sh L d).weak:=by cases a<;>simp only[AV.weak,AV.sh,m0,X4]
theorem a5B (cs:List AV):(cs.map AV.weak).map (AV.sh L d)=(cs.map (AV.sh L d)).map AV.weak:=by rw[List.map_map,List.map_map];exact List.map_congr_left fun a _=>T7 a
theorem a1l (a:AV):(a.sh L d).cells=a.cells.map (AV.sh L d):=by cases a<;>simp only[AV.cells,AV.sh,m0,AG,AL]
theorem a7P (a:AV):(a.sh L d).cellsW=a.cellsW.map (AV.sh L d):=by cases a<;>simp only[AV.cellsW,AV.sh,m0,s8,AG,AL,List.isEmpty_map]
theorem b43 (a:AV):(a.sh L d).cellW1=a.cellW1.sh L d:=by cases a<;>simp only[AV.cellW1,AV.sh,m0,s8,List.isEmpty_map]
theorem b3l (cs:List AV):(cs.map (AV.sh L d)).map AV.cellW1=(cs.map AV.cellW1).map (AV.sh L d):=by rw[List.map_map,List.map_map];exact List.map_congr_left fun a _=>b43 a
theorem L5 (a:AV):(a.sh L d).plain=a.plain:=by cases a<;>rfl
theorem a0s:∀ as:List AV,m4 (as.map (AV.sh L d))=m4 as
 | []=>rfl
 | a::as=>by rw[AG,m4,m4,L5,a0s as]
theorem b8F (a:AV):(a.strip).sh L d=(a.sh L d).strip:=by cases a<;>rfl
theorem b5m (a:AV):(a.stripB).sh L d=(a.sh L d).stripB:=by cases a<;>rfl
theorem H2 (i:Bool) (n:Nat) (cs:List AV):i8 i n (cs.map (AV.sh L d))=(i8 i n cs).map (AV.sh L d):=by
 unfold i8;rw[AF];split
 · split
   · rw[AN,← List.map_take,AV.sh,m0,X4]
   · rfl
 · cases cs with
   | nil=>rfl
   | cons c cs=>rw[AG]; dsimp only; rw[AN,a2V]
theorem X1 (n:Nat) (cs:List AV):(cs.map (AV.sh L d)).drop n=(cs.drop n).map (AV.sh L d):=(List.map_drop).symm
theorem a3O (cs new:List AV) (off:Nat):n6 (cs.map (AV.sh L d)) off (new.map (AV.sh L d))=(n6 cs off new).map (AV.sh L d):=by unfold n6;rw[AT,AT,AF,List.map_take,List.map_drop]
theorem N6 (i:Nat) (xs:List (List AV)):m2 i (xs.map (·.map (AV.sh L d)))=m2 i xs:=by
 cases xs with
 | nil=>rfl
 | cons r rs=>simp only[AG,m2,AF]
theorem a5k:∀ (i:List (Nat×Nat)) (j cs out:List AV),u9 i j cs=some out→u9 i (j.map (AV.sh L d)) (cs.map (AV.sh L d))=some (out.map (AV.sh L d))
 | [],[],cs,out,h=>by simp only[u9]at h ⊢; cases h; rfl
 | (off,n)::i,p::j,cs,out,h=>by
  rw[u9]at h;split at h
  · rename_i l;rw[AG,u9,L5,a1l,AF,AF,if_pos l,a3O];exact a5k i j _ out h
  · cases h
 | [],_::_,_,_,h=>by simp[u9]at h
 | _::_,[],_,_,h=>by simp[u9]at h
theorem a5d (l:Nat):∀ (is:List Nat) (j:List AV) (rs out:List (List AV)),r9 l is j rs=some out→r9 l is (j.map (AV.sh L d)) (rs.map (·.map (AV.sh L d)))=some (out.map (·.map (AV.sh L d)))
 | [],[],rs,out,h=>by simp only[r9]at h ⊢; cases h; rfl
 | i::is,p::j,rs,out,h=>by
  rw[r9]at h;split at h
  · rename_i t;rw[AG,r9,L5,a1l,AF,AF,if_pos t,← X4,← List.map_set];exact a5d l is j _ out h
  · cases h
 | [],_::_,_,_,h=>by simp[r9]at h
 | _::_,[],_,_,h=>by simp[r9]at h
theorem a1v (l:Nat):∀ (is:List Nat) (j:List AV) (rs out:List (List AV)),m7 l is j rs=some out→m7 l is (j.map (AV.sh L d)) (rs.map (·.map (AV.sh L d)))=some (out.map (·.map (AV.sh L d)))
 | [],[],rs,out,h=>by simp only[m7]at h ⊢; cases h; rfl
 | i::is,p::j,rs,out,h=>by
  rw[m7]at h;split at h
  · rename_i t;rw[AG,m7,L5,a1l,AF,AF,if_pos t,b3l,← List.map_set];exact a1v l is j _ out h
  · cases h
 | [],_::_,_,_,h=>by simp[m7]at h
 | _::_,[],_,_,h=>by simp[m7]at h
theorem b9M (x:AV) (n:Nat):L8 (x.sh L d) n=L8 x n:=by cases x<;>rfl
theorem a1L (i hi:Bool) (as:List AV) (n:Nat):D4 i hi (as.map (AV.sh L d)) n=D4 i hi as n:=by cases i<;>cases hi<;>rcases as with _|⟨a,_|⟨b,_|⟨c,as⟩⟩⟩<;>simp only[AG,AL,D4,b9M]
theorem a9h (i:Nat) (a b:AV):K4 i (a.sh L d) (b.sh L d)=K4 i a b:=by cases a<;>cases b<;>rfl
theorem a5y (j:Nat) (k:AV):∀ (es:List (AV×AV)) (i:Nat),D7 j (k.sh L d) (es.map fun e=>(e.1.sh L d,e.2.sh L d)) i=(D7 j k es i).map (Option.map fun r=>(r.1,r.2.sh L d))
 | [],_=>rfl
 | (k',v)::es,i=>by
  rw[AG,D7,D7,a9h];cases K4 j k k' with
  | none=>rfl
  | some b=>cases b with
   | true=>rfl
   | false=>exact a5y j k es (i+1)
theorem a6y:∀ xs:List (List AV),D9 (xs.map (·.map (AV.sh L d)))=D9 xs
 | []=>rfl
 | []::_=>rfl
 | [a]::rs=>by have i:=a6y rs;cases a<;>simp only[AG,AL,AV.sh,D9];rename_i k n;cases k<;>simp only[D9];rw[i]
 | (a::b::c)::r=>by
  have h:∀ (x y:AV) (u:List AV) (w:List (List AV)),D9 ((x::y::u)::w)=none:=fun x y u w=>by cases x<;>simp only[D9]
  rw[AG,AG,AG,h,h]
theorem a7z (i:Nat):∀ (n:Nat) (cs:List AV),P6 i n (cs.map (AV.sh L d))=(P6 i n cs).map (·.map (AV.sh L d))
 | 0,_=>rfl
 | n+1,cs=>by rw[P6,P6,AG,X1,a7z i n,List.map_take]
theorem a0X (xs:List (List AV)):(xs.map (·.map (AV.sh L d))).flatten=xs.flatten.map (AV.sh L d):=by rw[List.map_flatten]
theorem c32 (op:BinOp) (a b r:AV) (h:l7 op a b=some r):l7 op (a.sh L d) (b.sh L d)=some (r.sh L d):=by
 have i:r.sh L d=r:=by
  unfold l7 at h;split at h
  · cases op<;>dsimp only at h<;>(repeat' split at h)<;>first|(cases h; rfl)|cases h
  · cases op<;>dsimp only at h<;>(repeat' split at h)<;>first|(cases h; rfl)|cases h
  · cases h
 rw[i,← h];unfold l7 at h;split at h
 · rfl
 · rfl
 · cases h
theorem a1U (a:AV):J9 (a.sh L d)=(J9 a).map (shN L d):=by cases a<;>rfl
end
section
variable {L:Nat} {ext:St}
theorem a4R {st:St} (h:L≤st.length):(shS L ext st).length=st.length+ext.length:=by unfold shS;simp only[AE,AF,AO,List.length_drop];omega
theorem J7 {st:St} (h:L≤st.length):shN L ext.length st.length=(shS L ext st).length:=by rw[a4R h,shN,if_neg (by omega)]
theorem Q3 {st:St} (h:L≤st.length) (o:Nat):(shS L ext st)[shN L ext.length o]?=(st[o]?).map (Obj.sh L ext.length):=by
 unfold shS shN;split
 · rename_i i;rw[AU,List.getElem?_append_left (by simp; omega),AQ,List.getElem?_take,if_pos i]
 · rename_i i;have e1:((st.take L).map (Obj.sh L ext.length)++ext).length=L+ext.length:=by simp; omega
   rw[List.getElem?_append_right (by rw[e1]; omega),e1,AQ,List.getElem?_drop];congr 2;omega
theorem M6 {st:St} (h:L≤st.length) (x:Obj):shS L ext (st++[x])=shS L ext st++[x.sh L ext.length]:=by unfold shS;rw[List.take_append_of_le_length h,List.drop_append_of_le_length h,AT,← AU];rfl
theorem a0i {st:St} (h:L≤st.length) (o:Nat) (x:Obj):shS L ext (st.set o x)=(shS L ext st).set (shN L ext.length o) (x.sh L ext.length):=by
 apply List.ext_getElem?;intro j;by_cases t:∃ i,j=shN L ext.length i
 · obtain⟨i,rfl⟩:=t;rw[Q3 (by simpa using h),List.getElem?_set,List.getElem?_set];by_cases e:o=i
   · subst e;rw[if_pos rfl,if_pos rfl,a4R h];by_cases hl:o < st.length
     · rw[if_pos hl,if_pos (by unfold shN; split<;>omega)]; rfl
     · rw[if_neg hl,if_neg (by unfold shN; split<;>omega)]; rfl
   · rw[if_neg e,if_neg (fun h=>e (shN_inj.1 h)),Q3 h]
 · have z:L≤j∧j < L+ext.length:=by
    refine Decidable.byContradiction fun B=>t ?_
    by_cases y:j < L
    · exact⟨j,by rw[shN,if_pos y]⟩
    · exact⟨j - ext.length,by rw[shN,if_neg (by omega)]; omega⟩
   have u:shN L ext.length o≠j:=fun e=>t ⟨o,e.symm⟩
   rw[List.getElem?_set,if_neg u];have l:∀ s:St,L≤s.length→(shS L ext s)[j]?=ext[j - L]?:=by
    intro s hs;unfold shS;have e1:((s.take L).map (Obj.sh L ext.length)).length=L:=by simp; omega
    rw[AU,List.getElem?_append_right (by rw[e1]; omega),e1,List.getElem?_append_left (by omega)]
   rw[l _ (by simpa using h),l _ h]
def shR (L:Nat) (ext:St) (r:AV×AV×St):AV×AV×St:=(r.1.sh L ext.length,r.2.1.sh L ext.length,shS L ext r.2.2)
def V0 (L:Nat) (ext:St) (call:d8):Prop:=∀ f as st r st',L≤st.length→call f as st=some (r,st')→call f (as.map (AV.sh L ext.length)) (shS L ext st)=some (r.sh L ext.length,shS L ext st')∧L≤st'.length
def SemSh (L:Nat) (ext:St) (f:List AV→AV→St→Option (AV×AV×St)) (as:List AV) (bx:AV) (st:St):Prop :=
 ∀ r,f as bx st=some r→f (as.map (AV.sh L ext.length)) (bx.sh L ext.length) (shS L ext st)=some (shR L ext r)∧L≤r.2.2.length
mutual
def AV.shut:AV→Bool
 | .list _ xs=>Z0 xs
 | .ptr ..=>false
 | .ro cs=>I8 cs
 | .box cs=>I8 cs
 | .map _=>false
 | .func _ a c=>I8 a && I8 c
 | .agg cs=>I8 cs
 | .tuple vs=>I8 vs
 | .iface _ v=>v.shut
 | .sl ..=>false
 | .fresh xs=>Z0 xs
 | _=>true
def I8:List AV→Bool
 | []=>true
 | a::as=>a.shut && I8 as
def Z0:List (List AV)→Bool
 | []=>true
 | r::rs=>I8 r && Z0 rs
end
end
mutual
theorem a6O (L d:Nat):∀ a:AV,a.shut=true→a.sh L d=a
 | .undef,_=>rfl
 | .bool b,_=>rfl
 | .int k n,_=>rfl
 | .str s,_=>rfl
 | .list o xs,h=>by rw[AV.sh,X0 L d xs (by simpa[AV.shut]using h)]
 | .ptr o f,h=>by simp[AV.shut]at h
 | .nilp,_=>rfl
 | .ro cs,h=>by rw[AV.sh,E4 L d cs (by simpa[AV.shut]using h)]
 | .loc i f,_=>rfl
 | .box cs,h=>by rw[AV.sh,E4 L d cs (by simpa[AV.shut]using h)]
 | .map o,h=>by simp[AV.shut]at h
 | .nilm,_=>rfl
 | .func f a c,h=>by simp only[AV.shut,AA]at h;rw[AV.sh,E4 L d a h.1,E4 L d c h.2]
 | .nilf,_=>rfl
 | .agg cs,h=>by rw[AV.sh,E4 L d cs (by simpa[AV.shut]using h)]
 | .tuple vs,h=>by rw[AV.sh,E4 L d vs (by simpa[AV.shut]using h)]
 | .iface t v,h=>by rw[AV.sh,a6O L d v (by simpa[AV.shut]using h)]
 | .nili,_=>rfl
 | .sl o f n s,h=>by simp[AV.shut]at h
 | .fresh xs,h=>by rw[AV.sh,X0 L d xs (by simpa[AV.shut]using h)]
 | .nils,_=>rfl
theorem E4 (L d:Nat):∀ as:List AV,I8 as=true→I2 L d as=as
 | [],_=>rfl
 | a::as,h=>by simp only[I8,AA]at h;rw[I2,a6O L d a h.1,E4 L d as h.2]
theorem X0 (L d:Nat):∀ rs:List (List AV),Z0 rs=true→Y8 L d rs=rs
 | [],_=>rfl
 | r::rs,h=>by simp only[Z0,AA]at h;rw[Y8,E4 L d r h.1,X0 L d rs h.2]
end
def Kind.shut:Kind→Bool
 | .alloc z|.allocO z|.build z _|.mget _ z _ _=>I8 z
 | .bslice _ z _|.bsliceM _ z _|.bsliceO _ z _=>Z0 z
 | _=>true
section
variable {L:Nat} {ext:St}
theorem b2g {st st':St} (h:L≤st.length) (l:L≤st'.length):∀ gs:List AV,kept st st' gs=true→kept (shS L ext st) (shS L ext st') (gs.map (AV.sh L ext.length))=true
 | [],_=>rfl
 | g::gs,i=>by
  rw[AG];simp only[kept,AA]at i ⊢;refine⟨?_,b2g h l gs i.2⟩;have i:=i.1;rw[a1U];cases u:J9 g with
  | none=>rw[u]at i; cases i
  | some p =>
   rw[u]at i;simp only[AN,Q3 h,Q3 l]at i ⊢;cases j:st[p]? with
   | none=>rw[j]at i; cases i
   | some a =>
    cases t:st'[p]? with
    | none=>rw[j,t]at i; cases i
    | some b =>rw[j,t]at i;simp only[AN]at i ⊢;rw[(a0E _ _).1 i];exact(a0E _ _).2 rfl
theorem a0n {st:St} (h:L≤st.length) (o:Option Nat):∀ gs:List AV,I9 o st.length gs=true→I9 (o.map (shN L ext.length)) (shS L ext st).length (gs.map (AV.sh L ext.length))=true
 | [],_=>rfl
 | g::gs,i=>by
  rw[AG];simp only[I9,AA]at i ⊢;refine⟨?_,a0n h o gs i.2⟩;have i:=i.1;rw[a1U];cases l:J9 g with
  | none=>rw[l]at i; cases i
  | some p =>
   rw[l]at i;simp only[AN,AA]at i ⊢;obtain⟨t,j⟩:=i;refine⟨?_,?_⟩
   · rw[Nat.blt_eq]at t ⊢;rw[← J7 h];unfold shN;split<;>split<;>omega
   · cases o with
     | none=>rfl
     | some q =>simp only[AN,Bool.not_eq_true',b49]at j ⊢;exact fun e=>j (shN_inj.1 e)
end
end Go.Cb
namespace Go.Cb
open Classical
section
variable {L:Nat} {ext:St} {call:d8} {as:List AV} {bx:AV} {st:St}
theorem o9 {α β:Type} {x:Option α} {f:α→β} {r:β} (h:x.map f=some r):∃ a,x=some a∧f a=r:=AK.1 h
theorem SemSh.of (j:L≤st.length) {f:List AV→AV→St→Option (AV×AV×St)} (h:∀ r b s,f as bx st=some (r,b,s)→s=st∧f (as.map (AV.sh L ext.length)) (bx.sh L ext.length) (shS L ext st)=some (r.sh L ext.length,b.sh L ext.length,shS L ext st)):SemSh L ext f as bx st:=by rintro⟨r,b,s⟩ l;obtain⟨rfl,i⟩:=h r b s l;exact⟨i,j⟩
theorem d3M (i:L≤st.length):SemSh L ext (a0u call) as bx st:=SemSh.of i fun r b s h=>by
 unfold a0u at h;split at h
 · cases h; exact⟨rfl,rfl⟩
 · cases h
theorem c0o (l:L≤st.length):SemSh L ext (A9 call) as bx st:=SemSh.of l fun r b s h=>by
 unfold A9 at h;split at h
 · rename_i c x y;have:AV.sh L ext.length (.bool c)=.bool c:=rfl;simp only[A9,AG,AL,AV.sh,L5];split at h
   · rename_i i;rw[if_pos i];split at h
     · rename_i j; rw[if_pos j]; cases h; exact⟨rfl,rfl⟩
     · cases h
   · rename_i i;rw[if_neg i];split at h
     · rename_i j; rw[if_pos j]; cases h; exact⟨rfl,rfl⟩
     · cases h
 · cases h
theorem b5n (i:L≤st.length):SemSh L ext (B8 call) as bx st:=SemSh.of i fun r b s h=>by unfold B8 at h;split at h<;>first|(cases h; exact⟨rfl,rfl⟩)|cases h
theorem b7A {z:List AV} (j:I8 z=true) (i:L≤st.length):SemSh L ext (O0 z call) as bx st:=SemSh.of i fun r b s h=>by
 unfold O0 at h;split at h
 · cases h;refine⟨rfl,?_⟩;show some (AV.undef,AV.box z,_)=some (AV.undef,AV.box (I2 L ext.length z),_);rw[E4 _ _ _ j]
 · cases h
theorem c3E (i:L≤st.length):SemSh L ext (Q5 call) as bx st:=SemSh.of i fun r b s h=>by
 unfold Q5 at h;split at h
 · rename_i a;split at h
   · rename_i j;cases h;refine⟨rfl,?_⟩;simp only[Q5,AG,AL,AV.sh,L5,j,if_true,a7P,m0]
   · cases h
 · cases h
theorem b9S {z:List AV} {i:List (Nat×Nat)} (u:I8 z=true) (t:L≤st.length):SemSh L ext (I3 z i call) as bx st:=SemSh.of t fun r b s h=>by unfold I3 at h ⊢;obtain⟨cs,j,l⟩:=o9 h;cases l;refine⟨rfl,?_⟩;have:=a5k (L:=L) (d:=ext.length) i as z cs j;rw[← m0 z,E4 _ _ _ u]at this;rw[this,AN,AV.sh,m0]
theorem b6k {n:Nat} {z:List (List AV)} {at_:List Nat} (t:Z0 z=true) (l:L≤st.length):SemSh L ext (H8 n z at_ call) as bx st:=SemSh.of l fun r b s h=>by unfold H8 at h ⊢;obtain⟨cs,i,j⟩:=o9 h;cases j;refine⟨rfl,?_⟩;have:=a5d (L:=L) (d:=ext.length) n at_ as z cs i;rw[← s8 z,X0 _ _ _ t]at this;rw[this,AN,AV.sh,s8]
theorem b3P {n:Nat} {z:List (List AV)} {at_:List Nat} (t:Z0 z=true) (l:L≤st.length):SemSh L ext (F0 n z at_ call) as bx st:=SemSh.of l fun r b s h=>by unfold F0 at h ⊢;obtain⟨cs,i,j⟩:=o9 h;cases j;refine⟨rfl,?_⟩;have:=a1v (L:=L) (d:=ext.length) n at_ as z cs i;rw[← s8 z,X0 _ _ _ t]at this;rw[this,AN,AV.sh,s8]
theorem b23 {n:Nat} {z:List (List AV)} {at_:List Nat} (l:Z0 z=true) (i:L≤st.length):SemSh L ext (E9 n z at_ call) as bx st:=by rintro r h;unfold E9 at h ⊢;obtain⟨cs,j,rfl⟩:=o9 h;have:=a1v (L:=L) (d:=ext.length) n at_ as z cs j;rw[← s8 z,X0 _ _ _ l]at this;refine⟨?_,by simp; omega⟩;rw[this,AN,shR,M6 i,AV.sh,J7 i];simp only[Obj.sh,a0X]
theorem c2r (i:L≤st.length):SemSh L ext (P8 call) as bx st:=SemSh.of i fun r b s h=>by
 unfold P8 at h;split at h
 · rename_i k a l c;split at h
   · rename_i j; cases h; subst j; exact⟨rfl,by simp only[P8,AG,AL,AV.sh,if_true]⟩
   · cases h
 · cases h
theorem c1S {neg:Bool} (i:L≤st.length):SemSh L ext (Q2 neg call) as bx st:=SemSh.of i fun r b s h=>by
 unfold Q2 at h;split at h
 · split at h
   · rename_i j; cases h; subst j; exact⟨rfl,by simp only[Q2,AG,AL,AV.sh,I2,if_true]⟩
   · cases h
 · cases h
theorem c0Q {i n:Nat} {l:Bool} (x:L≤st.length):SemSh L ext (G6 i l n call) as bx st:=SemSh.of x fun r b s h=>by
 unfold G6 at h;split at h
 · rename_i j off cs;split at h
   · rename_i y;obtain⟨a,t,u⟩:=o9 h;cases u;refine⟨rfl,?_⟩;simp only[G6,AG,AL,AV.sh,y,if_true,m0,X1,H2,t,AN]
   · cases h
 · cases h
theorem T6 {o:Nat} {cs:List AV} (i:L≤st.length) (h:st[o]?=some (.cells cs)):(shS L ext st)[shN L ext.length o]?=some (.cells (cs.map (AV.sh L ext.length))):=by rw[Q3 i,h]; rfl
theorem b99 {o:Nat} {es:List (AV×AV)} (i:L≤st.length) (h:st[o]?=some (.map es)):(shS L ext st)[shN L ext.length o]?=some (.map (es.map fun e=>(e.1.sh L ext.length,e.2.sh L ext.length))):=by rw[Q3 i,h]; rfl
theorem b1S {n:Nat} {j:Bool} (i:L≤st.length):SemSh L ext (B1 j n call) as bx st:=SemSh.of i fun r b s h=>by
 unfold B1 at h;split at h
 · rename_i o off;split at h
   · rename_i cs u;obtain⟨a,l,t⟩:=o9 h;cases t;refine⟨rfl,?_⟩;simp only[B1,AG,AL,AV.sh,T6 i u,X1,H2,l,AN]
   · cases h
 · cases h
theorem c2F {n:Nat} {i:Bool} (t:L≤st.length):SemSh L ext (J8 i n call) as bx st:=SemSh.of t fun r b s h=>by
 unfold J8 at h;split at h
 · obtain⟨a,j,l⟩:=o9 h;cases l;refine⟨rfl,?_⟩;simp only[J8,AG,AL,AV.sh,m0,H2,j,AN]
 · cases h
theorem c4g {n:Nat} {t:Bool} (l:L≤st.length):SemSh L ext (D2 t n call) as bx st:=SemSh.of l fun r b s h=>by
 unfold D2 at h;split at h
 · obtain⟨a,i,j⟩:=o9 h;cases j;refine⟨rfl,?_⟩;simp only[D2,AG,AL,AV.sh,m0,H2,i,AN]
 · rename_i o off;split at h
   · rename_i cs u;obtain⟨a,i,j⟩:=o9 h;cases j;refine⟨rfl,?_⟩;simp only[D2,AG,AL,AV.sh,T6 l u,X1,H2,i,AN]
   · cases h
 · cases h
theorem b74 {i:Nat} (l:L≤st.length):SemSh L ext (I5 i call) as bx st:=SemSh.of l fun r b s h=>by
 unfold I5 at h;split at h
 · rename_i j off cs;split at h
   · rename_i u;split at h
     · rename_i c t;cases h;refine⟨rfl,?_⟩;simp only[I5,AG,AL,AV.sh,u,if_true,m0,AQ,t,AN,List.map_set,a2V]
     · cases h
   · cases h
 · cases h
theorem a8J (i:L≤st.length):SemSh L ext (B6 call) as bx st:=by
 rintro⟨r,b,s⟩ h;unfold B6 at h;split at h
 · rename_i o off;split at h
   · rename_i cs l;split at h
     · rename_i c j;cases h;refine⟨?_,by simpa using i⟩;simp only[B6,AG,AL,AV.sh,T6 i l,AQ,j,AN,shR,a0i i,Obj.sh,List.map_set,a2V]
     · cases h
   · cases h
 · cases h
theorem c2f {i n:Nat} (l:L≤st.length):SemSh L ext (J2 i n call) as bx st:=SemSh.of l fun r b s h=>by
 unfold J2 at h;split at h
 · rename_i j off x cs;split at h
   · rename_i t;cases h;refine⟨rfl,?_⟩;simp only[J2,AG,AL,AV.sh,L5,a1l,AF,m0];rw[if_pos t,a3O]
   · cases h
 · cases h
theorem b1P {n:Nat} (i:L≤st.length):SemSh L ext (D5 n call) as bx st:=by
 rintro⟨r,b,s⟩ h;unfold D5 at h;split at h
 · rename_i o off x;split at h
   · rename_i cs j;split at h
     · rename_i l;rw[fL_eq]at h;cases h;refine⟨?_,by simpa using i⟩;simp only[D5,AG,AL,AV.sh,T6 i j,L5,a1l,AF,fL_eq];rw[if_pos l,a3O,shR,a0i i];rfl
     · cases h
   · cases h
 · cases h
theorem c70 {n:Nat} (i:L≤st.length):SemSh L ext (K0 n call) as bx st:=SemSh.of i fun r b s h=>by
 unfold K0 at h;split at h
 · cases h; exact⟨rfl,rfl⟩
 · cases h; exact⟨rfl,rfl⟩
 · cases h; exact⟨rfl,by simp only[K0,AG,AL,AV.sh,m0,X1]⟩
 · cases h
theorem c5f {o n:Nat} {i:Bool} (t:L≤st.length):SemSh L ext (O9 o n i call) as bx st:=SemSh.of t fun r b s h=>by
 unfold O9 at h;split at h
 · split at h
   · rename_i u;obtain⟨a,j,l⟩:=o9 h;cases l;refine⟨rfl,?_⟩;simp only[O9,AG,AL,AV.sh,m0,AF,u,if_true,X1,H2,j,AN]
   · cases h
 · cases h
theorem d0k {n:Nat} (l:L≤st.length):SemSh L ext (I7 n call) as bx st:=SemSh.of l fun r b s h=>by
 unfold I7 at h;split at h
 · rename_i xs k i;split at h
   · rename_i j;split at h
     · rename_i x u;split at h
       · rename_i hl;cases h;refine⟨rfl,?_⟩;simp only[I7,AG,AL,AV.sh,s8,j,if_true,AQ,u,AN,AF,hl,m0]
       · cases h
     · cases h
   · cases h
 · rename_i j;split at h
   · rename_i t;cases h;refine⟨rfl,?_⟩;simp only[I7,AG,AL,AV.sh];rw[if_pos t]
   · cases h
 · cases h
theorem c4K {l n:Nat} (j:L≤st.length):SemSh L ext (E0 l n call) as bx st:=SemSh.of j fun r b s h=>by
 unfold E0 at h;split at h
 · split at h
   · rename_i i; cases h; refine⟨rfl,?_⟩; simp only[E0,AG,AL,AV.sh,m0]; rw[if_pos i,X1]
   · cases h
 · split at h
   · rename_i i; cases h; refine⟨rfl,?_⟩; simp only[E0,AG,AL,AV.sh]; rw[if_pos i]
   · cases h
 · split at h
   · rename_i i; cases h; refine⟨rfl,?_⟩; simp only[E0,AG,AL,AV.sh]; rw[if_pos i]
   · cases h
 · cases h
theorem c3b (j:L≤st.length):SemSh L ext (I0 call) as bx st:=SemSh.of j fun r b s h=>by
 unfold I0 at h;split at h
 · split at h
   · rename_i i;split at h
     · rename_i l; cases h; refine⟨rfl,?_⟩; simp only[I0,AG,AL,AV.sh,i,if_true,l]
     · cases h
   · cases h
 · cases h
theorem c99 {t hi:Bool} (l:L≤st.length):SemSh L ext (M9 t hi call) as bx st:=SemSh.of l fun r b s h=>by
 unfold M9 at h;split at h
 · obtain⟨p,i,j⟩:=o9 h;cases j;refine⟨rfl,?_⟩;simp only[M9,AG,AV.sh,a1L,i,AN]
 · cases h
theorem c8A {n:Nat} {u hi:Bool} (t:L≤st.length):SemSh L ext (K8 n u hi call) as bx st:=SemSh.of t fun r b s h=>by
 unfold K8 at h;split at h
 · split at h
   · rename_i l;obtain⟨p,i,j⟩:=o9 h;cases j;refine⟨rfl,?_⟩;simp only[K8,AG,AV.sh,s8,N6,l,if_true,AF,a1L,i,AN,List.map_take,List.map_drop]
   · cases h
 · split at h
   · rename_i l;obtain⟨p,i,j⟩:=o9 h;cases j;refine⟨rfl,?_⟩;simp only[K8,AG,AV.sh,l,if_true];unfold slB at i ⊢;rw[a1L,i];rfl
   · cases h
 · cases h
theorem c5c (i:L≤st.length):SemSh L ext (S6 call) as bx st:=SemSh.of i fun r b s h=>by
 unfold S6 at h;split at h
 · cases h; exact⟨rfl,rfl⟩
 · cases h
theorem c7X {l n:Nat} {x hi:Bool} (t:L≤st.length):SemSh L ext (P0 l n x hi call) as bx st:=SemSh.of t fun r b s h=>by
 unfold P0 at h;split at h
 · split at h
   · rename_i u;obtain⟨p,i,j⟩:=o9 h;cases j;refine⟨rfl,?_⟩;simp only[P0,AG,AV.sh,m0,AF,u,if_true,a1L,i,AN,a7z,s8,List.map_take,List.map_drop]
   · cases h
 · cases h
theorem c6F {op:BinOp} (l:L≤st.length):SemSh L ext (A0 op call) as bx st:=SemSh.of l fun r b s h=>by
 unfold A0 at h;split at h
 · obtain⟨p,i,j⟩:=o9 h;cases j;refine⟨rfl,?_⟩;simp only[A0,AG,AL,c32 op _ _ _ i,AN]
 · cases h
theorem c2O {op:BinOp} (l:L≤st.length):SemSh L ext (N5 op call) as bx st:=SemSh.of l fun r b s h=>by
 unfold N5 at h;split at h
 · rename_i x y;obtain⟨p,i,j⟩:=o9 h;cases j;refine⟨rfl,?_⟩;unfold a4L at i;split at i
   · split at i<;>first|(cases i; rfl)|cases i
   · cases i
 · cases h
theorem c1k {op:BinOp} (l:L≤st.length):SemSh L ext (I1 op call) as bx st:=SemSh.of l fun r b s h=>by
 unfold I1 at h;split at h
 · rename_i x y;obtain⟨p,i,j⟩:=o9 h;cases j;refine⟨rfl,?_⟩;unfold Z4 at i;split at i;all_goals first|cases i|skip
   all_goals (split at i<;>first|(cases i; rfl)|cases i)
 · cases h
theorem d5j {op:UnOp} (i:L≤st.length):SemSh L ext (W4 op call) as bx st:=SemSh.of i fun r b s h=>by unfold W4 at h;split at h<;>first|(cases h; exact⟨rfl,rfl⟩)|cases h
theorem c1F {k:IntKind} (i:L≤st.length):SemSh L ext (M0 k call) as bx st:=SemSh.of i fun r b s h=>by unfold M0 at h;split at h<;>first|(cases h; exact⟨rfl,rfl⟩)|cases h
theorem c82 {f n:Nat} (i:L≤st.length):SemSh L ext (R8 f n call) as bx st:=SemSh.of i fun r b s h=>by
 unfold R8 at h ⊢;split at h
 · rename_i j;cases h;refine⟨rfl,?_⟩;rw[a0s,if_pos j,AV.sh,m0,m0,← a5B,List.map_take,List.map_drop]
 · cases h
theorem c5K (i:L≤st.length):SemSh L ext (S7 call) as bx st:=by
 rintro⟨r,b,s⟩ h;unfold S7 at h;split at h
 · cases h;refine⟨?_,by simp; omega⟩;simp only[S7,AL,shR,M6 i,AV.sh,J7 i];rfl
 · cases h
theorem b5h {z:List AV} (j:I8 z=true) (i:L≤st.length):SemSh L ext (E1 z call) as bx st:=by
 rintro⟨r,b,s⟩ h;unfold E1 at h;split at h
 · cases h;refine⟨?_,by simp; omega⟩;simp only[E1,AL,shR,M6 i,AV.sh,J7 i,Obj.sh,← m0,E4 _ _ _ j]
 · cases h
theorem c4j (i:L≤st.length):SemSh L ext (J3 call) as bx st:=by
 rintro⟨r,b,s⟩ h;unfold J3 at h;split at h
 · split at h
   · rename_i j;cases h;refine⟨?_,by simp; omega⟩;simp only[J3,AG,AL,L5,j,if_true,shR,M6 i,AV.sh,J7 i,Obj.sh,a7P]
   · cases h
 · cases h
end
end Go.Cb
