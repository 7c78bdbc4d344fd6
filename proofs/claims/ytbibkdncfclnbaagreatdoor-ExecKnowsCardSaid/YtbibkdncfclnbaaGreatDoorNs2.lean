import Derived.Test.YtbibkdncfclnbaaGreatDoorNs1
import Derived.Test.YtbibkdncfclnbaaGreatDoorYs1
import Derived.Test.YtbibkdncfclnbaaGreatDoorXs1
set_option maxRecDepth 20000
set_option maxHeartbeats 2000000
set_option linter.all false
namespace Go.Cb.CodeA
open Go Go.Cb
structure Part (E E':REnv):Prop where
 fld:E'.fld=E.fld
 grp:E'.grp=E.grp
 poss:E'.poss=E.poss
 leaf:E'.leaf=E.leaf
 fits:E'.fits=E.fits
 args:E'.args=E.args
 all:∀ n,E.knows n=true
 es:∀ n,E'.knows n=true→(E'.es.filter fun y=>k9 (E.poss n) y.t)=E.es.filter fun y=>k9 (E.poss n) y.t
 get:∀ n id,E'.knows n=true→(F4 E.es id=F4 E'.es id∨(∀ x,F4 E.es id=some x→k9 (E.poss n) x.t=false)∧(∀ x,F4 E'.es id=some x→k9 (E.poss n) x.t=false))
def PR (a b:RS):Prop:=a.part=true→b.part=true
theorem U4 (E:REnv):Steady E PR where
 refl:=fun _ h=>h
 trans:=fun e l h=>l (e h)
 step:=fun _ h=>h
 prob:=fun _ _ _ h=>h
 know:=fun s n h=>by unfold REnv.know; split; exact h; rfl
def PV (V V':VF):Prop:=∀ t v fs path s,(V' t v fs path s).2.part=true∨V t v fs path s=V' t v fs path s
section
variable {E E':REnv} {V V':VF}
theorem a5Q (e:PV V V') (t:TRef) (v:Val) (fs:List Sel) (path:List (List Nat)) (s:RS):(H3 V' t v fs path s).2.part=true∨H3 V t v fs path s=H3 V' t v fs path s:=by
 rcases e t v fs path s with h|h
 · left;unfold H3;revert h;generalize V' t v fs path s=r;obtain⟨out,l⟩:=r;intro h;dsimp only at h ⊢;split
   · dsimp only;split
     · exact h
     · exact h
   · exact h
 · right;unfold H3;rw[h]
theorem b2z (u:REnv) (z:PV V V') (v:Inv PR V') (t:TRef) (fs:List Sel) (path:List (List Nat)):∀ (l:List Val) (i:Nat) (e:List Val) (s:RS),(M5 V' t fs path l i e s).2.part=true∨M5 V t fs path l i e s=M5 V' t fs path l i e s
 | [],i,e,s=>.inr rfl
 | x::xs,i,e,s=>by
  unfold M5;split
  · have h:=a5Q z t x fs (path++[L0 (i:Int)]) s.step;revert h;generalize H3 V' t x fs (path++[L0 (i:Int)]) s.step=r;obtain⟨⟨y,ok⟩,C⟩:=r;intro h;rcases h with h|h
    · left;dsimp only at h ⊢;split
      · exact a5d (U4 u) v t fs path xs (i+1) _ C h
      · exact h
    · rw[h];dsimp only;split
      · exact b2z u z v t fs path xs (i+1) _ C
      · exact .inr rfl
  · exact .inr rfl
theorem a9i (e:Part E E') (s:RS) (n:List Nat):(E'.know s n).part=true∨E'.knows n=true∧E.know s n=E'.know s n:=by
 unfold REnv.know;rw[e.all,if_pos rfl];split
 · rename_i h; exact .inr ⟨h,rfl⟩
 · exact .inl rfl
theorem c0H (l:Part E E') (v:PV V V') (z:Inv PR V') (typ:List Nat) (x:Ent) (f:FDef) (fs:List Sel) (path:List (List Nat)) (s:RS):(M3 E' V' typ x f fs path s).2.part=true∨M3 E V typ x f fs path s=M3 E' V' typ x f fs path s:=by
 unfold M3;split
 · exact .inr rfl
 split
 · exact a5Q v _ _ _ _ _
 rw[l.poss,l.args];split
 · rcases a9i l s f.t.bs with h|⟨y,u⟩
   · exact .inl (W4 (U4 E') z _ _ _ _ _ h)
   · rw[l.es _ y,u];exact a5Q v _ _ _ _ _
 · generalize E.args f (a3B fs)=r;obtain⟨a,e⟩:=r;dsimp only;rcases a9i l s f.t.bs with h|⟨y,u⟩
   · left;split
     · exact W4 (U4 E') z _ _ _ _ _ h
     · exact h
   · rw[u];split
     · exact a5Q v _ _ _ _ _
     · exact .inr rfl
theorem a7y (l:Part E E') (t:PV V V') (e:Inv PR V') (typ:List Nat) (x:Ent) (path:List (List Nat)):∀ (gs:List (List Nat×List Sel)) (ks:List (List Nat)) (ls:List Val) (s:RS),(I2 E' V' typ x path gs ks ls s).2.part=true∨I2 E V typ x path gs ks ls s=I2 E' V' typ x path gs ks ls s
 | [],ks,ls,s=>.inr rfl
 | (key,fs)::gs,ks,ls,s=>by
  unfold I2;rw[l.fld];cases v:E.fld typ (a3L fs)with
  | none=>exact a7y l t e typ x path gs ks ls s
  | some f =>
   dsimp only;split
   · have h:=c0H l t e typ x f fs (path++[key]) s.step;revert h;generalize M3 E' V' typ x f fs (path++[key]) s.step=r;obtain⟨⟨y,ok⟩,u⟩:=r;intro h;rcases h with h|h
     · left;dsimp only at h ⊢;split
       · exact a3V (U4 E') e typ x path gs _ _ u h
       · exact h
     · rw[h];dsimp only;split
       · exact a7y l t e typ x path gs _ _ u
       · exact .inr rfl
   · exact .inr rfl
end
theorem b8R {E E':REnv} (e:Part E E'):∀ n,PV (valF E n) (valF E' n)
 | 0=>fun t v fs path s=>.inr rfl
 | n+1=>fun t v fs path s=>by
  have J:=b8R e n;have C:=a0m (U4 E') n;unfold valF;split
  · exact .inr rfl
  cases t with
  | wrap u b =>
   dsimp only;split
   · exact b2z E' J C _ _ _ _ _ _ _
   · exact .inr rfl
  | base nm b =>
   dsimp only;have T:a4w E' nm v=a4w E nm v:=by unfold a4w; rw[e.fits]
   rw[e.leaf,e.poss,e.grp,T];split
   · exact .inr rfl
   split
   · rcases a9i e s nm with h|⟨L,M⟩
     · left;split
       · exact h
       split
       · rename_i x _ _;have:=a3V (U4 E') C x.t x path (E.grp x.t (B8 fs)) [] [] (E'.know s nm) h;revert this;generalize I2 E' (valF E' n) x.t x path (E.grp x.t (B8 fs)) [] [] (E'.know s nm)=r;obtain⟨⟨y,ok⟩,z⟩:=r;exact fun h=>h
       · exact h
     · rw[M];have same:∀ x:Ent,((match I2 E' (valF E' n) x.t x path (E.grp x.t (B8 fs)) [] [] (E'.know s nm)with|((v,_),z)=>(v,z)):Val×RS).2.part=true∨((match I2 E (valF E n) x.t x path (E.grp x.t (B8 fs)) [] [] (E'.know s nm)with|((v,_),z)=>(v,z)):Val×RS)=(match I2 E' (valF E' n) x.t x path (E.grp x.t (B8 fs)) [] [] (E'.know s nm)with|((v,_),z)=>(v,z)):=fun x=>by
        rcases a7y e J C x.t x path (E.grp x.t (B8 fs)) [] [] (E'.know s nm)with h|h
        · left;revert h;generalize I2 E' (valF E' n) x.t x path (E.grp x.t (B8 fs)) [] [] (E'.know s nm)=r;obtain⟨⟨y,ok⟩,z⟩:=r;exact fun h=>h
        · right; rw[h]
       rcases e.get nm v.text L with h|⟨N,I⟩
       · rw[h];cases F4 E'.es v.text with
         | none=>exact .inr rfl
         | some x =>
          dsimp only;split
          · exact same x
          · exact .inr rfl
       · right;cases O:F4 E.es v.text with
         | none =>
          cases l:F4 E'.es v.text with
          | none=>rfl
          | some y=>dsimp only; rw[I y l,if_neg (by decide)]
         | some x =>
          dsimp only; rw[N x O,if_neg (by decide)];cases l:F4 E'.es v.text with
          | none=>rfl
          | some y=>dsimp only; rw[I y l,if_neg (by decide)]
   · exact .inr rfl
theorem c5l {E E':REnv} (e:Part E E') (sub:List Sel):(a2v E' sub).2.part=true∨a2v E sub=a2v E' sub:=by unfold a2v;rw[e.grp];exact a7y e (b8R e _) (a0m (U4 E') _) _ _ _ _ _ _ _
theorem c4c {E E':REnv} (e:Part E E') (sub:List Sel):(a0O E' sub).1=11∨a0O E sub=a0O E' sub∨a0O E' sub=(2,Val.none,[]):=by
 rcases c5l e sub with h|h
 · unfold a0O;rw[h];split
   · exact .inr (.inr rfl)
   · exact .inl rfl
 · right; left;unfold a0O;rw[h]
theorem c6K {T:List SD} {so:Nat} {D:Docm} {E E':Val→REnv} (e:∀ w,Part (E w) (E' w)):(a0K T so D E').1=11∨a0K T so D E=a0K T so D E'∨a0K T so D E'=(2,Val.none,[]):=by
 unfold a0K
 repeat' split
 · exact .inr (.inl rfl)
 · exact c4c (e _) _
 · exact .inr (.inl rfl)
 · exact .inr (.inl rfl)
theorem c0w {T:List SD} {so:Nat} {D:Docm} {E:Val→REnv} (h:(a0K T so D E).1=2):a0K T so D E=(2,Val.none,[]):=by
 have e:∀ (E:REnv) sub,(a0O E sub).1=2→a0O E sub=(2,Val.none,[]):=by
  intro E sub;unfold a0O
  repeat' split
  · exact fun _=>rfl
  · intro h; cases h
  · intro h; cases h
 revert h;unfold a0K
 repeat' split
 · intro h; cases h
 · exact e _ _
 · intro h; dsimp only at h; rw[h]
 · intro h; dsimp only at h; rw[h]
end Go.Cb.CodeA
namespace Go.Cb.CodeA
open Go Go.Cb
open Nat renaming reduceAdd→rA,reduceSub→rS,reduceLeDiff→rL,reduceEqDiff→rE
attribute [local congr] g9 j3 j4 j5 i8 j0 j8 j9 V.runR_congr
theorem a7W {x:Ent}:∀ {l:List Ent},(∀ e∈l,m2 e.id x.id=true)→K9 l x=l++[x]
 | [],_=>rfl
 | e::l,h=>by rw[a1V,if_pos (h e (by simp)),a7W fun y t=>h y (by simp[t])]; rfl
theorem b8P (l:List Ent):F5 l→ofE l=l:=by refine b1a (P:=fun l=>F5 l→ofE l=l) (fun _=>rfl) (fun l x v u=>?_) l;have h:=List.pairwise_append.1 u;rw[a4z,v h.1,a7W fun e t=>h.2.2 e t x (by simp)]
def H1 (ts:List (List Nat)) (es:List Ent):List Ent:=es.filter fun y=>k9 ts y.t
theorem a4T {ts:List (List Nat)} {es:List Ent} (h:F5 es):F5 (H1 ts es):=List.Pairwise.filter _ h
noncomputable def ET (D:Docm) (ts:List (List Nat)) (es:List Ent) (v:AV) (w:Val):REnv:=mkT T0 (b5W T0 52 D w) es v ts
theorem a9U {ts l:List (List Nat)} {t:List Nat} (h:U1 ts l=true) (v:k9 l t=true):k9 ts t=true:=by unfold U1 at h;unfold k9 at v;obtain⟨u,hu,e⟩:=List.any_eq_true.1 v;have e:=(t7 _ _).1 e;subst e;exact List.all_eq_true.1 h _ hu
theorem c6f (D:Docm) (ts:List (List Nat)) {es:List Ent} (N:F5 es) (v T:AV) (w:Val):Part (EK D es v w) (ET D ts (H1 ts es) T w) where
 fld:=rfl
 grp:=rfl
 poss:=rfl
 leaf:=rfl
 fits:=rfl
 args:=rfl
 all:=fun _=>rfl
 es:=fun n u=>by
  have u:U1 ts (J0 T0 n)=true:=u;show(H1 ts es).filter (fun y=>k9 (J0 T0 n) y.t)=es.filter fun y=>k9 (J0 T0 n) y.t
  unfold H1;rw[List.filter_filter];refine List.filter_congr fun y _=>?_
  rcases e8 (k9 (J0 T0 n) y.t)with h|h
  · rw[h,a9U u h]; rfl
  · rw[h]; rfl
 get:=fun n id u=>by
  have u:U1 ts (J0 T0 n)=true:=u;show(F4 es id=F4 (H1 ts es) id∨(∀ x,F4 es id=some x→k9 (J0 T0 n) x.t=false)∧(∀ x,F4 (H1 ts es) id=some x→k9 (J0 T0 n) x.t=false));have J:=a4T (ts:=ts) N;have e:∀ x,F4 (H1 ts es) id=some x→F4 es id=some x:=fun x O=>by obtain⟨z,l⟩:=a23 O;have l:=(t7 _ _).1 l;rw[← l];exact a5c N x (List.mem_filter.1 z).1
  cases C:F4 es id with
  | none =>
   cases I:F4 (H1 ts es) id with
   | none=>exact .inl rfl
   | some y=>have:=e y I; rw[C]at this; cases this
  | some x =>
   obtain⟨z,l⟩:=a23 C;have l:=(t7 _ _).1 l;rcases e8 (k9 ts x.t)with h|h
   · left;have:=a5c J x (List.mem_filter.2 ⟨z,h⟩);rw[l]at this;exact this.symm
   · have M:k9 (J0 T0 n) x.t=false:=by
      rcases e8 (k9 (J0 T0 n) x.t)with c|c
      · rw[a9U u c]at h; cases h
      · exact c
     right;refine⟨fun y L=>by cases L; exact M,fun y L=>?_⟩;have:=e y L;rw[C]at this;cases this;exact M
theorem d15 {D:Docm} (l:DocG D) {es:List Ent} {v:AV} {B:St} (x:Gr a6Y B) (y:EntsAt v es B) (J:F5 es) (L:es.length≤12) (C:∀ e∈es,a3o e) (ts:List (List Nat)) (u:ts.length≤3) (ks:List (List Nat)) (ls:List Val) (I:ks.length=ls.length) (t:ks.length≤3000):(ET D ts es v (.mk 6 0 [] ks ls)).OK B :=
 c93 ts u (sch0.gr x) (fun n=>Nat.le_trans (a2F sch0.sch n) (by decide)) (b7v (K:=b5W T0 52 D (.mk 6 0 [] ks ls)) (sch0.gr x) ⟨⟨Nat.le_trans t (by decide),fun _=>I,⟨l.k.fl,fun f z=>(l.k.fo f z).1⟩,fun n=>Nat.le_trans (a2F sch0.sch n) (by decide)⟩,l.k.fs,l.fr⟩ rfl (fun n=>Nat.le_trans (a2F sch0.sch n) (by decide)) b0n (by kernel_rfl) y J (by omega) C ⟨rfl,rfl,rfl⟩)
theorem b43 {e e':Int} (h:eqI e e'=false) (D v:Val) {pv l:AV} {ps u:List (Pth×Int)} {st:St} (x:ProbAt pv ps st) (t:ProbAt l u st):EvQ tbl 20 [a1G e D pv,a1G e' v l] st (fun a st'=>st'=st∧a=.bool false):=by obtain⟨C,y,I,J,L,M,N⟩:=x.wk;obtain⟨O,z,T,U,W,Y,Z⟩:=t.wk;unfold a1G;refine wj (fn:=a20) rfl rfl rfl ?_;simp only[K20,rS,rE,h,y,z];exact wc ⟨_,_,rfl,rfl,rfl⟩
theorem d0d (k:Int) (i:Nat):∃ x,n4 .shr (.int .u8 k) (.int .i64 i)=some (.int .u8 x):=⟨_,by unfold n4; exact if_neg (by omega)⟩
theorem c8X (a b:Int):∃ x,n4 .and (.int .u8 a) (.int .u8 b)=some (.int .u8 x):=⟨_,rfl⟩
theorem b86 {i:Nat} (h:i < 3):∃ n,([[AV.str [80,101,114,115,111,110]],[AV.str [67,97,116]],[AV.str [68,111,103]]])[i]?=some [.str n]∧J0 T0 n=[n]:=by
 match i,h with
 | 0,_=>exact⟨_,rfl,by kernel_rfl⟩
 | 1,_=>exact⟨_,rfl,by kernel_rfl⟩
 | 2,_=>exact⟨_,rfl,by kernel_rfl⟩
theorem knows_law (l:List Thg) (hl:∀ x∈l,x.OK) (text:List Nat) (z:Int):EvQ tbl 3 [.list false (l.map Thg.row),.str text,.int .u8 z] [] (fun a _=>a=.bool true):=by
 refine wj (fn:=a3) rfl rfl rfl ?_;simp only[K3,rS,rE];refine wa c4G rfl rfl ?_;rintro _ _ ⟨rfl,rfl⟩;simp only[K3,rE];refine wa c9Z rfl rfl ?_;rintro _ _ ⟨rfl,rfl⟩;simp only[K3,rA,rE];refine wa (c89 ar0 d1r text) rfl rfl ?_;rintro _ st1 ⟨d2,D,b,rfl,hD⟩;unfold Docm.row;cases b with
 | false =>simp only[K3,rA,rE];exact wc ⟨_,_,rfl,rfl⟩
 | true =>
 have hD:=hD rfl;simp only[K3,rA,rE];refine wg (fun mm fr st'=>st'=st1∧∃ (i:Nat) (ts:List (List Nat)),i≤3∧mm=3 - i∧ts.length≤i∧fr=[.list false (l.map Thg.row),.str text,.int .u8 z,.bool false,.ptr 52 0,.ptr 80 0,.box [.list false (D.ops.map Op.row),.list false (D.frags.map Frag.row)],.bool true,.list true (ts.map b9),.list true [],.list true [[.str [80,101,114,115,111,110]],[.str [67,97,116]],[.str [68,111,103]]],.int .i64 i,.undef,.undef,.undef,.undef,.undef,.undef]) (m:=3) ⟨rfl,0,[],by decide,rfl,by simp,rfl⟩ ?_;rintro mm fr st' ⟨rfl,i,ts,hi,rfl,e4,rfl⟩;have h3:ltI (i:Int) 3=decide (i < 3):=ltN i 3;by_cases a4:i < 3
 · obtain⟨x,hx⟩:=d0d z i;obtain⟨y,hy⟩:=c8X x 1;obtain⟨n,hn,_⟩:=b86 a4;rcases e8 (eqI y 1)with c|c
   · have a5:l5 1 (ts.map b9)=true:=B3 fun r hr=>by obtain⟨v,_,rfl⟩:=List.mem_map.1 hr;rfl
     simp only[K3,rE,h3,a4,hx,hy,c,hn,a5,List.length_map,k7 (show i+1 < 2 ^ 63 by omega),show(ts.length+1)*16≤2 ^ 47 by omega];exact wd (m':=3 - (i+1)) (by omega) ⟨rfl,i+1,ts++[n],by omega,rfl,by simp; omega,by rw[List.map_append]; rfl⟩
   · simp only[K3,rE,h3,a4,hx,hy,c,k7 (show i+1 < 2 ^ 63 by omega)];exact wd (m':=3 - (i+1)) (by omega) ⟨rfl,i+1,ts,by omega,rfl,by omega,rfl⟩
 simp only[K3,rE,h3,a4];refine we ?_;simp only[K3,rE];refine wa (c1G l hl st') rfl rfl ?_;rintro _ st1 ⟨rfl,L,rfl,hL,hg⟩;simp only[SS];refine wa (c8q L (by omega) st1) rfl rfl ?_;rintro _ st1 ⟨rfl,rfl⟩;simp only[K3];obtain⟨Y,d5,d6⟩:=b07 L;have a2:∀ e∈ofE L,e.Good:=fun e he=>hg e (d6 e he)
 have U:(ofE L).length≤12:=by omega
 generalize ofE L=E at Y d5 a2 U ⊢;refine wg (fun mm fr st'=>st'=st1∧∃ j:Nat,j≤E.length∧mm=E.length - j∧fr=[.list false (l.map Thg.row),.str text,.int .u8 z,.bool false,.ptr 52 0,.ptr 80 0,.box [.list false (D.ops.map Op.row),.list false (D.frags.map Frag.row)],.bool true,.list true (ts.map b9),.list true ((H1 ts (E.take j)).map Ent.row),.list true [[.str [80,101,114,115,111,110]],[.str [67,97,116]],[.str [68,111,103]]],.int .i64 i,.list false (E.map Ent.row),.int .i64 j,.undef,.undef,.undef,.undef]) (m:=E.length) ⟨rfl,0,by omega,rfl,rfl⟩ ?_;rintro mm fr st' ⟨rfl,j,hj,rfl,rfl⟩;simp only[K3,rE,List.length_map];by_cases J:j < E.length
 · have e1:=a7C J;have Z:H1 ts (E.take (j+1))=H1 ts (E.take j)++if k9 ts E[j].t then [E[j]]else []:=by rw[List.take_add_one,List.getElem?_eq_getElem J];unfold H1;rw[List.filter_append];simp only[Option.toList_some,List.filter_cons,List.filter_nil]
   have b7:(H1 ts (E.take j)).length≤12:=Nat.le_trans (List.length_filter_le _ _) (by rw[List.length_take]; omega);have a5:l5 4 ((H1 ts (E.take j)).map Ent.row)=true:=B3 fun r hr=>by obtain⟨v,_,rfl⟩:=List.mem_map.1 hr;rfl
   revert e1 Z;generalize E[j]=x;intro e1 Z;have ex:x.row=[.str x.t,.str x.id,.list false (x.ks.map b9),.list false (x.ls.map Val.row)]:=rfl;rw[ex]at e1;generalize H1 ts (E.take j)=acc at b7 a5 Z ⊢;simp only[K3,rA,rE,J,e1];refine wa (Z5 ts (by omega) x.t _) rfl rfl ?_;rintro _ _ ⟨rfl,rfl⟩;rcases e8 (k9 ts x.t)with c|c
   · simp only[K3,rA,rE,c,e1,a5,List.length_map,k7 (show j+1 < 2 ^ 63 by omega),show(acc.length+1)*80≤2 ^ 47 by omega];exact wd (m':=E.length - (j+1)) (by omega) ⟨rfl,j+1,J,rfl,by rw[Z,c,if_pos rfl,List.map_append]; rfl⟩
   · simp only[K3,rE,c,k7 (show j+1 < 2 ^ 63 by omega)];exact wd (m':=E.length - (j+1)) (by omega) ⟨rfl,j+1,J,rfl,by rw[Z,c,if_neg (by decide),List.append_nil]⟩
 simp only[SS,J];rw[List.take_of_length_le (by omega)];refine we ?_;simp only[K3,rA,rL,rE];have hE:ofE E=E:=b8P E Y;refine wa (b9W E (by omega) st') rfl rfl ?_;rintro _ st2 ⟨v0,rfl,a0,d3⟩;rw[hE]at a0;have a9:=d2.trans d3;obtain⟨w1,w2,w3,w4,w5,w6,w7⟩:=a0.wk;have a7:∀ w,(EK D E v0 w).Fine:=fun w=>⟨by show E.length≤_; omega,fun e he v hv=>((a2 e he).sm v hv).fin⟩
 have u:=b7K in0 (sch0.gr a9) hD a0 true (tv:=.list false []) ⟨rfl,rfl,rfl⟩ (E:=EK D E v0) (fun ks ls h1 h2 B' O=>d3j hD (a9.trans O) (a0.gr O) Y U (fun e h=>(a2 e h).x) ks ls h1 h2) (fun w=>⟨rfl,rfl,rfl,rfl,rfl,rfl,rfl,rfl,rfl,rfl,rfl⟩);have hF:=c1X (T:=T0) (so:=52) (D:=D) a7;have I:=c0w (T:=T0) (so:=52) (D:=D) (E:=EK D E v0);have C:=fun v1=>c6K (T:=T0) (so:=52) (D:=D) fun w=>c6f D ts Y v0 v1 w
 revert u hF I C;generalize a0K T0 52 D (EK D E v0)=R;obtain⟨e,X,ps⟩:=R;intro u hF I C;unfold Docm.row a0R at u;dsimp only at hF I;simp only[SS,rA,rL,w2];refine wa u (by simp only[R.allPlain_c,R.allPlain_n,R.plain_agg]; rfl) (by simp only[List.map_cons,List.map_nil,R4,w2]; rfl) ?_;rintro _ e2 ⟨d4,pv,rfl,b5,b4,b6⟩;dsimp only at b5 b4 b6;obtain⟨u1,u2,u3,u4,u5,u6,u7⟩:=b5.wk;unfold a1G;dsimp only;simp only[K3,rA,rL,rE];have c6:=a4T (ts:=ts) Y;have b7:(H1 ts E).length≤12:=Nat.le_trans (List.length_filter_le _ _) U;have d7:∀ e∈H1 ts E,e.Good:=fun e he=>a2 e (List.mem_filter.1 he).1
 have c8:=a9.trans d4;refine wa (b9W (H1 ts E) (by omega) e2) rfl rfl ?_;rintro _ e5 ⟨v1,rfl,a1,c1⟩;rw[b8P _ c6]at a1;have C:=C v1;have b0:=c8.trans c1;obtain⟨y1,y2,y3,y4,y5,y6,y7⟩:=a1.wk;have u:=b7K in0 (sch0.gr b0) hD a1 false (tv:=.list false (ts.map b9)) ⟨rfl,rfl,rfl⟩ (E:=ET D ts (H1 ts E) v1) (fun ks ls h1 h2 B' O=>d15 hD (b0.trans O) (a1.gr O) c6 b7 (fun e h=>(d7 e h).x) ts (by omega) ks ls h1 h2) (fun w=>⟨rfl,rfl,rfl,rfl,rfl,rfl,rfl,rfl,rfl,rfl,rfl⟩);revert u C;generalize a0K T0 52 D (ET D ts (H1 ts E) v1)=R;obtain⟨e',X',e0⟩:=R;intro C u;unfold Docm.row a0R at u;simp only[SS,rA,y2];refine wa u (by simp only[R.allPlain_c,R.allPlain_n,R.plain_agg]; rfl) (by simp only[List.map_cons,List.map_nil,R4,y2]; rfl) ?_;rintro _ e3 ⟨c2,b8,rfl,W,_,_⟩;dsimp only at W;obtain⟨z1,z2,z3,z4,z5,z6,z7⟩:=W.wk;unfold a1G;dsimp only;simp only[K3,rA,rL,rE];have d0:=b0.trans c2;refine wa (b9W (H1 ts E) (by omega) e3) rfl rfl ?_;rintro _ e6 ⟨v2,rfl,c7,b1⟩;obtain⟨x1,x2,x3,x4,x5,x6,x7⟩:=c7.wk;simp only[K3,rA,x2];have d1:=d0.trans b1;have M:=b5.gr ((c1.trans c2).trans b1);have N:=W.gr b1;clear u a1 c7 a0 a7;refine wg (fun mm fr st'=>Gr a6Y st'∧ProbAt pv ps st'∧ProbAt b8 e0 st'∧∃ k:Nat,k≤3∧mm=3 - k∧fr=[.list false (l.map Thg.row),.str text,.int .u8 z,.bool false,.ptr 52 0,.ptr 80 0,.box [.list false (D.ops.map Op.row),.list false (D.frags.map Frag.row)],.bool true,.list true (ts.map b9),.list true ((H1 ts E).map Ent.row),.list true [[.str [80,101,114,115,111,110]],[.str [67,97,116]],[.str [68,111,103]]],.int .i64 i,.list false (E.map Ent.row),.int .i64 j,.box [.int .i64 e,.int .u8 X.kind,.int .i64 X.num,.str X.text,.list false (X.names.map b9),.list false (X.vals.map Val.row),pv],.box [.int .i64 e',.int .u8 X'.kind,.int .i64 X'.num,.str X'.text,.list false (X'.names.map b9),.list false (X'.vals.map Val.row),b8],.box [v2,.bool false,.list false (ts.map b9)],.int .i64 k]) (m:=3) ⟨d1,M,N,0,by decide,rfl,rfl⟩ ?_;rintro mm fr st8 ⟨c0,M,N,k,hk,rfl,rfl⟩;have h3:ltI (k:Int) 3=decide (k < 3):=ltN k 3;by_cases b3:k < 3
 · obtain⟨n,hn,c4⟩:=b86 b3;have c3:=b1G (sch0.gr c0).sch (v:=v2) (by first|exact⟨x1,x2,x3,x4⟩|exact⟨x2,x1,x3,x4⟩) ts (by omega) n (by rw[c4]; exact Nat.succ_le_succ (Nat.zero_le _));have e1:U1 ts (J0 T0 n)=k9 ts n:=by rw[c4]; simp[U1]
   rw[e1]at c3;simp only[K3,rA,rE,h3,b3,hn,x2];refine wa c3 (by simp only[R.allPlain_c,R.allPlain_n,R.plain_agg]; rfl) (by simp only[List.map_cons,List.map_nil,R4,x2]; rfl) ?_;rintro _ e7 ⟨b2,rfl⟩;simp only[SS];refine wa (Z5 ts (by omega) n _) rfl rfl ?_;rintro _ _ ⟨rfl,rfl⟩;simp only[K3,rE,beq_self_eq_true,k7 (show k+1 < 2 ^ 63 by omega)];exact wd (m':=3 - (k+1)) (by omega) ⟨c0.trans b2,M.gr b2,N.gr b2,k+1,by omega,rfl,rfl⟩
 simp only[K3,rE,h3,b3];refine we ?_;rcases e8 (eqI e' 11)with c|c
 · simp only[K3,rA,rE,c];exact wc ⟨_,_,rfl,rfl⟩
 have a6:∃ b:Bool,EvQ tbl 20 [a1G e X pv,a1G e' X' b8] st8 (fun a st'=>st'=st8∧a=.bool b)∧(b=true∨e'=2):=by
  rcases C with h|h|h
  · rw[show e'=11 from h]at c; cases c
  · cases h;exact⟨true,b0f e hF b4 b6 M N,.inl rfl⟩
  · cases h;rcases e8 (eqI e 2)with d|d
    · have d:e=2:=by rw[eqI_eq]at d; simpa using d
      subst d;cases I rfl;exact⟨true,b0f 2 hF b4 b6 M N,.inl rfl⟩
    · exact⟨false,b43 d _ _ M N,.inr rfl⟩
 obtain⟨b,a6,hb⟩:=a6;unfold a1G at a6;simp only[K3,rA,rE,c,u2,z2];refine wa a6 (by simp only[R.allPlain_c,R.allPlain_n,R.plain_agg]; rfl) (by simp only[List.map_cons,List.map_nil,R4,u2,z2]; rfl) ?_;rintro _ _ ⟨rfl,rfl⟩;cases b with
 | true =>simp only[SS];exact wc ⟨_,_,rfl,rfl⟩
 | false =>
  rcases hb with h|rfl
  · cases h
  rcases e8 (eqI e 2)with d|d
  · simp only[SS,d];exact wc ⟨_,_,rfl,rfl⟩
  · simp only[SS,d,show eqI 2 2=true from rfl];exact wc ⟨_,_,rfl,rfl⟩
end Go.Cb.CodeA
