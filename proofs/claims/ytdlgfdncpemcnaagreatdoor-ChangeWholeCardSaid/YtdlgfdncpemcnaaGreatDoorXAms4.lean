import Derived.Test.YtdlgfdncpemcnaaGreatDoorXAms3
import Derived.Test.YtdlgfdncpemcnaaGreatDoorXAms2
import Derived.Defers
import Derived.Laws.CopyRow
import Derived.Laws.Externs
import Derived.Test.YtdlgfdncpemcnaaGreatDoorXAms1
set_option maxRecDepth 4000
set_option linter.all false
namespace Go.Cb
open Classical
section
variable {L:Nat} {ext:St} {call:d8} {as:List AV} {bx:AV} {st:St}
theorem d0R {l:Nat} {z:List AV} {j ok:Bool} (E:I7 z=true) (x:L≤st.length):SemSh L ext (Q7 l z j ok call) as bx st:=SemSh.of x fun r b s h=>by
 have u:z.map (AV.sh L ext.length)=z:=by rw[← m2,E2 _ _ _ E]
 have key:∀ (k:AV) (es:List (AV×AV)),(match D6 l k es 0 with
  | some r=>match (match r with|some (_,v)=>some v|none=>j0 j z.length z)with
   | some v=>some (if ok then AV.tuple [v,.bool r.isSome]else v,bx,st)
   | none=>none
  | none=>none)=some (r,b,s)→s=st∧(match D6 l (k.sh L ext.length) (es.map fun e=>(e.1.sh L ext.length,e.2.sh L ext.length)) 0 with
  | some r=>match (match r with|some (_,v)=>some v|none=>j0 j z.length z)with
   | some v=>some (if ok then AV.tuple [v,.bool r.isSome]else v,bx.sh L ext.length,shS L ext st)
   | none=>none
  | none=>none)=some (r.sh L ext.length,b.sh L ext.length,shS L ext st):=by
  intro k es h;rw[a5R];cases y:D6 l k es 0 with
  | none=>rw[y]at h; cases h
  | some o =>
   rw[y]at h;cases o with
   | some p =>obtain⟨i,v⟩:=p;dsimp only[AN]at h ⊢;cases h;refine⟨rfl,?_⟩;cases ok<;>rfl
   | none =>
    dsimp only[AN,Option.map_none]at h ⊢;have t:=H3 (L:=L) (d:=ext.length) j z.length z;rw[u]at t;cases B:j0 j z.length z with
    | none=>rw[B]at h; cases h
    | some v =>
     rw[B]at h t;have e:v.sh L ext.length=v:=by simpa using t.symm
     dsimp only at h ⊢;cases h;refine⟨rfl,?_⟩;cases ok
     · simp only[Bool.false_eq_true,if_false,e]
     · simp only[if_true,AV.sh,I8,e]
 unfold Q7 at h ⊢;dsimp only at h ⊢;split at h
 · rename_i k;exact key k [] h
 · rename_i o k;split at h
   · rename_i es D;simp only[AG,AL,AV.sh,c0v x D];exact key k es h
   · cases h
 · cases h
theorem d34 {l:Nat} (j:L≤st.length):SemSh L ext (R1 l call) as bx st:=by
 rintro⟨r,b,s⟩ h;unfold R1 at h;split at h
 · rename_i o k v;split at h
   · rename_i x;split at h
     · rename_i es u;simp only[R1,AG,AL,AV.sh,M2,x,if_true,c0v j u,a5R];cases t:D6 l k es 0 with
       | none=>rw[t]at h; cases h
       | some q =>
        rw[t]at h;cases q with
        | some p =>obtain⟨i,w⟩:=p;dsimp only[AN]at h ⊢;cases h;refine⟨?_,by simpa using j⟩;simp only[shR,Z6 j,Obj.sh,List.map_set,U3];rfl
        | none =>
         dsimp only[AN,Option.map_none]at h ⊢;rw[b0x];cases hk:K9 l k k with
         | none=>rw[hk]at h; cases h
         | some e =>rw[hk]at h;simp only[Option.bind_some]at h ⊢;cases h;refine⟨?_,by simpa using j⟩;simp only[shR,Z6 j,Obj.sh,AR,AG,AL,U3];rfl
     · cases h
   · cases h
 · cases h
theorem e1x {i:Nat} (j:L≤st.length):SemSh L ext (M7 i call) as bx st:=SemSh.of j fun r b s h=>by
 unfold M7 at h;split at h
 · split at h
   · rename_i v l;cases h;refine⟨rfl,?_⟩;simp only[M7,AG,AL,AV.sh,m2,AQ,l,AN,U3]
   · cases h
 · cases h
theorem b1I {f:Nat} (x:U7 L ext call) (u:L≤st.length):SemSh L ext (n6 f call) as bx st:=by
 rintro⟨r,b,s⟩ h;unfold n6 at h ⊢;split at h
 · rename_i y;obtain⟨⟨v,z⟩,i,j⟩:=q7 h;cases j;obtain⟨l,t⟩:=x _ _ _ _ _ u i;refine⟨?_,t⟩;rw[a0l,if_pos y,← a5I,l];rfl
 · cases h
theorem b7c (z:U7 L ext call) (y:L≤st.length):SemSh L ext (D5 call) as bx st:=by
 rintro⟨r,b,s⟩ h;unfold D5 at h;split at h
 · rename_i f first i j
   split at h
   · rename_i B;obtain⟨⟨v,D⟩,l,t⟩:=q7 h;cases t;obtain⟨u,x⟩:=z _ _ _ _ _ y l;refine⟨?_,x⟩;simp only[D5,AG,AV.sh,m2];rw[a0l,if_pos B,← AR,← AR,← a5I,u];rfl
   · cases h
 · cases h
theorem b8u {f m:Nat} (y:U7 L ext call) (t:L≤st.length):SemSh L ext (C5 f m call) as bx st:=by
 rintro⟨r,b,s⟩ h;unfold C5 at h ⊢;cases j:n6 f call (as.take m) bx st with
 | none=>rw[j]at h; cases h
 | some x =>
  obtain⟨v,b',z⟩:=x;rw[j]at h;dsimp only at h;obtain⟨u,l⟩:=b1I y t _ j;split at h
  · rename_i hk;cases h;refine⟨?_,l⟩;rw[← List.map_take,u,← List.map_drop];have i:=b1J (L:=L) (ext:=ext) t l _ hk;simp only[shR];exact if_pos i
  · cases h
theorem c4R (i:L≤st.length):SemSh L ext (N7 call) as bx st:=SemSh.of i fun r b s h=>by unfold N7 at h;split at h<;>first|(cases h; exact⟨rfl,rfl⟩)|cases h
theorem c7k (i:L≤st.length):SemSh L ext (G2 call) as bx st:=SemSh.of i fun r b s h=>by
 unfold G2 at h;split at h
 · cases h; exact⟨rfl,by simp only[G2,AG,AL,AV.sh,x8,AF]⟩
 · cases h; exact⟨rfl,rfl⟩
 · cases h; exact⟨rfl,rfl⟩
 · cases h
theorem f3f {n b':Nat} (i:L≤st.length):SemSh L ext (Q3 n b' call) as bx st:=SemSh.of i fun r b s h=>by
 unfold Q3 at h;split at h
 · split at h
   · rename_i j;cases h;refine⟨rfl,?_⟩;simp only[Q3,AG,AL,AV.sh,x8,O4,AF];rw[if_pos j,AR]
   · cases h
 · cases h
theorem c2x {n b':Nat} (j:L≤st.length):SemSh L ext (B8 n b' call) as bx st:=by
 rintro⟨r,b,s⟩ h;unfold B8 at h;split at h
 · split at h
   · rename_i i;cases h;refine⟨?_,by simp; omega⟩;have l:=a0a (L:=L) (ext:=ext) j none _ i.2.2.2;simp only[Option.map_none]at l;simp only[B8,AG,AV.sh,x8,List.isEmpty_map,O4,AF,AL];rw[if_pos ⟨i.1,i.2.1,i.2.2.1,l⟩];simp only[shR,AV.sh,N5 j,J8 j,Obj.sh,a0V]
   · cases h
 · split at h
   · rename_i i;cases h;refine⟨?_,by simp; omega⟩;have l:=a0a (L:=L) (ext:=ext) j none _ i.2.2.2;simp only[Option.map_none]at l;simp only[B8,AG,AV.sh,x8,List.isEmpty_map,O4,AF];rw[if_pos ⟨i.1,i.2.1,i.2.2.1,l⟩];simp only[shR,AV.sh,N5 j,J8 j,Obj.sh,a0V]
   · cases h
 · split at h
   · rename_i i;cases h;refine⟨?_,j⟩;have l:=a0a (L:=L) (ext:=ext) j none _ i;simp only[Option.map_none]at l;simp only[B8,AG,AV.sh];rw[if_pos l];simp only[shR,AV.sh]
   · cases h
 · rename_i o k u ys gs;split at h
   · rename_i xs t;split at h
     · rename_i i;cases h;refine⟨?_,by simp; omega⟩;have l:=a0a (L:=L) (ext:=ext) j (some o) _ i.2.2.2.2.2;simp only[AN]at l;simp only[B8,AG,AV.sh,x8,List.isEmpty_map,O4,AF,U0 j t];rw[if_pos ⟨i.1,i.2.1,i.2.2.1,i.2.2.2.1,i.2.2.2.2.1,l⟩];simp only[shR,AV.sh,N5 (st:=st.set o .dead) (by simpa using j),Z6 j,J8 j,Obj.sh,a0V,AR]
     · cases h
   · cases h
 · cases h
theorem c6k {b':Nat} (j:L≤st.length):SemSh L ext (U5 b' call) as bx st:=SemSh.of j fun r b s h=>by
 unfold U5 at h;split at h
 · rename_i xs;split at h
   · rename_i i;cases h;refine⟨rfl,?_⟩;simp only[U5,AG,AL,AV.sh,x8,O4,AF];rw[if_pos i]
   · cases h
 · rename_i xs o n;split at h
   · rename_i cs l;split at h
     · rename_i i;cases h;refine⟨rfl,?_⟩;simp only[U5,AG,AL,AV.sh,x8,O4,AF,U0 j l];rw[if_pos i];simp only[shR,AV.sh,x8,AR,List.map_map];rfl
     · cases h
   · cases h
 · cases h
theorem f4T (l:L≤st.length):SemSh L ext (Q2 call) as bx st:=SemSh.of l fun r b s h=>by
 unfold Q2 at h;split at h
 · obtain⟨a,i,j⟩:=q7 h;cases j;refine⟨rfl,?_⟩;simp only[Q2,AG,AL,AV.sh,x8,a6u,i,AN]
 · cases h
theorem b9w {n:Nat} {i:Bool} (t:L≤st.length):SemSh L ext (C0 i n call) as bx st:=by
 rintro x h;unfold C0 at h;split at h
 · rename_i o off r;split at h
   · rename_i p v;split at h
     · rename_i u;obtain⟨j,l⟩:=b19 (call:=call) t _ h;refine⟨?_,l⟩;have e:o=p:=by simpa using u
       subst e;simp only[C0,AG,AL,AV.sh,a1O,v,AN];rw[if_pos (by simp)];exact j
     · cases h
   · cases h
 · cases h
theorem b56 {n:Nat} (t:L≤st.length):SemSh L ext (C8 n call) as bx st:=by
 rintro x h;unfold C8 at h;split at h
 · rename_i o off p f;split at h
   · rename_i i;obtain⟨j,l⟩:=a8G (call:=call) t _ h;refine⟨?_,l⟩;have e:o=p:=by simpa using i.1
     subst e;simp only[C8,AG,AL,AV.sh];rw[if_pos ⟨by simp,i.2⟩];exact j
   · cases h
 · cases h
theorem b9O {n:Nat} (i:L≤st.length):SemSh L ext (C4 n call) as bx st:=by
 rintro x h;unfold C4 at h;split at h
 · rename_i o off y r gs;split at h
   · rename_i p v;split at h
     · rename_i l;obtain⟨t,u⟩:=b1N (call:=call) i _ h;refine⟨?_,u⟩;have e:o=p:=by simpa using l.1
       subst e;have j:=a0a (L:=L) (ext:=ext) i (some o) _ l.2;simp only[C4,AG,AV.sh,a1O,v,AN]at j ⊢;rw[if_pos ⟨by simp,j⟩];exact t
     · cases h
   · cases h
 · cases h
theorem e2I {k:Kind} (hk:k.shut=true) (j:U7 L ext call) (i:L≤st.length):SemSh L ext (sem k call) as bx st:=by
 cases k
 case mv=>exact g0L (call:=call) i
 case pick=>exact d1W (call:=call) i
 case nilchk=>exact b5a (call:=call) i
 case alloc z=>exact b7G (call:=call) hk i
 case allocO z=>exact b55 (call:=call) hk i
 case boxV=>exact c6X (call:=call) i
 case boxO=>exact c9R (call:=call) i
 case build z o=>exact b8T (call:=call) hk i
 case bslice n z a=>exact b66 (call:=call) hk i
 case bsliceM n z a=>exact b4B (call:=call) hk i
 case bsliceO n z a=>exact b4R (call:=call) hk i
 case min2=>exact d0t (call:=call) i
 case stuck=>intro r h; cases h
 case eqIS neg=>exact c5Q (call:=call) i
 case ldLc=>exact c0F (call:=call) i
 case ldSt=>exact b19 (call:=call) i
 case ldRo=>exact c6A (call:=call) i
 case ldAn=>exact c7A (call:=call) i
 case ldLcS=>exact b8s (call:=call) i
 case ldStS=>exact a8G (call:=call) i
 case ldStR=>exact b9w (call:=call) i
 case ldStSR=>exact b56 (call:=call) i
 case stStA=>exact b9O (call:=call) i
 case callA=>exact b8u (call:=call) j i
 case stLc=>exact d1j (call:=call) i
 case stSt=>exact b1N (call:=call) i
 case fad=>exact e7Z (call:=call) i
 case fld=>exact e85 (call:=call) i
 case iad=>exact f21 (call:=call) i
 case iadA=>exact c5B (call:=call) i
 case idxS=>exact c62 (call:=call) i
 case slS=>exact f0C (call:=call) i
 case slL=>exact e8x (call:=call) i
 case slZ=>exact f2W (call:=call) i
 case slA=>exact f1w (call:=call) i
 case bin=>exact e0f (call:=call) i
 case binB=>exact d3Y (call:=call) i
 case binP=>exact c0T (call:=call) i
 case un=>exact g11 (call:=call) i
 case conv=>exact d25 (call:=call) i
 case mkF=>exact e2H (call:=call) i
 case mkM=>exact f27 (call:=call) i
 case mget=>exact d0R (call:=call) hk i
 case mset=>exact d34 (call:=call) i
 case ext=>exact e1x (call:=call) i
 case call=>exact b1I (call:=call) j i
 case callV=>exact b7c (call:=call) j i
 case lenS=>exact c4R (call:=call) i
 case lenL=>exact c7k (call:=call) i
 case app=>exact f3f (call:=call) i
 case appM=>exact c2x (call:=call) i
 case appA=>exact c6k (call:=call) i
 case b2s=>exact f4T (call:=call) i
end
def Opd.shut:Opd→Bool
 | .c a=>a.shut
 | _=>true
def AOper.shut (o:AOper):Bool:=o.kind.shut && o.args.all Opd.shut && (match o.guard with|some (x,_)=>x.shut|none=>true)
def ACode.shut:ACode→Bool
 | .reg _ ops=>ops.all AOper.shut
 | .test _ ops c a b=>ops.all AOper.shut && c.shut && a.shut && b.shut
 | .seq a b=>a.shut && b.shut
 | .blk _ a=>a.shut
 | .loop a=>a.shut
 | .either _ a b=>a.shut && b.shut
 | _=>true
section
variable {L:Nat} {ext:St} {call:d8}
def Sig.sh (L:Nat) (ext:St) (σ:Sig):Sig:=⟨σ.fr.map (AV.sh L ext.length),fun j=>(σ.τ j).sh L ext.length,shS L ext σ.st⟩
theorem T6 {d:Nat} (fr:List AV) (i:Nat):(fr.map (AV.sh L d)).getD i AV.undef=(fr.getD i AV.undef).sh L d:=by simp only[List.getD_eq_getElem?_getD,AQ];cases fr[i]?<;>rfl
theorem a6S {x:Opd} (j:x.shut=true) (σ:Sig):x.read (σ.sh L ext)=(x.read σ).sh L ext.length:=by
 cases x with
 | t s=>exact(U3 _).symm
 | ts s=>rfl
 | v i=>show((σ.fr.map _).getD i AV.undef).weak=_; rw[T6,← U3]; rfl
 | vs i=>exact T6 _ _
 | l i =>show(match (σ.fr.map _).getD i AV.undef with|.box _=>AV.loc i 0|_=>AV.undef)=(match σ.fr.getD i AV.undef with|.box _=>AV.loc i 0|_=>AV.undef).sh L ext.length;rw[T6];cases σ.fr.getD i AV.undef<;>rfl
 | c a=>exact(a7F _ _ _ j).symm
theorem b9R (x:Opd) (σ:Sig):x.spend (σ.sh L ext)=(x.spend σ).sh L ext:=by
 cases x with
 | ts s =>
  show Sig.mk _ _ _=Sig.mk _ _ _;congr 1;funext j;show q9 _ _ _ _=(q9 _ _ _ _).sh L ext.length;unfold q9;split
  · exact(U3 _).symm
  · rfl
 | vs i =>show Sig.mk _ _ _=Sig.mk _ _ _;congr 1;show(σ.fr.map _).set i ((σ.fr.map _).getD i AV.undef).weak=(σ.fr.set i (σ.fr.getD i AV.undef).weak).map _;rw[T6,List.map_set,U3]
 | _=>rfl
theorem a5h:∀ (xs:List Opd) (σ:Sig),d9 xs (σ.sh L ext)=(d9 xs σ).sh L ext
 | [],_=>rfl
 | x::xs,σ=>by rw[d9,d9,b9R,a5h xs]
theorem b0b (d:Dst) (a:AV) (σ:Sig):d.put (a.sh L ext.length) (σ.sh L ext)=(d.put a σ).sh L ext:=by
 cases d with
 | none=>rfl
 | bx=>rfl
 | t s =>
  show Sig.mk _ _ _=Sig.mk _ _ _;congr 1;funext j;show q9 _ _ _ _=(q9 _ _ _ _).sh L ext.length;unfold q9;split
  · exact(b6Y _).symm
  · rfl
 | v i =>show Sig.mk _ _ _=Sig.mk _ _ _;congr 1;show(σ.fr.map _).set i (a.sh L ext.length).strip=(σ.fr.set i a.strip).map _;rw[List.map_set,b77]
theorem a8P:∀ {xs:List Opd},xs.all Opd.shut=true→∀ σ:Sig,xs.map (·.read (σ.sh L ext))=(xs.map (·.read σ)).map (AV.sh L ext.length)
 | [],_,_=>rfl
 | x::xs,h,σ=>by simp only[List.all_cons,AA]at h;rw[AG,AG,AG,a6S h.1,a8P h.2]
theorem b1K (z:U7 L ext call) {o:AOper} (j:o.shut=true) {σ σ':Sig} (v:L≤σ.st.length) (h:y9 call o σ=some σ'):y9 call o (σ.sh L ext)=some (σ'.sh L ext)∧L≤σ'.st.length:=by
 have l:∀ (d:Dst) (a:AV) (σ:Sig),(d.put a σ).st=σ.st:=fun d a σ=>by cases d<;>rfl
 unfold AOper.shut at j;simp only[AA]at j;obtain⟨⟨hk,x⟩,_⟩:=j;obtain⟨r,b,s,hs,rfl⟩:=l6 h;have y:q8 o (σ.sh L ext)=(q8 o σ).sh L ext.length:=by
  unfold q8;cases o.box with
  | none=>rfl
  | some i=>exact T6 _ _
 obtain⟨t,u⟩:=e2I (L:=L) (ext:=ext) hk z v _ hs;rw[← a8P x,← y]at t;refine⟨?_,by rw[l]; exact u⟩;rw[a01 t,a5h];refine congrArg some (Eq.trans ?_ (b0b (L:=L) (ext:=ext) o.dst r _));refine congrArg (o.dst.put _) ?_;show Sig.mk _ _ _=Sig.mk _ _ _;congr 1;cases o.box with
 | none=>rfl
 | some i=>exact List.map_set.symm
theorem b5I (u:U7 L ext call) {o:AOper} (i:o.shut=true) {σ σ':Sig} (l:L≤σ.st.length) (h:i7 call o σ=some σ'):i7 call o (σ.sh L ext)=some (σ'.sh L ext)∧L≤σ'.st.length:=by
 have j:∀ (d:Dst) (a:AV) (σ:Sig),(d.put a σ).st=σ.st:=fun d a σ=>by cases d<;>rfl
 unfold i7 at h ⊢;cases hg:o.guard with
 | none=>rw[hg]at h; exact b1K u i l h
 | some B =>
  obtain⟨x,w⟩:=B;rw[hg]at h;have z:x.shut=true:=by unfold AOper.shut at i;simp only[AA,hg]at i;exact i.2
  dsimp only at h ⊢;rw[a6S z];cases y:x.read σ<;>rw[y]at h<;>try cases h
  · dsimp only[AV.sh]at h ⊢;split at h
    · rename_i t; rw[if_pos t]; exact b1K u i l h
    · rename_i t; rw[if_neg t]; cases h; exact⟨congrArg some (b0b (ext:=ext) o.dst (.tuple []) σ),by rw[j]; exact l⟩
  · rename_i vs;cases vs with
    | nil=>dsimp only at h; cases h; exact⟨congrArg some (b0b (ext:=ext) o.dst (.tuple []) σ),by rw[j]; exact l⟩
    | cons v vs=>cases h
theorem a3Q (i:U7 L ext call):∀ {os:List AOper},os.all AOper.shut=true→∀ {σ σ':Sig},L≤σ.st.length→g9 call os σ=some σ'→g9 call os (σ.sh L ext)=some (σ'.sh L ext)∧L≤σ'.st.length
 | [],_,σ,σ',hL,h=>by simp only[g9]at h ⊢; cases h; exact⟨rfl,hL⟩
 | o::os,ho,σ,σ',hL,h=>by
  simp only[List.all_cons,AA]at ho;simp only[g9]at h ⊢;cases hs:i7 call o σ with
  | none=>rw[hs]at h; cases h
  | some σ1 =>rw[hs]at h;obtain⟨j,l⟩:=b5I i ho.1 hL hs;rw[j];exact a3Q i ho.2 l h
theorem a0N {d:Nat}:∀ (is:List Nat) (fr:List AV),i6 is (fr.map (AV.sh L d))=(i6 is fr).map (AV.sh L d)
 | [],_=>rfl
 | i::is,fr=>by rw[i6,i6,← a0N is,List.map_set];rfl
def X8 (L:Nat) (ext:St) (o:Out):Out:=(o.1,o.2.1.map (AV.sh L ext.length),shS L ext o.2.2)
theorem b1U {body:List AV→St→Option Out} (l:∀ fr st o,L≤st.length→body fr st=some o→body (fr.map (AV.sh L ext.length)) (shS L ext st)=some (X8 L ext o)∧L≤o.2.2.length) :
 ∀ (n:Nat) {fr:List AV} {st:St} {o:Out},L≤st.length→E6 body n fr st=some o→E6 body n (fr.map (AV.sh L ext.length)) (shS L ext st)=some (X8 L ext o)∧L≤o.2.2.length
 | 0,_,_,_,_,h=>by simp[E6]at h
 | n+1,fr,st,o,v,h=>by
  simp only[E6]at h ⊢;cases j:body fr st with
  | none=>rw[j]at h; cases h
  | some x =>
   obtain⟨e,t,y⟩:=x;rw[j]at h;obtain⟨u,i⟩:=l _ _ _ v j;rw[u];cases e with
   | normal=>exact b1U l n i h
   | exit id=>cases h; exact⟨rfl,i⟩
   | ret=>cases h; exact⟨rfl,i⟩
theorem N0 (t:U7 L ext call) (n:Nat):∀ {x:ACode},x.shut=true→∀ {fr:List AV} {st:St} {o:Out},L≤st.length→exec call n x fr st=some o→exec call n x (fr.map (AV.sh L ext.length)) (shS L ext st)=some (X8 L ext o)∧L≤o.2.2.length
 | .skip,_,_,_,_,i,h=>by simp only[exec]at h ⊢; cases h; exact⟨rfl,i⟩
 | .exit _,_,_,_,_,i,h=>by simp only[exec]at h ⊢; cases h; exact⟨rfl,i⟩
 | .ret,_,_,_,_,i,h=>by simp only[exec]at h ⊢; cases h; exact⟨rfl,i⟩
 | .reg kill ops,hs,fr,st,o,i,h=>by
  simp only[exec,fL_eq]at h ⊢;cases j:g9 call ops ⟨i6 kill fr,fun _=>.undef,st⟩with
  | none=>simp[j]at h
  | some σ =>
   obtain⟨u,l⟩:=a3Q t hs i j;simp only[j]at h;cases h;have e:(Sig.sh L ext ⟨i6 kill fr,fun _=>.undef,st⟩)=⟨i6 kill (fr.map (AV.sh L ext.length)),fun _=>.undef,shS L ext st⟩:=by rw[a0N]; rfl
   rw[e]at u;rw[u];exact⟨rfl,l⟩
 | .test kill ops c a b,hs,fr,st,o,i,h=>by
  simp only[ACode.shut,AA]at hs;obtain⟨⟨⟨u,l⟩,F⟩,G⟩:=hs;rw[a3Z]at h ⊢;rw[Z0]at h ⊢;cases j:g9 call ops ⟨i6 kill fr,fun _=>.undef,st⟩with
  | none=>rw[j]at h; cases h
  | some σ =>
   obtain⟨k1,k2⟩:=a3Q t u i j;have e:(Sig.sh L ext ⟨i6 kill fr,fun _=>.undef,st⟩)=⟨i6 kill (fr.map (AV.sh L ext.length)),fun _=>.undef,shS L ext st⟩:=by rw[a0N]; rfl
   rw[e]at k1;rw[j,o9]at h;rw[k1,o9,a6S l];unfold br at h ⊢;cases I:c.read σ<;>rw[I]at h<;>try cases h
   rename_i bb;cases bb
   · exact N0 t n G k2 h
   · exact N0 t n F k2 h
 | .either kill a b,hs,fr,st,o,i,h=>by
  simp only[ACode.shut,AA]at hs;simp only[exec]at h ⊢;obtain⟨O,S,D,E,y,M⟩:=a0U h;obtain⟨a1,a2⟩:=N0 t n hs.1 i D;obtain⟨B,N⟩:=N0 t n hs.2 i E;have hk:∀ x:Out,B7 kill (X8 L ext x)=X8 L ext (B7 kill x):=fun x=>by unfold B7 X8;rw[a0N]
  rw[a1,B,a3f (by rw[hk,hk,y,M]),hk,y];refine⟨rfl,?_⟩;rw[← y];exact a2
 | .seq a b,hs,fr,st,o,i,h=>by
  simp only[ACode.shut,AA]at hs;rw[exec_seqK]at h ⊢;cases j:exec call n a fr st with
  | none=>rw[j]at h; cases h
  | some x =>
   obtain⟨e,v,z⟩:=x;obtain⟨u,l⟩:=N0 t n hs.1 i j;rw[j]at h;rw[u];cases e with
   | normal=>exact N0 t n hs.2 l h
   | exit id=>cases h; exact⟨rfl,l⟩
   | ret=>cases h; exact⟨rfl,l⟩
 | .blk id a,hs,fr,st,o,i,h=>by
  simp only[exec]at h ⊢;cases j:exec call n a fr st with
  | none=>rw[j]at h; cases h
  | some x =>
   obtain⟨e,v,z⟩:=x;obtain⟨u,l⟩:=N0 t n (x:=a) hs i j;rw[j]at h;rw[u];cases e with
   | normal=>cases h; exact⟨rfl,l⟩
   | exit J=>cases h; exact⟨rfl,l⟩
   | ret=>cases h; exact⟨rfl,l⟩
 | .loop a,hs,fr,st,o,i,h=>by simp only[exec]at h ⊢;exact b1U (fun fr st o i h=>N0 t n (x:=a) hs i h) n i h
def a0L (e:List AV→St→Option (AV×St)):Prop:=∀ (L:Nat) (ext:St) as st r st',L≤st.length→e as st=some (r,st')→e (as.map (AV.sh L ext.length)) (shS L ext st)=some (r.sh L ext.length,shS L ext st')∧L≤st'.length
def a2M (tbl:Nat→Option AFn):Prop:=∀ f fn,tbl f=some fn→fn.code.shut=true∧∀ e,fn.ext=some e→a0L e
theorem b5o (r:ResK) (fr:List AV) {st:St} (l:L≤st.length):r.get (fr.map (AV.sh L ext.length)) (shS L ext st)=(r.get fr st).map (AV.sh L ext.length):=by
 cases r with
 | po i j n =>
  simp only[ResK.get];rw[T6];cases fr.getD i AV.undef<;>try rfl
  rename_i o off;simp only[AV.sh];rw[T5 l];cases st[o]? with
  | none=>rfl
  | some t =>
   cases t with
   | cells cs=>simp only[AN,Obj.sh,W7,H3]
   | map _=>rfl
   | dead=>rfl
 | v i=>show some _=some _; rw[T6,← U3]
 | vs i=>show some _=some _; rw[T6]
 | bx i j n =>
  simp only[ResK.get];rw[T6];cases fr.getD i AV.undef<;>try rfl
  rename_i cs;simp only[AV.sh,m2,H3]
theorem a0p {st:St} (i:L≤st.length):∀ (rs:List ResK) (fr:List AV),B1 rs (fr.map (AV.sh L ext.length)) (shS L ext st)=(B1 rs fr st).map (·.map (AV.sh L ext.length))
 | [],_=>rfl
 | r::rs,fr=>by rw[B1,B1,b5o r fr i,a0p i rs];cases r.get fr st<;>cases B1 rs fr st<;>rfl
theorem f4s (u:U7 L ext call) (n:Nat) {fn:AFn} (x:fn.code.shut=true) {as:List AV} {st st':St} {r:AV} (t:L≤st.length) (h:fn.run call n as st=some (r,st')):fn.run call n (as.map (AV.sh L ext.length)) (shS L ext st)=some (r.sh L ext.length,shS L ext st')∧L≤st'.length:=by
 have hl:as.length=fn.np:=by
  unfold AFn.run at h;split at h
  · assumption
  · cases h
 rw[S7 _ _ _ _ _ hl]at h;rw[S7 _ _ _ _ _ (by rw[AF]; exact hl)];cases l:exec call n fn.code (as++List.replicate (fn.nv - fn.np) .undef) st with
 | none=>rw[l]at h; cases h
 | some o =>
  obtain⟨e,fr,s⟩:=o;obtain⟨j,i⟩:=N0 u n x t l;rw[l]at h;rw[AR,List.map_replicate]at j;rw[show AV.sh L ext.length .undef=.undef from rfl]at j;rw[j];cases e with
  | exit id=>cases h
  | normal =>
   simp only[finK,X8,a0p (show L≤s.length from i)]at h ⊢;cases hg:B1 fn.results fr s with
   | none=>rw[hg]at h; cases h
   | some vs =>
    rw[hg]at h;match vs,h with
    | [],h=>cases h; exact⟨rfl,i⟩
    | [v],h=>cases h; exact⟨rfl,i⟩
    | v::w::vs,h=>cases h; exact⟨by simp only[AN,AG,AV.sh,m2,I8],i⟩
  | ret =>
   simp only[finK,X8,a0p (show L≤s.length from i)]at h ⊢;cases hg:B1 fn.results fr s with
   | none=>rw[hg]at h; cases h
   | some vs =>
    rw[hg]at h;match vs,h with
    | [],h=>cases h; exact⟨rfl,i⟩
    | [v],h=>cases h; exact⟨rfl,i⟩
    | v::w::vs,h=>cases h; exact⟨by simp only[AN,AG,AV.sh,m2,I8],i⟩
theorem a1n {tbl:Nat→Option AFn} (t:a2M tbl):∀ n,U7 L ext (j9 tbl n)
 | 0,_,_,_,_,_,_,h=>by simp[j9]at h
 | n+1,f,as,st,r,st',l,h=>by
  simp only[j9]at h ⊢;cases i:tbl f with
  | none=>simp[i]at h
  | some fn =>
   simp only[i]at h ⊢;obtain⟨u,v⟩:=t f fn i;cases j:fn.ext with
   | some e=>simp only[j]at h ⊢; exact v e j L ext _ _ _ _ l h
   | none =>simp only[j]at h ⊢;exact f4s (a1n t n) n u l h
theorem Ev.more {tbl:Nat→Option AFn} (j:a2M tbl) {f:Nat} {as:List AV} {st:St} {r:AV} {st':St} (h:Ev tbl f as st r st') (ext:St):Ev tbl f (as.map (AV.sh st.length ext.length)) (shS st.length ext st) (r.sh st.length ext.length) (shS st.length ext st'):=by obtain⟨n,i⟩:=h;exact⟨n,(a1n j n _ _ _ _ _ (AJ _) i).1⟩
end
end Go.Cb
namespace Go.Cb
open Classical
def a0M:ACode→Bool
 | .ret=>false
 | .seq a b|.test _ _ _ a b|.either _ a b=>a0M a && a0M b
 | .blk _ a|.loop a=>a0M a
 | _=>true
def a0g (e:Nat):ACode→Bool
 | .seq a b|.test _ _ _ a b=>a0g e a && a0g e b
 | .blk id a=>!Nat.beq id e && a0g e a
 | .loop a=>a0g e a
 | .either ..=>false
 | _=>true
def L6 (e:Nat):ACode→ACode
 | .exit id=>if Nat.beq id e then .ret else .exit id
 | .seq a b=>.seq (L6 e a) (L6 e b)
 | .test k o c a b=>.test k o c (L6 e a) (L6 e b)
 | .blk id a=>.blk id (L6 e a)
 | .loop a=>.loop (L6 e a)
 | y=>y
def T3 (e:Nat):Ex→Ex
 | .exit id=>if Nat.beq id e then .ret else .exit id
 | x=>x
theorem a6l {b:List AV→St→Option Out} (h:∀ fr st out,b fr st=some out→out.1≠.ret):∀ (n:Nat) (fr:List AV) (st:St) (out:Out),E6 b n fr st=some out→out.1≠.ret
 | 0,_,_,_,i=>by cases i
 | n+1,fr,st,out,i=>by
  rw[E6]at i;split at i
  · exact a6l h n _ _ _ i
  · exact h _ _ _ i
theorem H1 {call:d8} {n:Nat}:∀ (y:ACode) (fr:List AV) (st:St) (out:Out),a0M y=true→exec call n y fr st=some out→out.1≠.ret
 | .skip,fr,st,out,_,i=>by simp only[exec,AC]at i; subst i; simp
 | .exit id,fr,st,out,_,i=>by simp only[exec,AC]at i; subst i; simp
 | .ret,_,_,_,h,_=>by cases h
 | .reg kill ops,fr,st,out,_,i=>by
  simp only[exec]at i;split at i
  · simp only[fL_eq,AC]at i; subst i; simp
  · cases i
 | .test kill ops c a b,fr,st,out,h,i=>by
  simp only[a0M,AA]at h;simp only[exec,fL_eq]at i;split at i
  · split at i
    · exact H1 a _ _ _ h.1 i
    · exact H1 b _ _ _ h.2 i
    · cases i
  · cases i
 | .seq a b,fr,st,out,h,i=>by
  simp only[a0M,AA]at h;rcases G6 i with⟨u,D,_,l⟩|⟨j,_⟩
  · exact H1 b _ _ _ h.2 l
  · exact H1 a _ _ _ h.1 j
 | .blk id a,fr,st,out,h,i=>by
  simp only[exec]at i;split at i
  · simp only[AC]at i;subst i;dsimp only;split<;>simp
  · exact H1 a _ _ _ h i
 | .loop a,fr,st,out,h,i=>by simp only[exec]at i;exact a6l (fun fr st out v=>H1 a fr st out h v) _ _ _ _ i
 | .either kill a b,fr,st,out,h,i=>by simp only[a0M,AA]at h;simp only[exec]at i;obtain⟨B,G,t,E,z,F⟩:=a0U i;subst z;exact fun x=>H1 a fr st B h.1 t x
theorem a6n {e:Nat} {b b':List AV→St→Option Out} (h:∀ fr st out,b fr st=some out→b' fr st=some (T3 e out.1,out.2)):∀ (n:Nat) (fr:List AV) (st:St) (out:Out),E6 b n fr st=some out→E6 b' n fr st=some (T3 e out.1,out.2)
 | 0,_,_,_,i=>by cases i
 | n+1,fr,st,out,i=>by
  rw[E6]at i;rw[E6];split at i
  · rename_i j t l;rw[h _ _ _ l];exact a6n h n _ _ _ i
  · rename_i l;rw[h _ _ _ i];obtain⟨x,j,t⟩:=out;cases x with
    | normal=>exact absurd i (l _ _)
    | ret=>rfl
    | exit id =>
     dsimp only[T3];by_cases u:Nat.beq id e=true
     · simp only[u,if_true]
     · simp only[u,if_false,Bool.false_eq_true]
theorem F0 {e:Nat} {call:d8} {n:Nat}:∀ (y:ACode) (fr:List AV) (st:St) (out:Out),a0g e y=true→exec call n y fr st=some out→exec call n (L6 e y) fr st=some (T3 e out.1,out.2)
 | .skip,fr,st,out,_,i=>by simp only[exec,AC]at i; subst i; rfl
 | .ret,fr,st,out,_,i=>by simp only[exec,AC]at i; subst i; rfl
 | .exit id,fr,st,out,_,i=>by simp only[exec,AC]at i;subst i;simp only[L6,T3];split<;>simp[exec]
 | .reg kill ops,fr,st,out,_,i=>by
  rw[L6,i];simp only[exec]at i;split at i
  · simp only[fL_eq,AC]at i; subst i; rfl
  · cases i
  all_goals simp
 | .test kill ops c a b,fr,st,out,h,i=>by
  simp only[a0g,AA]at h;simp only[exec,fL_eq]at i;simp only[L6,exec,fL_eq];split at i
  · split at i
    · exact F0 a _ _ _ h.1 i
    · exact F0 b _ _ _ h.2 i
    · cases i
  · cases i
 | .seq a b,fr,st,out,h,i=>by
  simp only[a0g,AA]at h;rw[L6,exec];rcases G6 i with⟨t,u,z,v⟩|⟨z,F⟩
  · rw[F0 a _ _ _ h.1 z];exact F0 b _ _ _ h.2 v
  · rw[F0 a _ _ _ h.1 z];obtain⟨x,t,u⟩:=out;cases x with
    | normal=>exact absurd rfl F
    | ret=>rfl
    | exit id =>
     dsimp only[T3];by_cases l:Nat.beq id e=true
     · simp only[l,if_true]
     · simp only[l,if_false,Bool.false_eq_true]
 | .blk id a,fr,st,out,h,i=>by
  simp only[a0g,AA,Bool.not_eq_true']at h;simp only[exec]at i;rw[L6,exec];split at i
  · rename_i j t u D;simp only[AC]at i;subst i;rw[F0 a _ _ _ h.2 D];dsimp only[T3];by_cases l:Nat.beq j e=true
    · have z:j=e:=Nat.eq_of_beq_eq_true l;have v:j≠id:=fun q=>by rw[← q,l]at h; cases h.1
      simp only[l,if_true,v,if_false]
    · simp only[l,if_false,Bool.false_eq_true];by_cases v:j=id
      · simp only[v,if_true]
      · simp only[v,if_false,l,Bool.false_eq_true]
  · rename_i B;rw[F0 a _ _ _ h.2 i];obtain⟨x,t,u⟩:=out;cases x with
    | normal=>rfl
    | ret=>rfl
    | exit j=>exact absurd i (B _ _ _)
 | .loop a,fr,st,out,h,i=>by simp only[exec]at i;rw[L6,exec];exact a6n (fun fr st out E=>F0 a fr st out h E) _ _ _ _ i
 | .either ..,_,_,_,h,_=>by cases h
def Z1 (i:Nat) (o:AOper):Bool:=(match o.dst with|.v j=>!Nat.beq i j|_=>true) && (match o.box with|some j=>!Nat.beq i j|none=>true) && o.args.all (fun x=>match x with|.vs j=>!Nat.beq i j|_=>true)
def a0i (i:Nat):ACode→Bool
 | .reg kill ops=>!kill.contains i && ops.all (Z1 i)
 | .test kill ops _ a b=>!kill.contains i && ops.all (Z1 i) && a0i i a && a0i i b
 | .seq a b=>a0i i a && a0i i b
 | .blk _ a|.loop a=>a0i i a
 | .either ..=>false
 | _=>true
theorem a1i {i:Nat}:∀ (kill:List Nat) (fr:List AV),i ∉ kill→(i6 kill fr).getD i .undef=fr.getD i .undef
 | [],_,_=>rfl
 | k::ks,fr,h=>by
  rw[i6,a1i ks _ fun j=>h (List.mem_cons_of_mem _ j)];have hk:k≠i:=fun e=>h (by simp[e])
  simp only[List.getD_eq_getElem?_getD,List.getElem?_set_ne hk]
theorem a2K {i:Nat} {d:Dst} {r:AV} {σ:Sig} (h:(match d with|.v j=>!Nat.beq i j|_=>true)=true):(d.put r σ).fr.getD i .undef=σ.fr.getD i .undef:=by
 cases d with
 | none=>rfl
 | bx=>rfl
 | t s=>rfl
 | v j =>
  have l:j≠i:=fun e=>by subst e; simp at h
  show(σ.fr.set j r.strip).getD i .undef=_;simp only[List.getD_eq_getElem?_getD,List.getElem?_set_ne l]
theorem a2Z {i:Nat}:∀ (as:List Opd) (σ:Sig),as.all (fun x=>match x with|.vs j=>!Nat.beq i j|_=>true)=true→(d9 as σ).fr.getD i .undef=σ.fr.getD i .undef
 | [],_,_=>rfl
 | x::xs,σ,h=>by
  rw[List.all_cons,AA]at h;rw[d9,a2Z xs _ h.2];cases x<;>try rfl
  rename_i j;have l:j≠i:=fun e=>by subst e; simp at h
  show(σ.fr.set j _).getD i .undef=_;simp only[List.getD_eq_getElem?_getD,List.getElem?_set_ne l]
theorem a79 {i:Nat} {call:d8} {o:AOper} {σ σ':Sig} (h:Z1 i o=true) (hs:y9 call o σ=some σ'):σ'.fr.getD i .undef=σ.fr.getD i .undef:=by
 simp only[Z1,AA]at h;obtain⟨⟨l,t⟩,u⟩:=h;rw[J4]at hs;split at hs
 · rename_i r bx st v;split at hs
   · rename_i j x;simp only[AC]at hs;subst hs;rw[a2K l];rw[x]at t;have y:j≠i:=fun e=>by subst e; simp at t
     simp only[List.getD_eq_getElem?_getD,List.getElem?_set_ne y];simpa only [List.getD_eq_getElem?_getD]using a2Z o.args σ u
   · simp only[AC]at hs;subst hs;rw[a2K l];exact a2Z o.args σ u
 · cases hs
theorem b1q {i:Nat} {call:d8} {o:AOper} {σ σ':Sig} (h:Z1 i o=true) (hs:i7 call o σ=some σ'):σ'.fr.getD i .undef=σ.fr.getD i .undef:=by
 have l:(match o.dst with|.v j=>!Nat.beq i j|_=>true)=true:=by simp only[Z1,AA]at h;exact h.1.1
 unfold i7 at hs;split at hs
 · exact a79 h hs
 · split at hs
   · split at hs
     · exact a79 h hs
     · simp only[AC]at hs; subst hs; exact a2K l
   · simp only[AC]at hs; subst hs; exact a2K l
   · cases hs
theorem a1S {i:Nat} {call:d8}:∀ (ops:List AOper) (σ σ':Sig),ops.all (Z1 i)=true→g9 call ops σ=some σ'→σ'.fr.getD i .undef=σ.fr.getD i .undef
 | [],σ,σ',_,hs=>by simp only[g9,AC]at hs; subst hs; rfl
 | o::os,σ,σ',h,hs=>by
  rw[List.all_cons,AA]at h;simp only[g9]at hs;split at hs
  · rename_i σ1 j;rw[a1S os _ _ h.2 hs,b1q h.1 j]
  · cases hs
theorem a7T {i:Nat} {b:List AV→St→Option Out} (h:∀ fr st out,b fr st=some out→out.2.1.getD i .undef=fr.getD i .undef):∀ (n:Nat) (fr:List AV) (st:St) (out:Out),E6 b n fr st=some out→out.2.1.getD i .undef=fr.getD i .undef
 | 0,_,_,_,j=>by cases j
 | n+1,fr,st,out,j=>by
  rw[E6]at j;split at j
  · rename_i l u t;rw[a7T h n _ _ _ j];exact h _ _ _ t
  · exact h _ _ _ j
theorem K3 {i:Nat} {call:d8} {n:Nat}:∀ (y:ACode) (fr:List AV) (st:St) (out:Out),a0i i y=true→exec call n y fr st=some out→out.2.1.getD i .undef=fr.getD i .undef
 | .skip,fr,st,out,_,j=>by simp only[exec,AC]at j; subst j; rfl
 | .ret,fr,st,out,_,j=>by simp only[exec,AC]at j; subst j; rfl
 | .exit id,fr,st,out,_,j=>by simp only[exec,AC]at j; subst j; rfl
 | .reg kill ops,fr,st,out,h,j=>by
  simp only[a0i,AA,Bool.not_eq_true']at h;simp only[exec]at j;split at j
  · rename_i σ l;simp only[fL_eq,AC]at j;subst j;rw[a1S ops _ _ h.2 l];exact a1i kill fr (by simpa using h.1)
  · cases j
 | .test kill ops c a b,fr,st,out,h,j=>by
  simp only[a0i,AA,Bool.not_eq_true']at h;obtain⟨⟨⟨x,D⟩,E⟩,F⟩:=h;simp only[exec,fL_eq]at j;split at j
  · rename_i σ l;have t:σ.fr.getD i .undef=fr.getD i .undef:=by rw[a1S ops _ _ D l];exact a1i kill fr (by simpa using x)
    split at j
    · rw[K3 a _ _ _ E j,t]
    · rw[K3 b _ _ _ F j,t]
    · cases j
  · cases j
 | .seq a b,fr,st,out,h,j=>by
  simp only[a0i,AA]at h;rcases G6 j with⟨u,v,t,B⟩|⟨t,_⟩
  · rw[K3 b _ _ _ h.2 B];exact K3 a _ _ _ h.1 t
  · exact K3 a _ _ _ h.1 t
 | .blk id a,fr,st,out,h,j=>by
  simp only[exec]at j;split at j
  · rename_i z u v x;simp only[AC]at j;subst j;exact K3 a fr st (Ex.exit z,u,v) h x
  · exact K3 a _ _ _ h j
 | .loop a,fr,st,out,h,j=>by simp only[exec]at j;exact a7T (fun fr st out G=>K3 a fr st out h G) _ _ _ _ j
 | .either ..,_,_,_,h,_=>by cases h
end Go.Cb
namespace Go.Cb
open Classical
def a1m (c:Cx):List Operand→List Opd→Bool
 | [],[]=>true
 | .tmp t::xs,.v i::ys=>c.slots[i]? == some t && !c.bxs.contains i && a1m c xs ys
 | _,_=>false
def a8w (c:Cx) (ops:List Oper) (q:AOper):Option Nat:=match q with
 | ⟨.none,.call i,ys,none,none⟩=>match ops.reverse with
  | ⟨none,.defer ⟨.value (.func f),args,_⟩,_,_,_,none⟩::l=>if f == i && a1m c args.toList ys then some l.length else none
  | ⟨none,.defer ⟨.value (.tmp t),args,_⟩,_,_,_,none⟩::⟨some t',.makeFunc (.func f) first caps,_,_,_,none⟩::l =>if args.size == 0 && first.size == 0 && f == i && t == t' && !c.slots.contains t && Nat.blt t c.nt && a1m c caps.toList ys then some l.length else none
  | _=>none
 | _=>none
def dfr0 (ops:List Oper):Option (Nat×Nat):=match ops.reverse with
 | ⟨none,.defer ⟨.value (.func f),args,_⟩,_,_,_,none⟩::l=>if args.size == 1 then some (l.length,f)else none
 | _=>none
section
variable {c:Cx} {g:Gh} {w:World} {pr:Nat→Option Pl} {bx:Nat→Nat} {σ σ':Sig} {a:Act} {call:d8} {ops:Array Oper} {Q:Exit→Act→World→Prop}
theorem a4w (F:Fx c) (G:F5 c.P c.gt call) {l:List Oper} {x:List AOper} (v:U4 c ops l x=true) (hl:∀ (i:Nat) o,l[i]?=some o→ops[i]?=some o) {rest:List Nat}:∀ (n k:Nat) (g:Gh) (w:World) (pr:Nat→Option Pl) (bx:Nat→Nat) (σ:Sig) (a:Act),k+n=x.length →
 S c g w pr bx σ a→g9 call (x.drop k) σ=some σ'→Post c g w a σ' (wpOps c.P ops Q rest)→wpOps c.P ops Q (List.range' k n++rest) a w
 | 0,k,g,w,pr,bx,σ,a,hk,h,t,j=>by rw[List.drop_of_length_le (by omega)]at t;simp only[g9,AC]at t;subst t;exact j a w g pr bx rfl h (Tr.refl _ _ _)
 | n+1,k,g,w,pr,bx,σ,a,hk,h,t,j=>by
  obtain⟨_,u⟩:=X7 v;rw[List.drop_eq_getElem_cons (by omega)]at t;simp only[g9]at t;obtain⟨o,M,I,J⟩:=u k _ (AD (show k < x.length by omega));cases hs:i7 call (x[k]'(by omega)) σ with
  | none=>simp[hs]at t
  | some σ1 =>
   simp only[hs]at t;rw[List.range'_succ,List.cons_append,wpOps_cons];refine a4t F G h (hl _ _ M) I J hs fun a1 w1 g1 E y B z D=>?_
   exact a4w F G v hl n (k+1) g1 w1 E y σ1 a1 (by omega) z t (j.trans B D)
theorem a5m (h:S c g w pr bx σ a):∀ {xs:List Operand} {ys:List Opd},a1m c xs ys=true→RelL g w ((ys.map (·.read σ)).map AV.weak) (xs.map a.eval)
 | [],[],_=>by simp[RelL]
 | x::xs,[],hv=>by cases x<;>simp[a1m]at hv
 | [],y::ys,hv=>by simp[a1m]at hv
 | x::xs,y::ys,hv=>by
  unfold a1m at hv;split at hv
  · rename_i l z; cases l
  · rename_i t G i I l z;cases l; cases z;simp only[AA,beq_iff_eq,Bool.not_eq_true']at hv;obtain⟨⟨B,D⟩,E⟩:=hv;have j:=h.fr.var i t B;have v:∀ cs,σ.fr.getD i .undef≠.box cs:=fun cs u=>by have:=h.fr.bxs i cs u;simp[this]at D
    have F:Rel g w (σ.fr.getD i .undef).weak (a.tmps.getD t undef):=ValOK.rel (ValOK.of_weak (mine:=No) (ValOK.rel (j.val v)));simp only[AG,RelL];exact⟨_,_,rfl,by show Rel g w (σ.fr.getD i .undef).weak.weak _; rw[E3]; exact F,a5m h E⟩
  · cases hv
theorem b2h {ops:Array Oper} {o:Oper} {l:List Oper} (h:ops.toList.reverse=o::l):ops.size=l.length+1∧ops.toList.take l.length=l.reverse∧ops[l.length]?=some o:=by
 have e:ops.toList=l.reverse++[o]:=by have:=congrArg List.reverse h;simpa using this
 refine⟨by rw[← Array.length_toList,e]; simp,by rw[e]; simp,?_⟩;rw[← Array.getElem?_toList,e,List.getElem?_append_right (by simp)];simp
theorem b9n {ops:Array Oper} {o p:Oper} {l:List Oper} (h:ops.toList.reverse=o::p::l):ops.size=l.length+2∧ops.toList.take l.length=l.reverse∧ops[l.length]?=some p∧ops[l.length+1]?=some o:=by
 have e:ops.toList=l.reverse++[p,o]:=by have:=congrArg List.reverse h;simpa using this
 refine⟨by rw[← Array.length_toList,e]; simp,by rw[e]; simp,?_,?_⟩
 · rw[← Array.getElem?_toList,e,List.getElem?_append_right (by simp)];simp
 · rw[← Array.getElem?_toList,e,List.getElem?_append_right (by simp)];simp
theorem b3T (fx:Fx c) (hc:F5 c.P c.gt call) {id:Nat} {q:AOper} {f:Nat} {ys:List Opd} (hq:q=⟨.none,.call f,ys,none,none⟩) {k:Nat} (D:a8w c ops.toList q=some k) {kill:List Nat} {ps:List AOper} (Z:U4 c ops (ops.toList.take k) ps=true)
 {fr:List AV} {τ:Nat→AV} {st:St} (h:S c g w pr bx ⟨fr,τ,st⟩ a) (hr:g9 call ps ⟨i6 kill fr,fun _=>.undef,st⟩=some σ)
 (I:∀ a1 w1 g1 O E (cap F:Array Value) (vs:List Value),vs.toArray=F++cap→RelL g1 w1 ((ys.map (·.read σ)).map AV.weak) vs→a1.defers={ target:=.fn (.func f) cap,args:=F }::a.defers →
  S c g1 w1 O E ⟨σ.fr,fun _=>.undef,σ.st⟩ a1→Tr c.A g w g1 w1→Q .normal a1 w1):(Code.region id ops false).wp c.P Q a w:=by
 subst hq;have h0:=h.reset kill;obtain⟨hl,_⟩:=X7 Z;refine wp_region ?_;have U:∀ (i:Nat) o,(ops.toList.take k)[i]?=some o→ops[i]?=some o:=fun i o hi=>by
  rw[List.getElem?_take]at hi;split at hi
  · rwa [Array.getElem?_toList]at hi
  · cases hi
 unfold a8w at D;dsimp only at D;split at D
 · rename_i B args at_ ty pos V l M;split at D
   case isFalse=>cases D
   rename_i u;simp only[AA,beq_iff_eq]at u;obtain⟨rfl,hv⟩:=u;simp only[AC]at D;subst D;obtain⟨a2,y,x⟩:=b2h M;have z:ps.length=l.length:=by rw[← hl,y]; simp
   rw[List.range_eq_range',a2,← List.range'_append_1,show 0+l.length=l.length by omega,List.range'_one,← z];refine a4w fx hc Z U ps.length 0 g w pr bx _ a (by omega) h0 (by simpa using hr) fun a1 w1 g1 O E W v a3=>?_
   rw[wpOps_cons];refine R4 (by rw[z]; exact x) rfl ?_;have J:=a5m v hv;have N:(execOp a1.eval ⟨none,.defer ⟨.value (.func B),args,at_⟩,ty,pos,V,none⟩).run c.P w1=.ok (.defer { target:=.fn (.func B) #[],args:=args.map a1.eval }) w1:=by simp[execOp,resolve,Deferred.ofValue,Act.eval]
   unfold Oper.wp;rw[N,Oper.upon_defer];refine I { a1 with defers:=_::a1.defers } w1 g1 O E #[] (args.map a1.eval) (args.toList.map a1.eval) (Array.toList_inj.1 (by simp)) J (by simp only[W]) ?_ a3;exact⟨(v.reset []).fr,v.st,v.gl,v.fresh,v.stA⟩
 · rename_i t args at_ ty pos V t' B first j b4 b1 b0 l M
   split at D
   case isFalse=>cases D
   rename_i u;simp only[AA,beq_iff_eq,Bool.not_eq_true']at u;obtain⟨⟨⟨⟨⟨⟨ea,ef⟩,rfl⟩,rfl⟩,Y⟩,T⟩,hv⟩:=u;have ea:=Array.eq_empty_of_size_eq_zero ea;have ef:=Array.eq_empty_of_size_eq_zero ef;subst ea; subst ef;simp only[AC]at D;subst D;obtain⟨a2,y,b3,x⟩:=b9n M;have z:ps.length=l.length:=by rw[← hl,y]; simp
   have T:t < c.nt:=by simpa using T
   have Y:t ∉ c.slots:=by simpa using Y
   rw[List.range_eq_range',a2,← List.range'_append_1,show 0+l.length=l.length by omega,show List.range' l.length 2=[l.length,l.length+1]from rfl,← z];refine a4w fx hc Z U ps.length 0 g w pr bx _ a (by omega) h0 (by simpa using hr) fun a1 w1 g1 O E W v a3=>?_
   rw[wpOps_cons];refine R4 (by rw[z]; exact b3) rfl ?_;have J:=a5m v hv;have N:(execOp a1.eval ⟨some t,.makeFunc (.func B) #[] j,b4,b1,b0,none⟩).run c.P w1=.ok (.value (.func (.func B) #[] (j.map a1.eval))) w1:=by simp[execOp,Instr.makeFunc]
   unfold Oper.wp;rw[N,Oper.upon_value,wpOps_cons];have G:=(v.reset []).put_undef Y T (.func (.func B) #[] (j.map a1.eval));refine R4 (by rw[z]; exact x) rfl ?_;have b2:(a1.put (some t) (.func (.func B) #[] (j.map a1.eval))).eval (.tmp t)=.func (.func B) #[] (j.map a1.eval):=by have:=v.fr.size;simp only[Act.put,Act.eval];exact E1 (by rw[this]; exact T)
   have a0:(execOp (a1.put (some t) (.func (.func B) #[] (j.map a1.eval))).eval ⟨none,.defer ⟨.value (.tmp t),#[],at_⟩,ty,pos,V,none⟩).run c.P w1=.ok (.defer { target:=.fn (.func B) (j.map a1.eval),args:=#[] }) w1:=by simp only[execOp,resolve,Sem.run_bind,b2];simp[Deferred.ofValue]
   unfold Oper.wp;rw[a0,Oper.upon_defer];refine I { a1.put (some t) (.func (.func B) #[] (j.map a1.eval))with defers:=_::(a1.put (some t) (.func (.func B) #[] (j.map a1.eval))).defers } w1 g1 O E (j.map a1.eval) #[] (j.toList.map a1.eval) (Array.toList_inj.1 (by simp)) J (by simp only[Act.put,W]) ?_ a3;exact⟨G.fr,G.st,G.gl,G.fresh,G.stA⟩
 · cases D
theorem b1l (W:Fx c) (Z:F5 c.P c.gt call) {id:Nat} {f k:Nat} (v:dfr0 ops.toList=some (k,f)) {kill:List Nat} {M:List AOper} (D:U4 c ops (ops.toList.take k) M=true)
 {fr:List AV} {τ:Nat→AV} {st:St} (h:S c g w pr bx ⟨fr,τ,st⟩ a) (hr:g9 call M ⟨i6 kill fr,fun _=>.undef,st⟩=some σ)
 (y:∀ a1 w1 g1 B u (j:Array Value),j.size=1→a1.defers={ target:=.fn (.func f) #[],args:=j }::a.defers→S c g1 w1 B u ⟨σ.fr,fun _=>.undef,σ.st⟩ a1→Tr c.A g w g1 w1→Q .normal a1 w1):(Code.region id ops false).wp c.P Q a w:=by
 have Y:=h.reset kill;obtain⟨hl,_⟩:=X7 D;refine wp_region ?_;have F:∀ (i:Nat) o,(ops.toList.take k)[i]?=some o→ops[i]?=some o:=fun i o hi=>by
  rw[List.getElem?_take]at hi;split at hi
  · rwa [Array.getElem?_toList]at hi
  · cases hi
 unfold dfr0 at v;split at v
 · rename_i V args at_ ty pos N l G;split at v
   case isFalse=>cases v
   rename_i J;simp only[AC,AH]at v;obtain⟨rfl,rfl⟩:=v;obtain⟨T,z,x⟩:=b2h G;have E:M.length=l.length:=by rw[← hl,z]; simp
   rw[List.range_eq_range',T,← List.range'_append_1,show 0+l.length=l.length by omega,List.range'_one,← E];refine a4w W Z D F M.length 0 g w pr bx _ a (by omega) Y (by simpa using hr) fun a1 w1 g1 B u O t U=>?_
   rw[wpOps_cons];refine R4 (by rw[E]; exact x) rfl ?_;have I:(execOp a1.eval ⟨none,.defer ⟨.value (.func V),args,at_⟩,ty,pos,N,none⟩).run c.P w1=.ok (.defer { target:=.fn (.func V) #[],args:=args.map a1.eval }) w1:=by simp[execOp,resolve,Deferred.ofValue,Act.eval]
   unfold Oper.wp;rw[I,Oper.upon_defer];refine y { a1 with defers:=_::a1.defers } w1 g1 B u (args.map a1.eval) (by simpa using J) (by simp only[O]) ?_ U;exact⟨(t.reset []).fr,t.st,t.gl,t.fresh,t.stA⟩
 · cases v
def b3d (P:Program) (i:List Nat):Prop:=∀ f∈i,U8 P f=true∧∀ (args:Array Value) (w:World),args.size=1→CallsD P f args .returning w fun e u w'=>u=.returning∧w'=w∧∃ v,e=.returned v
def DOK (P:Program) (gt:List (Nat×List AV)) (D:List Nat) (call:d8):Prop :=
 ∀ (f:Nat) (args:List AV) (st:St) (res:AV) (st':St),f∈D→call f args st=some (res,st')→(∀ x∈args,x.weak=x) →
  U8 P f=true∧∀ (g:Gh) (w:World) (vs:List Value),SRel g w st→Globs gt g w→RelL g w args vs→CallsD P f vs.toArray .returning w (fun e u w'=>u=.returning∧CallPost g w st' res e w')
theorem S.called (h:S c g w pr bx σ a) {g':Gh} {w':World} {st':St} (t:SRel g' w' st') (i:Tr No g w g' w'):S c g' w' pr bx { σ with st:=st' } a :=
 ⟨h.fr.evolve i,t,h.gl.ext i.ext,fun b j=>h.fresh b (Nat.le_trans i.size j),fun b p j=>by
  rcases Nat.lt_or_ge b w.heap.size with l|hge
  · cases u:g.sr b with
    | some q=>exact h.stA b q u
    | none=>have:=(i.keep b l u (fun x=>x)).2; rw[j]at this; cases this
  · exact h.fresh b hge⟩
theorem S.dfrs (h:S c g w pr bx σ a) (i:List Deferred):S c g w pr bx σ { a with defers:=i }:=⟨h.fr,h.st,h.gl,h.fresh,h.stA⟩
def a0b (y:ACode):List Opd→Bool
 | []=>true
 | .v i::xs=>a0i i y && a0b y xs
 | _=>false
def a0j (c:Cx) (D l:List Nat):Code→ACode→Bool
 | .seq (.region id ops d) rest,y=>match y with
  | .seq (.reg kill u) (.seq (.blk e i) .skip)=>match dfr0 ops.toList with
   | some (k,f)=>!d && U4 c ops (ops.toList.take k) u && l.contains f && a0M i && a0g e i && a0j c D l rest (L6 e i)
   | none=>n5 c (.seq (.region id ops d) rest) y
  | .seq (.reg kill u) (.seq (.blk e i) (.reg [] [q]))=>match a8w c ops.toList q with
   | some k=>!d && U4 c ops (ops.toList.take k) u && (match q.kind with|.call f=>D.contains f|_=>false) && a0b i q.args && a0M i && a0g e i && a0j c D l rest (L6 e i)
   | none=>n5 c (.seq (.region id ops d) rest) y
  | .seq (.test kill u z t b') i=>match rest with
   | .seq (.cond x a b) j=>a3c c ops d kill u && a2y c x z && n5 c a t && n5 c b b' && a0j c D l j i
   | _=>n5 c (.seq (.region id ops d) rest) y
  | .seq t b'=>n5 c (.region id ops d) t && a0j c D l rest b'
  | y=>n5 c (.seq (.region id ops d) rest) y
 | .seq a b,y=>match y with
  | .seq t b'=>n5 c a t && a0j c D l b b'
  | y=>n5 c (.seq a b) y
 | x,y=>n5 c x y
theorem a8o {σ1 σ2:Sig} {call:d8} {n:Nat} {y:ACode} {out:Out} (l:exec call n y σ1.fr σ1.st=some out) (j:σ2.fr=out.2.1):∀ {xs:List Opd},a0b y xs=true→xs.map (·.read σ2)=xs.map (·.read σ1)
 | [],_=>rfl
 | x::xs,h=>by cases x<;>simp only[a0b,AA,Bool.false_eq_true]at h;rename_i i;rw[AG,AG,a8o l j h.2];congr 1;show(σ2.fr.getD i .undef).weak=(σ1.fr.getD i .undef).weak;rw[j,K3 y _ _ _ h.1 l]
def Left (c:Cx) (fn:Func) (R:Ending→World→Prop) (g:Gh) (w:World) (a:Act) (out:Out):Prop :=
 ∀ i w' g' l j t,i.defers=a.defers→S c g' w' l j ⟨out.2.1,t,out.2.2⟩ i→Tr c.A g w g' w'→Leaves c.P fn i.tmps R a.defers .returning w'
theorem Left.after {fn:Func} {R:Ending→World→Prop} {out:Out} (h:Left c fn R g w a out) (ho:out.1=.normal∨out.1=.ret):After c g w a out (bodyPostD c.P fn R):=fun u w' g' j i l t v x=>by have:=h u w' g' j i l t v x;rw[← t]at this;rcases ho with ho|ho<;>rw[ho]<;>exact this
theorem Left.trans {fn:Func} {R:Ending→World→Prop} {out:Out} {a1:Act} {g1:Gh} {w1:World} (h:Left c fn R g w a out) (x:a1.defers=a.defers) (z:Tr c.A g w g1 w1):Left c fn R g1 w1 a1 out:=fun y w' g' u i v l j t=>by rw[x];exact h y w' g' u i v (l.trans x) j (z.trans t)
theorem b5l {D:List Nat} (U:DOK c.P c.gt D call) {fn:Func} {R:Ending→World→Prop} {f:Nat} {as:List AV} {vs:List Value} {cap i:Array Value} {T:List Deferred} {a2:Act} {G:Nat→AV} {u:List AV} {st2 l:St} {v:AV} {g2:Gh} {E:World} {pr2:Nat→Option Pl} {t:Nat→Nat}
 (W:f∈D) (O:vs.toArray=i++cap) (Y:∀ x∈as,x.weak=x) (j:call f as st2=some (v,l)) (z:RelL g2 E as vs) (I:S c g2 E pr2 t ⟨u,G,st2⟩ a2)
 (y:∀ g3 F,S c g3 F pr2 t ⟨u,G,l⟩ a2→Tr c.A g2 E g3 F→Leaves c.P fn a2.tmps R T .returning F) :
 Leaves c.P fn a2.tmps R ({ target:=.fn (.func f) cap,args:=i }::T) .returning E:=by
 obtain⟨M,J⟩:=U f as st2 v l W j Y;refine leaves_cons (f:=f) (args:=vs.toArray) (by simp) ?_ ?_
 · simp only[invoke];rw[O];exact a1Q M _ _
 · refine(J g2 E vs I.st I.gl z).mono fun e Z F V=>?_
   obtain⟨rfl,_,g3,rfl,N,B,_⟩:=V;exact y g3 F (I.called N B) (B.wider fun _ x=>x.elim)
theorem b6w {n:Nat} (fx:Fx c) (hm:c.P.follows .mixedOrders=true) (hc:F5 c.P c.gt call) {D D0:List Nat} (hD:DOK c.P c.gt D call) (c3:b3d c.P D0) {fn:Func} {R:Ending→World→Prop} (x:Code) (y:ACode) (h:a0j c D D0 x y=true)
 {g:Gh} {w:World} {pr:Nat→Option Pl} {bx:Nat→Nat} {fr:List AV} {τ:Nat→AV} {st:St} {a:Act} {out:Out} (hS:S c g w pr bx ⟨fr,τ,st⟩ a) (G:exec call n y fr st=some out) (ho:out.1=.normal∨out.1=.ret) (hL:Left c fn R g w a out):x.wp c.P (bodyPostD c.P fn R) a w:=by
 have plain:∀ (x:Code) (y:ACode),n5 c x y=true→exec call n y fr st=some out→x.wp c.P (bodyPostD c.P fn R) a w :=
  fun x y d6 G=>m5 x y d6 fx hm hc hS G (hL.after ho)
 have go:∀ (q:Code),SizeOf.sizeOf q < SizeOf.sizeOf x→∀ (y:ACode),a0j c D D0 q y=true→∀ {g:Gh} {w:World} {pr:Nat→Option Pl} {bx:Nat→Nat} {fr:List AV} {τ:Nat→AV} {st:St} {a:Act} {out:Out},S c g w pr bx ⟨fr,τ,st⟩ a→exec call n y fr st=some out→(out.1=.normal∨out.1=.ret)→Left c fn R g w a out→q.wp c.P (bodyPostD c.P fn R) a w :=
  fun q hq y h _ _ _ _ _ _ _ _ _ hS G ho hL=>b6w fx hm hc hD c3 q y h hS G ho hL
 have both:∀ (A q:Code) (a' b':ACode),SizeOf.sizeOf q < SizeOf.sizeOf x→n5 c A a'=true→a0j c D D0 q b'=true→exec call n (.seq a' b') fr st=some out→A.wp c.P (Exit.then (q.wp c.P (bodyPostD c.P fn R)) (bodyPostD c.P fn R)) a w:=by
  intro A q a' b' d7 h1 h2 G;rcases G6 G with⟨b2,c0,l,e2⟩|⟨l,J⟩
  · exact m5 A a' h1 fx hm hc hS l fun a1 w1 g1 U N a0 E u F=>go q d7 b' h2 u e2 ho (hL.trans E F)
  · refine m5 A a' h1 fx hm hc hS l fun a1 w1 g1 U N a0 E u F=>?_
    have:=hL.after ho a1 w1 g1 U N a0 E u F;revert this J;cases out.1<;>simp[Ex.toExit,Exit.then]
 unfold a0j at h;split at h
 · -- a region ahead
   rename_i id ops d rest;split at h
   · -- perhaps one that does nothing
     rename_i kill ps e i;split at h
     · rename_i k f hk;simp only[AA,Bool.not_eq_true']at h;obtain⟨⟨⟨⟨⟨h1,h2⟩,h3⟩,h5⟩,h6⟩,h7⟩:=h;subst h1;have hf:f∈D0:=by simpa using h3
       rcases G6 G with⟨b2,c0,l,e2⟩|⟨l,J⟩
       · simp only[exec]at l;cases hr:g9 call ps ⟨i6 kill fr,fun _=>.undef,st⟩with
         | none=>simp[hr]at l
         | some σ =>
          simp only[hr,fL_eq,AC,AH,true_and]at l;obtain⟨rfl,rfl⟩:=l;have O:∃ ex j st2,exec call n i σ.fr σ.st=some (ex,j,st2)∧(ex=.normal∨ex=.exit e)∧out=(.normal,j,st2):=by
           rcases G6 e2 with⟨j,st2,t,e4⟩|⟨t,J⟩
           · simp only[exec,AC]at e4;simp only[exec]at t;split at t
             · rename_i T b4 c1 h9;simp only[AC,AH]at t;obtain⟨e5,rfl,rfl⟩:=t;have:T=e:=by
                by_cases q:T=e
                · exact q
                · rw[if_neg q]at e5; cases e5
               subst this;exact⟨_,_,_,h9,.inr rfl,e4.symm⟩
             · exact⟨_,_,_,t,.inl rfl,e4.symm⟩
           · exfalso;simp only[exec]at t;split at t
             · rename_i T b4 c1 h9;simp only[AC]at t;subst t;dsimp only at ho J;split at J
               · exact J rfl
               · rename_i b7;rw[if_neg b7]at ho;rcases ho with ho|ho<;>cases ho
             · rcases ho with ho|ho
               · exact J ho
               · exact H1 i _ _ _ h5 t ho
          obtain⟨ex,j,st2,h9,hex,rfl⟩:=O;have b5:=F0 i _ _ _ h6 h9;have Z:T3 e ex=.normal∨T3 e ex=.ret:=by
           rcases hex with rfl|rfl
           · exact .inl rfl
           · right; simp[T3]
          refine wp_seq (b1l fx hc hk h2 hS hr fun a1 w1 g1 U N W f0 E u F=>?_);show rest.wp c.P (bodyPostD c.P fn R) a1 w1;refine go rest (by simp; omega) (L6 e i) h7 u b5 Z fun a2 w2 g2 pr2 b1 c2 d3 b6 a3=>?_
          rw[E];obtain⟨d4,d2⟩:=c3 f hf;refine leaves_cons (f:=f) (args:=W++#[]) (by simp) (by simp only[invoke]; exact a1Q d4 _ _) ?_;refine(d2 _ w2 (by simpa using f0)).mono fun t u' w3 I=>?_
          obtain⟨rfl,rfl,v,rfl⟩:=I;exact hL { a2 with defers:=a.defers } _ g2 pr2 b1 c2 rfl (b6.dfrs _) (F.trans a3)
       · exfalso;simp only[exec]at l;split at l
         · simp only[fL_eq,AC]at l;subst l;exact J rfl
         · cases l
     · exact plain _ _ h G
   · -- perhaps a deferred call
     rename_i kill ps e i q;split at h
     · rename_i k hk;simp only[AA,Bool.not_eq_true']at h;obtain⟨⟨⟨⟨⟨⟨h1,h2⟩,h3⟩,h4⟩,h5⟩,h6⟩,h7⟩:=h;subst h1;obtain⟨f,ys,rfl⟩:∃ f ys,q=⟨.none,.call f,ys,none,none⟩:=by
        unfold a8w at hk;split at hk
        · exact⟨_,_,rfl⟩
        · cases hk
       have hf:f∈D:=by simpa using h3
       rcases G6 G with⟨b2,c0,l,e2⟩|⟨l,J⟩
       · simp only[exec]at l;cases hr:g9 call ps ⟨i6 kill fr,fun _=>.undef,st⟩with
         | none=>simp[hr]at l
         | some σ =>
          simp only[hr,fL_eq,AC,AH,true_and]at l;obtain⟨rfl,rfl⟩:=l
          -- how the rest ends
          have O:∃ ex j st2 M v,exec call n i σ.fr σ.st=some (ex,j,st2)∧(ex=.normal∨ex=.exit e)∧call f ((ys.map (·.read ⟨j,fun _=>.undef,st2⟩)).map AV.weak) st2=some (v,M)∧out=(.normal,j,M):=by
           have fin:∀ j st2,exec call n (.reg [] [⟨.none,.call f,ys,none,none⟩]) j st2=some out→∃ M v,call f ((ys.map (·.read ⟨j,fun _=>.undef,st2⟩)).map AV.weak) st2=some (v,M)∧∃ b3,out=(.normal,b3,M)∧b3=(d9 ys ⟨j,fun _=>.undef,st2⟩).fr:=by
            intro j st2 I;simp only[exec,i6,g9,i7]at I;cases hg:y9 call ⟨.none,.call f,ys,none,none⟩ ⟨j,fun _=>.undef,st2⟩with
            | none=>rw[hg]at I; cases I
            | some f1 =>
             rw[hg]at I;simp only[fL_eq,AC]at I;obtain⟨r,b',M,hs,rfl⟩:=l6 hg;simp only[sem,n6]at hs;split at hs
             · cases c4:call f ((ys.map (·.read ⟨j,fun _=>.undef,st2⟩)).map AV.weak) st2 with
               | none=>rw[c4]at hs; cases hs
               | some z =>obtain⟨v,s3⟩:=z;rw[c4]at hs;simp only[AN,AC,AH]at hs;obtain⟨rfl,rfl,rfl⟩:=hs;exact⟨s3,v,rfl,_,I.symm,rfl⟩
             · cases hs
           have b8:∀ (xs:List Opd) (b0:Sig),a0b i xs=true→d9 xs b0=b0:=by
            intro xs;induction xs with
            | nil=>intro b0 _; rfl
            | cons x xs ih =>intro b0 hx;cases x<;>simp only[a0b,AA,Bool.false_eq_true]at hx;exact ih _ hx.2
           rcases G6 e2 with⟨j,st2,t,e4⟩|⟨t,J⟩
           · simp only[exec]at t;obtain⟨M,v,hv,b3,c8,c6⟩:=fin j st2 e4;rw[b8 ys _ h4]at c6;subst c6;split at t
             · rename_i T b4 c1 h9;simp only[AC,AH]at t;obtain⟨e5,rfl,rfl⟩:=t;have:T=e:=by
                by_cases q:T=e
                · exact q
                · rw[if_neg q]at e5; cases e5
               subst this;exact⟨_,_,_,_,_,h9,.inr rfl,hv,c8⟩
             · exact⟨_,_,_,_,_,t,.inl rfl,hv,c8⟩
           · exfalso;simp only[exec]at t;split at t
             · rename_i T b4 c1 h9;simp only[AC]at t;subst t;dsimp only at ho J;split at J
               · exact J rfl
               · rename_i b7;rw[if_neg b7]at ho;rcases ho with ho|ho<;>cases ho
             · rcases ho with ho|ho
               · exact J ho
               · exact H1 i _ _ _ h5 t ho
          obtain⟨ex,j,st2,M,v,h9,hex,Y,rfl⟩:=O;have b5:=F0 i _ _ _ h6 h9;have Z:T3 e ex=.normal∨T3 e ex=.ret:=by
           rcases hex with rfl|rfl
           · exact .inl rfl
           · right; simp[T3]
          refine wp_seq (b3T fx hc rfl hk h2 hS hr fun a1 w1 g1 U N cap W vs e6 d0 E u F=>?_);show rest.wp c.P (bodyPostD c.P fn R) a1 w1;refine go rest (by simp; omega) (L6 e i) h7 u b5 Z fun a2 w2 g2 pr2 b1 c2 d3 b6 a3=>?_
          rw[E];have d5:(ys.map (·.read ⟨j,fun _=>.undef,st2⟩))=ys.map (·.read σ):=a8o (σ1:=σ) h9 rfl h4;rw[d5]at Y;refine b5l hD hf e6 (fun x hx=>?_) Y (d0.ext a3.ext _ _) b6 fun g3 w3 d1 e0=>?_
          · obtain⟨z,_,rfl⟩:=List.mem_map.1 hx;exact E3 z
          · have c7:=hL { a2 with defers:=a.defers } w3 g3 pr2 b1 c2 rfl (d1.dfrs _) ((F.trans a3).trans e0);exact c7
       · exfalso;simp only[exec]at l;split at l
         · simp only[fL_eq,AC]at l;subst l;exact J rfl
         · cases l
     · exact plain _ _ h G
   · rename_i kill ps z a' b' i;split at h
     · rename_i x A B V;simp only[AA]at h;obtain⟨⟨⟨⟨h1,h2⟩,h3⟩,h4⟩,h5⟩:=h;rcases G6 G with⟨b2,c0,l,e2⟩|⟨l,J⟩
       · refine wp_seq (a3q (Q':=Exit.then (V.wp c.P (bodyPostD c.P fn R)) (bodyPostD c.P fn R)) h1 h2 (m5 _ _ h3) (m5 _ _ h4) fx hm hc hS l (fun a1 w1 g1 U N a0 E u F=>?_) fun _ _ x=>wp_seq x);exact go V (by simp; omega) i h5 u e2 ho (hL.trans E F)
       · refine wp_seq (a3q (Q':=Exit.then (V.wp c.P (bodyPostD c.P fn R)) (bodyPostD c.P fn R)) h1 h2 (m5 _ _ h3) (m5 _ _ h4) fx hm hc hS l (fun a1 w1 g1 U N a0 E u F=>?_) fun _ _ x=>wp_seq x);have:=hL.after ho a1 w1 g1 U N a0 E u F;revert this J;cases out.1<;>simp[Ex.toExit,Exit.then]
     · exact plain _ _ h G
   · rename_i a' b' _ _ _;rw[AA]at h;exact wp_seq (both _ rest a' b' (by simp; omega) h.1 h.2 G)
   · exact plain _ _ h G
 · rename_i p q _;split at h
   · rename_i a' b';rw[AA]at h;exact wp_seq (both p q a' b' (by simp; omega) h.1 h.2 G)
   · exact plain _ _ h G
 · exact plain _ _ h G
termination_by SizeOf.sizeOf x
decreasing_by all_goals assumption
end
def a0P (P:Program) (gt:List (Nat×List AV)) (D i:List Nat) (slots bxs:List Nat) (fn:Func) (f:AFn) (A:Nat→Prop):Bool :=
 f.ext.isNone && a2h slots && slots.all (fun s=>Nat.blt s fn.ntmps) && slots.take f.np == List.range f.np && Nat.ble f.np slots.length && Nat.beq f.nv slots.length &&
  (match fn.body with|some x=>a0j ⟨P,slots,bxs,fn.ntmps,gt,A⟩ D i x f.code|none=>false) && V5 ⟨P,slots,bxs,fn.ntmps,gt,A⟩ fn.results.toList f.results
structure ProgD (P:Program) (gt:List (Nat×List AV)) (D D0:List Nat) (tbl:Nat→Option AFn):Prop where
 mixed:P.follows .mixedOrders=true
 fn:∀ f af,tbl f=some af→U8 P f=true∧((∃ slots bxs fn,P.funcs[f]?=some fn∧∀ A,a1c P gt slots bxs fn af A=true)∨(∃ slots bxs fn,P.funcs[f]?=some fn∧∀ A,a0P P gt D D0 slots bxs fn af A=true)∨(∃ e,af.ext=some e∧G1 P gt f e))
 dfr:∀ f∈D,∀ af,tbl f=some af→∃ slots bxs fn,P.funcs[f]?=some fn∧∀ A,a1c P gt slots bxs fn af A=true
 dfr0:b3d P D0
theorem f4n {P:Program} {gt:List (Nat×List AV)} {D G:List Nat} {slots bxs:List Nat} {fn:Func} {I:AFn} {g:Gh} {w:World} {args:List AV} {vs:List Value} {st st':St} {res:AV} {call:d8} {n:Nat} (U:P.follows .mixedOrders=true) (T:F5 P gt call) (O:DOK P gt D call) (z:b3d P G)
 (i:∀ A,a0P P gt D G slots bxs fn I A=true) (h:I.run call n args st=some (res,st')) (t:∀ x∈args,x.weak=x) (F:SRel g w st) (E:Globs gt g w) (y:RelL g w args vs) :
 ∃ body,fn.body=some body∧body.wp P (bodyPostD P fn (CallPost g w st' res)) { tmps:=vs.toArray++Array.replicate (fn.ntmps - vs.toArray.size) undef,defers:=[] } w:=by
 have i:=i fun b=>w.heap.size≤b∨g.sr b≠none
 simp only[a0P,AA,Option.isNone_iff_eq_none,beq_iff_eq,Nat.beq_eq]at i;obtain⟨⟨⟨⟨⟨⟨⟨o1,o2⟩,o3⟩,o4⟩,o5⟩,o6⟩,o7⟩,W⟩:=i;have o5:=Nat.le_of_ble_eq_true o5;split at o7
 case h_2=>cases o7
 rename_i body j;unfold AFn.run at h;split at h
 case isFalse=>cases h
 rename_i u;split at h
 · cases h
 · rename_i ex M Z v l;obtain⟨N,S⟩:=b0e (bxs:=bxs) o2 o3 o4 o5 o6 u t F E y;refine⟨body,j,?_⟩;refine b6w N U T O z _ _ o7 S l ?_ fun a' w' g' Y J a0 hd B V=>?_
   · cases ex with
     | normal=>exact .inl rfl
     | ret=>exact .inr rfl
     | exit id=>exact(v id rfl).elim
   · exact b6B B V W h
 · cases h
theorem b5k {P:Program} {gt:List (Nat×List AV)} {D T:List Nat} {tbl:Nat→Option AFn} (B:ProgD P gt D T tbl):∀ n,F5 P gt (j9 tbl n)∧DOK P gt D (j9 tbl n):=by
 intro n;induction n with
 | zero=>exact⟨fun f args st res st' h=>by simp[j9]at h,fun f args st res st' _ h=>by simp[j9]at h⟩
 | succ n J =>
  obtain⟨J,S⟩:=J;refine⟨fun f args st res st' h j=>?_,fun f args st res st' N h j=>?_⟩
  · simp only[j9]at h;cases i:tbl f with
    | none=>simp[i]at h
    | some z =>
     simp only[i]at h;obtain⟨M,O⟩:=B.fn f z i;refine⟨M,fun g w vs x v t=>?_⟩;rcases O with⟨slots,bxs,fn,I,l⟩|⟨slots,bxs,fn,I,l⟩|⟨e,E,G⟩
     · have E:z.ext=none:=by
        have:=l fun _=>True
        simp only[a1c,AA,Option.isNone_iff_eq_none]at this;exact this.1.1.1.1.1.1.1
       simp only[E]at h;obtain⟨body,F,y⟩:=b4L B.mixed J l h j x v t;exact calls_of_wp I F y
     · have E:z.ext=none:=by
        have:=l fun _=>True
        simp only[a0P,AA,Option.isNone_iff_eq_none]at this;exact this.1.1.1.1.1.1.1
       simp only[E]at h;obtain⟨body,F,y⟩:=f4n B.mixed J S B.dfr0 l h j x v t;exact calls_of_wp_defers I F y
     · simp only[E]at h;exact G args st res st' h j g w vs x v t
  · simp only[j9]at h;cases i:tbl f with
    | none=>simp[i]at h
    | some z =>
     simp only[i]at h;refine⟨(B.fn f z i).1,fun g w vs x v t=>?_⟩;obtain⟨slots,bxs,fn,I,l⟩:=B.dfr f N z i;have E:z.ext=none:=by
      have:=l fun _=>True
      simp only[a1c,AA,Option.isNone_iff_eq_none]at this;exact this.1.1.1.1.1.1.1
     simp only[E]at h;obtain⟨body,F,y⟩:=b4L B.mixed J l h j x v t;exact(callsD_of_wp I F y).mono fun e u w' U=>U
end Go.Cb
namespace Go.Cb
open Classical
theorem c3v {P:Program} {gt:List (Nat×List AV)} {D y:List Nat} {tbl:Nat→Option AFn} (z:ProgD P gt D y tbl) {n f:Nat} {args:List AV} {b:Bool} {st':St} (h:j9 tbl n f args []=some (.bool b,st')) (I:∀ x∈args,x.weak=x)
 {W:World} {vs:List Value} (hg:Globs gt (gh0 W) W) (G:RelL (gh0 W) W args vs):Calls P f vs.toArray W (fun e u=>e=.returned (.bool b)∧Kept W u):=by
 refine(((b5k z n).1 f args [] _ _ h I).2 (gh0 W) W vs (c0D W) hg G).mono fun e u F=>?_
 obtain⟨v,g',rfl,_,l,t⟩:=F;have t:=t.rel;simp only[Rel]at t;subst t;have j:∀ b,b < W.heap.size→u.heap[b]?=W.heap[b]?:=fun b E=>(l.keep b E rfl fun x=>x).1.1
 refine⟨rfl,⟨l.env.os,l.env.out,fun i hi=>?_⟩,fun a B=>by unfold World.frozen?; rw[j a.block B],l.size,j⟩;rw[j i hi];cases J:W.heap[i]? with
 | none=>simp
 | some o=>cases o<;>simp
theorem XC.sh {tbl:Nat→Option AFn} (j:a2M tbl) {code:ACode} (hs:code.shut=true) {fr:List AV} {st:St} {out:Out} {L:Nat} (ext:St) (i:L≤st.length) (h:XC tbl code fr st out):XC tbl code (fr.map (AV.sh L ext.length)) (shS L ext st) (X8 L ext out):=by obtain⟨n,l⟩:=h;exact⟨n,(N0 (a1n j n) n hs i l).1⟩
theorem Ev.sh {tbl:Nat→Option AFn} (j:a2M tbl) {f:Nat} {as:List AV} {st:St} {r:AV} {st':St} {L:Nat} (ext:St) (i:L≤st.length) (h:Ev tbl f as st r st'):Ev tbl f (as.map (AV.sh L ext.length)) (shS L ext st) (r.sh L ext.length) (shS L ext st'):=by obtain⟨n,l⟩:=h;exact⟨n,(a1n j n _ _ _ _ _ i l).1⟩
end Go.Cb
namespace Go.Cb.G
open Go Go.Cb
theorem FX.sh {tbl:Nat→Option AFn} (z:a2M tbl) {rs:List ResK} {code:ACode} (hs:code.shut=true) {fr:List AV} {st:St} {v:AV} {L:Nat} (ext:St) (y:L≤st.length) (h:FX tbl rs code fr st v):FX tbl rs code (fr.map (AV.sh L ext.length)) (shS L ext st) (v.sh L ext.length):=by
 obtain⟨⟨e,l,st'⟩,s,⟨n,u⟩,j⟩:=h;obtain⟨x,t⟩:=N0 (a1n z n) n hs y u;refine⟨_,shS L ext s,⟨n,x⟩,?_⟩
 · have t:L≤st'.length:=t;cases e with
   | exit i=>cases j
   | normal =>
    simp only[fin,X8,a0p t]at j ⊢;cases hg:B1 rs l st' with
    | none=>rw[hg]at j; cases j
    | some vs =>
     rw[hg]at j;match vs,j with
     | [],j=>cases j; rfl
     | [v],j=>cases j; rfl
     | v::w::vs,j=>cases j; simp only[AN,AG,AV.sh,m2,I8]
   | ret =>
    simp only[fin,X8,a0p t]at j ⊢;cases hg:B1 rs l st' with
    | none=>rw[hg]at j; cases j
    | some vs =>
     rw[hg]at j;match vs,j with
     | [],j=>cases j; rfl
     | [v],j=>cases j; rfl
     | v::w::vs,j=>cases j; simp only[AN,AG,AV.sh,m2,I8]
end Go.Cb.G
namespace Go.Cb
open Classical
theorem W3 {P:Program} (w:World) (I N ty elem:TypeId) (G g o u y:Nat) (a:Addr) (x D:Nat) (l:Array Value) (t:TypeId) (cs:List Value)
 (hu:P.underlying I=some (.slice elem)) (hs:(P.info? elem).map (·.size)=some G)
 (hg:w.heap[g]?=some (.cells l t (0,0))) (M:cs.length=Nat.min x u*G)
 (B:∀ j v,cs[j]?=some v→w.cell? (a.add j)=some v) (z:o+cs.length≤l.size) (J:∀ v∈cs,v.oneCell'=true) :
 (Builtin.copy_ #[I,N] ty #[.slice (some ⟨g,o,none⟩) u y,.slice (some a) x D]).run P w =
  .ok (goInt (Nat.min x u)) (w.setRow g (l.toList.take o++cs++l.toList.drop (o+cs.length)).toArray):=by
 have hl:=run_loadCells_list (P:=P) w a cs B;have F:=run_storeCells_at P g o t cs 0 l w hg (by simpa using z) J;cases E:P.info? elem with
 | none=>simp[E]at hs
 | some i =>
  have hi:i.size=G:=by simpa[E]using hs
  simp[Builtin.copy_,run_underlying hu,Builtin.lenOf,Builtin.firstCells,sizeOf,typeInfo,E,hi,← M,hl,F]
theorem a3N {P:Program} (w:World) (O tR e:TypeId) (M:P.underlying O=some (.slice e)) (size:Nat) (N:∀ w,(Go.sizeOf e).run P w=.ok size w)
 (a b:Addr) (W Z Y cb:Nat) (E:a.block≠b.block) {j i:Array Value} {S TB:TypeId} {zA:Nat×Nat}
 (hA:w.heap[a.block]?=some (.cells j S zA)) (T:w.heap[b.block]?=some (.cells i TB (0,0))) (I:j.size≠0) (J:i.size≠0) :
 (Extern.SlicesOverlaps.overlaps #[O,O] #[tR] #[.slice (some a) W Z,.slice (some b) Y cb]).run P w=.ok (.bool false) w:=by
 have D:(a.block != b.block)=true:=by simpa using E
 have l:(a.block == b.block)=false:=by simpa using E
 have u:w.shape? a.block=some (S,j.size):=by simp[World.shape?,hA]
 have v:w.shape? b.block=some (TB,i.size):=by simp[World.shape?,T]
 have B:∀ x:Addr,x.block=b.block→w.frozen? x=false:=fun x hx=>by simp[World.frozen?,hx,T]
 have y:=B b rfl;have t:=B { block:=b.block,off:=i.size } rfl;delta Extern.SlicesOverlaps.overlaps;dsimp only;delta Extern.SlicesOverlaps.overlaps.match_4;dsimp only[Array.size,List.length];simp only[dif_pos,Nat.reduceAdd,Nat.zero_add];dsimp only[Array.getLit,getElem,Array.getInternal,List.get];by_cases F:W=0∨Y=0∨size=0
 · simp[run_underlying M,N,F]
 · cases V:i.size with
   | zero=>exact absurd V J
   | succ kB =>
    rw[V]at v t;cases U:j.size with
    | zero=>exact absurd U I
    | succ kA =>
    rw[U]at u;cases z:w.frozen? a with
    | true=>simp[run_underlying M,N,F,D,l,frozen,noView,viewAt,mayBeOne,stringish,shape,Sem.run,u,v,z,y,t]
    | false =>
     cases G:w.frozen? { block:=a.block,off:=kA+1 } <;>
     simp[run_underlying M,N,F,D,l,frozen,noView,viewAt,mayBeOne,stringish,shape,Sem.run,u,v,z,y,t,G]
end Go.Cb
namespace Go.Cb
open Classical
def WC {α:Type} (c:Nat→Option α) (Q:α→Prop):Prop:=∃ i a,(∀ n,i≤n→c n=some a)∧Q a
def EvQ (tbl:Nat→Option AFn) (f:Nat) (as:List AV) (st:St) (Q:AV→St→Prop):Prop:=∃ r st',Ev tbl f as st r st'∧Q r st'
theorem wb {α:Type} {a:α} {Q:α→Prop} (h:Q a):WC (fun _=>some a) Q:=⟨0,a,fun _ _=>rfl,h⟩
theorem WC.mono {α:Type} {c:Nat→Option α} {P Q:α→Prop} (h:WC c P) (i:∀ a,P a→Q a):WC c Q :=
 let ⟨n,a,ha,hp⟩:=h; ⟨n,a,ha,i a hp⟩
theorem WC.obind {α β:Type} {c:Nat→Option α} {k:Nat→α→Option β} {P:α→Prop} {Q:β→Prop} (h:WC c P) (hk:∀ a,P a→WC (fun n=>k n a) Q):WC (fun n=>Go.Cb.obind (c n) (k n)) Q:=by obtain⟨n,a,i,u⟩:=h;obtain⟨m,b,l,v⟩:=hk a u;refine⟨max n m,b,fun j t=>?_,v⟩;show Go.Cb.obind (c j) (k j)=some b;rw[i j (by omega),o9];exact l j (Nat.le_trans (Nat.le_max_right n m) t)
theorem EvQ.mono {tbl:Nat→Option AFn} {f:Nat} {as:List AV} {st:St} {P Q:AV→St→Prop} (h:EvQ tbl f as st P) (i:∀ r st',P r st'→Q r st'):EvQ tbl f as st Q :=
 let ⟨r,st',he,hp⟩:=h; ⟨r,st',he,i r st' hp⟩
section
variable {tbl:Nat→Option AFn}
theorem wa {β:Type} {f:Nat} {as i:List AV} {bx:AV} {st:St} {k:Nat→AV×St→Option β} {P:AV→St→Prop} {Q:β→Prop}
 (h:EvQ tbl f i st P) (v:m8 as=true) (z:as.map AV.weak=i) (hk:∀ r st',P r st'→WC (fun n=>k n (r,st')) Q):WC (fun n=>Go.Cb.obind (p2 (n6 f (j9 tbl n) as bx st)) (k n)) Q:=by
 obtain⟨r,st',t,y⟩:=h;obtain⟨B,j⟩:=t.ge;refine WC.obind (P:=fun x=>x=(r,st')) ⟨B,(r,st'),fun n u=>?_,rfl⟩ (fun a l=>l ▸ hk r st' y);simp only[n6,v,if_true,z,j n u,AN,a7h]
theorem wi {β:Type} {f:Nat} {first i as j:List AV} {bx:AV} {st:St} {k:Nat→AV×St→Option β} {P:AV→St→Prop} {Q:β→Prop}
 (h:EvQ tbl f j st P) (y:m8 as=true) (B:(first++as++i).map AV.weak=j) (hk:∀ r st',P r st'→WC (fun n=>k n (r,st')) Q):WC (fun n=>Go.Cb.obind (p2 (D5 (j9 tbl n) (.func f first i::as) bx st)) (k n)) Q:=by
 obtain⟨r,st',u,z⟩:=h;obtain⟨D,l⟩:=u.ge;refine WC.obind (P:=fun x=>x=(r,st')) ⟨D,(r,st'),fun n v=>?_,rfl⟩ (fun a t=>t ▸ hk r st' z);simp only[D5,y,if_true,B,l n v,AN,a7h]
def a1q (id:Nat) (o:Out):Out:=match o with
 | (.exit i,fr,st)=>if i=id then(.normal,fr,st)else(.exit i,fr,st)
 | o=>o
def blkK (id:Nat) (x:Option Out):Option Out:=match x with
 | some o=>some (a1q id o)
 | none=>none
theorem a7N (id:Nat) (o:Out):blkK id (some o)=some (a1q id o):=b9 rfl
theorem a8p (id:Nat) (fr:List AV) (st:St):a1q id (.normal,fr,st)=(.normal,fr,st):=b9 rfl
theorem b3Y (id:Nat) (fr:List AV) (st:St):a1q id (.ret,fr,st)=(.ret,fr,st):=b9 rfl
theorem b1d (id i:Nat) (fr:List AV) (st:St):a1q id (.exit i,fr,st)=if i=id then(.normal,fr,st)else(.exit i,fr,st):=b9 rfl
theorem L8 {id:Nat} {x i:Option Out} (h:x=i):blkK id x=blkK id i:=by rw[h]
theorem b6E (call:d8) (n id:Nat) (a:ACode) (fr:List AV) (st:St):exec call n (.blk id a) fr st=blkK id (exec call n a fr st):=by
 simp only[exec,blkK];cases exec call n a fr st with
 | none=>rfl
 | some o =>
  obtain⟨e,j,st'⟩:=o;cases e with
  | normal=>rfl
  | ret=>rfl
  | exit i=>by_cases h:i=id<;>simp[a1q,h]
theorem WC.seqK {c:Nat→Option Out} {g:Nat→List AV→St→Option Out} {P Q:Out→Prop} (h:WC c P) (hk:∀ o,P o→WC (fun n=>Go.Cb.seqK (some o) (g n)) Q):WC (fun n=>Go.Cb.seqK (c n) (g n)) Q:=by obtain⟨n,a,i,t⟩:=h;obtain⟨m,b,l,u⟩:=hk a t;exact⟨max n m,b,fun j v=>by dsimp only; rw[i j (by omega)]; exact l j (by omega),u⟩
theorem WC.blkK {id:Nat} {c:Nat→Option Out} {Q:Out→Prop} (h:WC c (fun o=>Q (a1q id o))):WC (fun n=>Go.Cb.blkK id (c n)) Q:=by obtain⟨n,a,i,t⟩:=h;exact⟨n,_,fun j l=>by dsimp only; rw[i j l,a7N],t⟩
theorem WC.finK {rs:List ResK} {c:Nat→Option Out} {P:Out→Prop} {Q:AV×St→Prop} (h:WC c P) (hk:∀ o,P o→WC (fun n=>Go.Cb.finK rs (some o)) Q):WC (fun n=>Go.Cb.finK rs (c n)) Q:=by obtain⟨n,a,i,t⟩:=h;obtain⟨m,b,l,u⟩:=hk a t;exact⟨max n m,b,fun j v=>by dsimp only; rw[i j (by omega)]; exact l j (by omega),u⟩
theorem WC.of_xc {x:ACode} {fr:List AV} {st:St} {out:Out} {Q:Out→Prop} (h:XC tbl x fr st out) (j:Q out):WC (fun n=>exec (j9 tbl n) n x fr st) Q:=by obtain⟨n,i⟩:=h.ge;exact⟨n,out,i,j⟩
theorem WC.xc {x:ACode} {fr:List AV} {st:St} {Q:Out→Prop} (h:WC (fun n=>exec (j9 tbl n) n x fr st) Q):∃ out,XC tbl x fr st out∧Q out:=by obtain⟨n,a,i,j⟩:=h;exact⟨a,⟨n,i n (AJ n)⟩,j⟩
theorem WC.loop {x:ACode} {Q:Out→Prop} (I:Nat→List AV→St→Prop) {m:Nat} {fr:List AV} {st:St} (v:I m fr st)
 (y:∀ m fr st,I m fr st→WC (fun n=>exec (j9 tbl n) n x fr st) (fun o=>(∃ m' i st',o=(.normal,i,st')∧m' < m∧I m' i st')∨(o.1≠.normal∧Q o))) :
 WC (fun n=>exec (j9 tbl n) n (.loop x) fr st) Q:=by
 have key:∀ m fr st,I m fr st→∃ out,LX tbl x fr st out∧Q out:=by
  intro m;induction m using Nat.strongRecOn with
  | ind m B =>
   intro fr st h;obtain⟨out,u,z⟩:=(y m fr st h).xc;rcases z with⟨m',i,st',rfl,l,hi⟩|⟨t,j⟩
   · obtain⟨out,hl,j⟩:=B m' l i st' hi;exact⟨out,LX.step u hl,j⟩
   · obtain⟨e,i,st'⟩:=out;exact⟨_,LX.done u t,j⟩
 obtain⟨out,hl,j⟩:=key m fr st v;exact WC.of_xc (XC.loop hl) j
theorem EvQ.of_body {f:Nat} {fn:AFn} {as:List AV} {st:St} {Q:AV→St→Prop} (i:tbl f=some fn) (l:fn.ext=none) (hl:as.length=fn.np)
 (h:WC (fun n=>Go.Cb.finK fn.results (exec (j9 tbl n) n fn.code (as++List.replicate (fn.nv - fn.np) .undef) st)) (fun r=>Q r.1 r.2)):EvQ tbl f as st Q:=by
 obtain⟨n,a,j,t⟩:=h;refine⟨a.1,a.2,⟨n+1,?_⟩,t⟩;simp only[j9,i,l];rw[S7 _ _ _ _ _ hl];exact j n (AJ n)
theorem EvQ.of_ext {f:Nat} {fn:AFn} {as:List AV} {st:St} {e:List AV→St→Option (AV×St)} {r:AV×St} {Q:AV→St→Prop} (i:tbl f=some fn) (j:fn.ext=some e) (h:e as st=some r) (l:Q r.1 r.2):EvQ tbl f as st Q :=
 ⟨_,_,Ev.of_ext i j h,l⟩
theorem EvQ.of_ev {f:Nat} {as:List AV} {st:St} {r:AV} {st':St} {Q:AV→St→Prop} (h:Ev tbl f as st r st') (i:Q r st'):EvQ tbl f as st Q:=⟨r,st',h,i⟩
theorem EvQ.to_ev {f:Nat} {as:List AV} {st:St} {r:AV} {st':St} (h:EvQ tbl f as st (fun a b=>a=r∧b=st')):Ev tbl f as st r st':=by obtain⟨a,b,i,rfl,rfl⟩:=h;exact i
end
end Go.Cb
namespace Go.Cb
open Classical
section
variable {tbl:Nat→Option AFn}
theorem wc {I:Nat→List AV→St→Prop} {m m':Nat} {i:List AV} {st':St} {R:Out→Prop} (j:m' < m) (hi:I m' i st') :
 WC (fun _=>some (Ex.normal,i,st')) (fun o=>(∃ m' i st',o=(.normal,i,st')∧m' < m∧I m' i st')∨(o.1≠.normal∧R o)):=wb (Or.inl ⟨m',i,st',rfl,j,hi⟩)
theorem wd {I:Nat→List AV→St→Prop} {m id:Nat} {i:List AV} {st':St} {R:Out→Prop} (h:R (.exit id,i,st')) :
 WC (fun _=>some (Ex.exit id,i,st')) (fun o=>(∃ m' i st',o=(.normal,i,st')∧m' < m∧I m' i st')∨(o.1≠.normal∧R o)):=wb (Or.inr ⟨fun h=>by simp at h,h⟩)
theorem wh {f:Nat} {fn:AFn} {as:List AV} {st:St} {Q:AV→St→Prop} (i:tbl f=some fn) (j:fn.ext=none) (hl:as.length=fn.np)
 (h:WC (fun n=>exec (j9 tbl n) n fn.code (as++List.replicate (fn.nv - fn.np) .undef) st) (fun o=>∃ r st',Go.Cb.finK fn.results (some o)=some (r,st')∧Q r st')):EvQ tbl f as st Q :=
 EvQ.of_body i j hl (WC.finK h fun o ⟨r,st',t,l⟩=>⟨0,(r,st'),fun _ _=>t,l⟩)
end
end Go.Cb
namespace Go.Cb
open Classical
theorem a4p {n:Int} (i:-9223372036854775808≤n) (j:n < 9223372036854775808):A0 .i64 n=n:=by
 rw[R8];simp only[IntKind.wrap,IntKind.signed,IntKind.bits,Bool.true_and];split
 · rename_i h; have h:=of_decide_eq_true h; omega
 · rename_i h; have h:¬ (n % 2 ^ 64 ≥ 2 ^ (64 - 1)):=fun x=>h (decide_eq_true x); omega
theorem a0X {i:Nat} (h:i+1 < 2 ^ 63):A0 .i64 (a6U (i:Int) 1)=((i+1:Nat):Int):=by rw[addI_eq,a4p (by omega) (by omega)];omega
theorem ltN (i j:Nat):ltI (i:Int) (j:Int)=decide (i < j):=by
 rw[ltI_eq];by_cases h:i < j
 · simp[h]
 · simp[h]
theorem g8z (i j:Nat):eqI (i:Int) (j:Int)=decide (i=j):=by
 rw[eqI_eq];by_cases h:i=j
 · simp[h]
 · simp[h]; omega
theorem D8 (b:Bool):b=true∨b=false:=by cases b<;>simp
theorem a3b {i:Nat} {xs:List (List AV)} (h:∀ r∈xs,r.length=i):m4 i xs=true:=by
 cases xs with
 | nil=>rfl
 | cons r rs=>simp[m4,h r (by simp)]
def gV (x:AV) (want:Bool) (v:AV):AV:=match x with
 | .bool b=>if b == want then v else .tuple []
 | _=>.tuple []
theorem f9a (v:AV):gV (.bool true) true v=v:=b9 rfl
theorem g27 (v:AV):gV (.bool false) false v=v:=b9 rfl
theorem g0G (v:AV):gV (.bool true) false v=.tuple []:=b9 rfl
theorem g3s (v:AV):gV (.bool false) true v=.tuple []:=b9 rfl
theorem d2x (want:Bool) (v:AV):gV (.tuple []) want v=.tuple []:=b9 rfl
theorem b11 (c want:Bool) (v:AV):gv (.bool c) want (some v)=some (gV (.bool c) want v):=by cases c<;>cases want<;>rfl
theorem a9B (x:AV) (w b want:Bool) (v:AV):gv (gV x w (.bool b)) want (some v)=some (gV (gV x w (.bool b)) want v):=by
 unfold gV;cases x with
 | bool c=>cases c<;>cases w<;>cases b<;>cases want<;>rfl
 | _=>rfl
theorem L7 {x i:AV} {want:Bool} {e e':Option AV} (l:x=i) (t:i=.bool want→e=e'):gv x want e=gv i want e':=by
 subst l;unfold gv;split
 · rename_i b;by_cases j:b=want
   · rw[t (by rw[j])]
   · simp[j]
 · rfl
 · rfl
theorem c8U (x:AV) (w:Bool) (v:AV):(gV x w v).weak=gV x w v.weak:=by
 unfold gV;cases x with
 | bool c=>dsimp only; split<;>rfl
 | _=>rfl
theorem b7W (x:AV) (w:Bool) (v:AV):(gV x w v).strip=gV x w v.strip:=by
 unfold gV;cases x with
 | bool c=>dsimp only; split<;>rfl
 | _=>rfl
theorem b6O (x:AV) (w:Bool) (v:AV):(gV x w v).stripB=gV x w v.stripB:=by
 unfold gV;cases x with
 | bool c=>dsimp only; split<;>rfl
 | _=>rfl
theorem e1B (call:d8) (a b bx:AV) (st:St):p1 (A9 call [.bool true,a,b] bx st)=if a.plain then some a else none:=by unfold A9; dsimp only; by_cases h:a.plain=true<;>simp[h,p1]
theorem f4Y (call:d8) (a b bx:AV) (st:St):p1 (A9 call [.bool false,a,b] bx st)=if b.plain then some b else none:=by unfold A9; dsimp only; by_cases h:b.plain=true<;>simp[h,p1]
theorem d12 (call:d8) (c d:Bool) (bx:AV) (st:St):p1 (A9 call [.bool c,.bool true,gV (.bool c) false (.bool d)] bx st)=some (.bool (c || d)):=by cases c<;>rfl
theorem b7R (call:d8) (c d:Bool) (bx:AV) (st:St):p1 (A9 call [.bool c,gV (.bool c) true (.bool d),.bool false] bx st)=some (.bool (c && d)):=by cases c<;>rfl
theorem b6S (b:Bool):(AV.bool b).weak=.bool b:=b9 rfl
theorem b9A (k:IntKind) (n:Int):(AV.int k n).weak=.int k n:=b9 rfl
theorem b72 (s:List Nat):(AV.str s).weak=.str s:=b9 rfl
theorem b5g (o:Bool) (xs:List (List AV)):(AV.list o xs).weak=.list false xs:=b9 rfl
theorem b86 (o f:Nat):(AV.ptr o f).weak=.ptr o f:=b9 rfl
theorem b6K:AV.nilp.weak=.nilp:=b9 rfl
theorem b5W:AV.nils.weak=.nils:=b9 rfl
theorem d3y (cs:List AV):(AV.ro cs).weak=.ro cs:=b9 rfl
theorem b9u (i f:Nat):(AV.loc i f).weak=.loc i f:=b9 rfl
theorem b7l (o:Nat):(AV.map o).weak=.map o:=b9 rfl
theorem b6o:AV.nilm.weak=.nilm:=b9 rfl
theorem b5w (f:Nat) (a b:List AV):(AV.func f a b).weak=.func f a b:=b9 rfl
theorem b5E:AV.nilf.weak=.nilf:=b9 rfl
theorem a1j (cs:List AV):(AV.agg cs).weak=.agg (cs.map AV.weak1):=b9 rfl
theorem c9V (o f n s:Nat):(AV.sl o f n s).weak=.sl o f n s:=b9 rfl
theorem b4S (t:Nat) (v:AV):(AV.iface t v).weak=.iface t v:=b9 rfl
theorem b6v:AV.nili.weak=.nili:=b9 rfl
theorem b39 (vs:List AV):(AV.tuple vs).weak=.tuple vs:=b9 rfl
theorem b2D:AV.undef.weak=.undef:=b9 rfl
theorem b71 (cs:List AV):(AV.box cs).weak=.box cs:=b9 rfl
theorem b35 (b:Bool):(AV.bool b).weak1=.bool b:=b9 rfl
theorem b5h (k:IntKind) (n:Int):(AV.int k n).weak1=.int k n:=b9 rfl
theorem b6b (s:List Nat):(AV.str s).weak1=.str s:=b9 rfl
theorem b3w (o:Bool) (xs:List (List AV)):(AV.list o xs).weak1=.list false xs:=b9 rfl
theorem b7I (o f n s:Nat):(AV.sl o f n s).weak1=.sl o f n s:=b9 rfl
theorem b3v (f:Nat) (a b:List AV):(AV.func f a b).weak1=.func f a b:=b9 rfl
theorem b6P (o f:Nat):(AV.ptr o f).weak1=.ptr o f:=b9 rfl
theorem b4q:AV.nilp.weak1=.nilp:=b9 rfl
theorem b4a:AV.nils.weak1=.nils:=b9 rfl
theorem X1 (o:Nat):(AV.map o).weak1=.map o:=b9 rfl
theorem b3H:AV.nilm.weak1=.nilm:=b9 rfl
theorem b4V (b:Bool):(AV.bool b).strip=.bool b:=b9 rfl
theorem b5R (k:IntKind) (n:Int):(AV.int k n).strip=.int k n:=b9 rfl
theorem b5v (s:List Nat):(AV.str s).strip=.str s:=b9 rfl
theorem b3e (o:Bool) (xs:List (List AV)):(AV.list o xs).strip=.list o xs:=b9 rfl
theorem b5U (o f:Nat):(AV.ptr o f).strip=.ptr o f:=b9 rfl
theorem b3S:AV.nilp.strip=.nilp:=b9 rfl
theorem b4y:AV.nils.strip=.nils:=b9 rfl
theorem b8D (cs:List AV):(AV.ro cs).strip=.ro cs:=b9 rfl
theorem b52 (i f:Nat):(AV.loc i f).strip=.undef:=b9 rfl
theorem b6J (o:Nat):(AV.map o).strip=.map o:=b9 rfl
theorem b23:AV.nilm.strip=.nilm:=b9 rfl
theorem b3Z (f:Nat) (a b:List AV):(AV.func f a b).strip=.func f a b:=b9 rfl
theorem b2S:AV.nilf.strip=.nilf:=b9 rfl
theorem b5K (cs:List AV):(AV.agg cs).strip=.agg cs:=b9 rfl
theorem c0n (o f n s:Nat):(AV.sl o f n s).strip=.sl o f n s:=b9 rfl
theorem b1B (vs:List AV):(AV.tuple vs).strip=.tuple vs:=b9 rfl
theorem b1e:AV.undef.strip=.undef:=b9 rfl
theorem b0X (b:Bool):(AV.bool b).stripB=.bool b:=b9 rfl
theorem b4j (k:IntKind) (n:Int):(AV.int k n).stripB=.int k n:=b9 rfl
theorem b25 (s:List Nat):(AV.str s).stripB=.str s:=b9 rfl
theorem b01 (o:Bool) (xs:List (List AV)):(AV.list o xs).stripB=.list o xs:=b9 rfl
theorem b2p (o f:Nat):(AV.ptr o f).stripB=.ptr o f:=b9 rfl
theorem b0T:AV.nilp.stripB=.nilp:=b9 rfl
theorem b0Y:AV.nils.stripB=.nils:=b9 rfl
theorem b5j (cs:List AV):(AV.ro cs).stripB=.ro cs:=b9 rfl
theorem b37 (i f:Nat):(AV.loc i f).stripB=.loc i f:=b9 rfl
theorem b3A (o:Nat):(AV.map o).stripB=.map o:=b9 rfl
theorem b1v:AV.nilm.stripB=.nilm:=b9 rfl
theorem b1o (f:Nat) (a b:List AV):(AV.func f a b).stripB=.func f a b:=b9 rfl
theorem b1A:AV.nilf.stripB=.nilf:=b9 rfl
theorem b3b (cs:List AV):(AV.agg cs).stripB=.agg cs:=b9 rfl
theorem b47 (xs:List (List AV)):(AV.fresh xs).weak=.fresh xs:=b9 rfl
theorem b0U (xs:List (List AV)):(AV.fresh xs).strip=.fresh xs:=b9 rfl
theorem a9R (xs:List (List AV)):(AV.fresh xs).stripB=.fresh xs:=b9 rfl
theorem b6u (o f n s:Nat):(AV.sl o f n s).stripB=.sl o f n s:=b9 rfl
theorem b0B (vs:List AV):(AV.tuple vs).stripB=.tuple vs:=b9 rfl
theorem a8S:AV.undef.stripB=.undef:=b9 rfl
def e7X {α:Type} (K:α→Option Out) (g:List AV→St→Option Out) (a:α):Option Out:=Go.Cb.seqK (K a) g
def d6n {α:Type} (id:Nat) (K:α→Option Out) (a:α):Option Out:=Go.Cb.blkK id (K a)
theorem e7d {α:Type} (K:α→Option Out) (g:List AV→St→Option Out) (a:α):e7X K g a=Go.Cb.seqK (K a) g:=b9 rfl
theorem f39 {α:Type} (id:Nat) (K:α→Option Out) (a:α):d6n id K a=Go.Cb.blkK id (K a):=b9 rfl
theorem b1g {α:Type} (x:Option α) (f:α→Option Out) (g:List AV→St→Option Out):Go.Cb.seqK (Go.Cb.obind x f) g=Go.Cb.obind x (e7X f g):=by cases x<;>rfl
theorem b0R {α:Type} (id:Nat) (x:Option α) (f:α→Option Out):Go.Cb.blkK id (Go.Cb.obind x f)=Go.Cb.obind x (d6n id f):=by cases x<;>rfl
def a2W (call:d8) (n:Nat) (a:ACode) (fr:List AV) (st:St) (_:Unit):Option Out:=exec call n a fr st
def b8E (A:Unit→Option Out) (g:List AV→St→Option Out) (u:Unit):Option Out:=Go.Cb.seqK (A u) g
def b7H (id:Nat) (A:Unit→Option Out) (u:Unit):Option Out:=Go.Cb.blkK id (A u)
theorem e8L (call:d8) (n:Nat) (a:ACode) (fr:List AV) (st:St) (u:Unit):a2W call n a fr st u=exec call n a fr st:=b9 rfl
theorem d8d (A:Unit→Option Out) (g:List AV→St→Option Out) (u:Unit):b8E A g u=Go.Cb.seqK (A u) g:=b9 rfl
theorem e6S (id:Nat) (A:Unit→Option Out) (u:Unit):b7H id A u=Go.Cb.blkK id (A u):=b9 rfl
def brT (c:AV) (A B:Unit→Option Out):Option Out:=match c with
 | .bool true=>A ()
 | .bool false=>B ()
 | _=>none
theorem b9Y (A B:Unit→Option Out):brT (.bool true) A B=A ():=b9 rfl
theorem b6M (A B:Unit→Option Out):brT (.bool false) A B=B ():=b9 rfl
theorem O3 {c i:AV} {A B:Unit→Option Out} (h:c=i):brT c A B=brT i A B:=by rw[h]
theorem b7s (c:AV) (A B:Unit→Option Out) (g:List AV→St→Option Out):Go.Cb.seqK (brT c A B) g=brT c (b8E A g) (b8E B g):=by
 cases c<;>try rfl
 rename_i b; cases b<;>rfl
theorem b92 (id:Nat) (c:AV) (A B:Unit→Option Out):Go.Cb.blkK id (brT c A B)=brT c (b7H id A) (b7H id B):=by
 cases c<;>try rfl
 rename_i b; cases b<;>rfl
theorem d6d (call:d8) (n:Nat) (c:AV) (a b:ACode) (fr:List AV) (st:St):Go.Cb.br c (exec call n a fr st) (exec call n b fr st)=brT c (a2W call n a fr st) (a2W call n b fr st):=by cases c<;>try rfl
theorem b2O (call:d8) (n:Nat) (kill:List Nat) (i:List AOper) (c:Opd) (a b:ACode) (fr:List AV) (st:St) :
 exec call n (.test kill i c a b) fr st=a6Q call i ⟨i6 kill fr,fun _=>.undef,st⟩ fun σ=>brT (c.read σ) (a2W call n a σ.fr σ.st) (a2W call n b σ.fr σ.st):=by
 rw[a3Z];simp only[d6d]
def b4X (call:d8) (n:Nat) (x:ACode) (fr:List AV) (st:St):Option Out:=exec call n (.loop x) fr st
theorem b3G (call:d8) (n:Nat) (x:ACode) (fr:List AV) (st:St):exec call n (.loop x) fr st=Go.Cb.obind (b4X call n x fr st) some:=by unfold b4X; cases exec call n (.loop x) fr st<;>rfl
theorem wg {c:Bool} {A B:Nat→Unit→Option Out} {Q:Out→Prop} (j:c=true→WC (fun n=>A n ()) Q) (i:c=false→WC (fun n=>B n ()) Q):WC (fun n=>brT (.bool c) (A n) (B n)) Q:=by
 cases c with
 | true=>exact j rfl
 | false=>exact i rfl
theorem we {tbl:Nat→Option AFn} {β:Type} {x:ACode} {K:Nat→Out→Option β} {Q:β→Prop} (I:Nat→List AV→St→Prop) {m:Nat} {fr:List AV} {st:St} (j:I m fr st)
 (l:∀ m fr st,I m fr st→WC (fun n=>exec (j9 tbl n) n x fr st) (fun o=>(∃ m' i st',o=(.normal,i,st')∧m' < m∧I m' i st')∨(o.1≠.normal∧WC (fun n=>K n o) Q))) :
 WC (fun n=>Go.Cb.obind (b4X (j9 tbl n) n x fr st) (K n)) Q:=WC.obind (WC.loop I j l) fun _ t=>t
theorem wj {β:Type} {c want:Bool} {st:St} {E:Nat→Option (AV×St)} {k:Nat→AV×St→Option β} {Q:β→Prop} (l:c=want→WC (fun n=>Go.Cb.obind (E n) (k n)) Q) (j:c=!want→WC (fun n=>k n (.tuple [],st)) Q) :
 WC (fun n=>Go.Cb.obind (gv2 (.bool c) want st (E n)) (k n)) Q:=by
 by_cases h:c=want
 · subst h;have e:∀ n,gv2 (.bool c) c st (E n)=E n:=fun n=>by cases c<;>rfl
   simp only[e];exact l rfl
 · have i:c=!want:=by cases c<;>cases want<;>simp_all
   have e:∀ n,gv2 (.bool c) want st (E n)=some (.tuple [],st):=fun n=>by subst i; cases want<;>rfl
   simp only[e,o9];exact j i
end Go.Cb
namespace Go.Cb
def W (a:AV):AV:=AV.weak (AV.stripB a)
def brE (c:AV) (call:d8) (n:Nat) (a b:ACode) (fr:List AV) (st:St):Option Out:=brT c (a2W call n a fr st) (a2W call n b fr st)
def m1 {β:Type} (a:AV) (f:AV→Option β):Option β:=obind (p1 (some (a,AV.undef,([]:St)))) f
def gm {β:Type} (x:AV) (w:Bool) (a:AV) (f:AV→Option β):Option β:=obind (gv x w (some a)) f
theorem S4 {β:Type} {a i:AV} {f:AV→Option β} (h:a=i):m1 a f=m1 i f:=by rw[h]
theorem R9 {β:Type} {x j a i:AV} {w:Bool} {f:AV→Option β} (l:x=j) (t:j=.bool w→a=i):gm x w a f=gm j w i f:=by unfold gm;rw[L7 (e:=some a) (e':=some i) l (fun h=>by rw[t h])]
end Go.Cb
namespace Go.Cb.R
open Go.Cb
theorem g8P (call:d8) (bx:AV) (st:St) (a:AV):a0k call [a] bx st=some (a,bx,st):=b9 rfl
theorem b4p (call:d8) (bx:AV) (st:St) (o f:Nat):B6 call [.ptr o f] bx st=some (.ptr o f,bx,st):=b9 rfl
theorem b2P (call:d8) (bx:AV) (st:St) (o f:Nat):B6 call [.loc o f] bx st=some (.loc o f,bx,st):=b9 rfl
theorem b6j (call:d8) (bx:AV) (st:St) (cs:List AV):B6 call [.ro cs] bx st=some (.ro cs,bx,st):=b9 rfl
theorem b1x (call:d8) (bx:AV) (st:St) (f:Nat) (a b:List AV):B6 call [.func f a b] bx st=some (.func f a b,bx,st):=b9 rfl
theorem c58 (call:d8) (st:St) (zero:List AV):O8 zero call [] .undef st=some (.undef,.box zero,st):=b9 rfl
theorem d4C (call:d8) (st:St) (a:AV):Q5 call [a] .undef st=if a.plain then some (.undef,.box a.cellsW,st)else none:=b9 rfl
theorem b7S (call:d8) (bx:AV) (st:St) (zero:List AV):E4 zero call [] bx st=some (.ptr st.length 0,bx,st++[.cells zero]):=b9 rfl
theorem e0H (call:d8) (bx:AV) (st:St) (a:AV):J9 call [a] bx st=if a.plain then some (.ptr st.length 0,bx,st++[.cells a.cellsW])else none:=b9 rfl
theorem c9l (call:d8) (bx:AV) (st:St) (zero:List AV) (i:List (Nat×Nat)) (as:List AV):I9 zero i call as bx st=(x9 i as zero).map fun cs=>(.agg cs,bx,st):=b9 rfl
theorem b9L (call:d8) (bx:AV) (st:St) (i:Nat) (zero:List (List AV)) (at_:List Nat) (as:List AV):H5 i zero at_ call as bx st=(s8 i at_ as zero).map fun rs=>(.list true rs,bx,st):=b9 rfl
theorem d9c (call:d8) (st:St) (i off n:Nat) (agg:Bool) (cs:List AV):G4 i agg n call [.loc i off] (.box cs) st=(j0 agg n (cs.drop off)).map (fun v=>(v,.box cs,st)):=by unfold G4; simp only[if_true]
theorem d5Y (call:d8) (bx:AV) (st:St) (o off n:Nat) (agg:Bool):B0 agg n call [.ptr o off] bx st=match st[o]? with|some (.cells cs)=>(j0 agg n (cs.drop off)).map (fun v=>(v,bx,st))|_=>none:=b9 rfl
theorem e3s (call:d8) (bx:AV) (st:St) (n:Nat) (agg:Bool) (cs:List AV):J7 agg n call [.ro cs] bx st=(j0 agg n cs).map (fun v=>(v,bx,st)):=b9 rfl
theorem c5a (call:d8) (bx:AV) (st:St) (n:Nat) (agg:Bool) (cs:List AV):D3 agg n call [.ro cs] bx st=(j0 agg n cs).map (fun v=>(v,bx,st)):=b9 rfl
theorem ldAn_ptr (call:d8) (bx:AV) (st:St) (o off n:Nat) (agg:Bool):D3 agg n call [.ptr o off] bx st=match st[o]? with|some (.cells cs)=>(j0 agg n (cs.drop off)).map (fun v=>(v,bx,st))|_=>none:=b9 rfl
theorem c4V (call:d8) (st:St) (i off:Nat) (cs:List AV):I6 i call [.loc i off] (.box cs) st=match cs[off]? with|some c=>some (c,.box (cs.set off c.weak1),st)|none=>none:=by unfold I6; simp only[if_true]; rfl
theorem c4o (call:d8) (bx:AV) (st:St) (o off:Nat):B2 call [.ptr o off] bx st=match st[o]? with|some (.cells cs)=>(match cs[off]? with|some c=>some (c,bx,st.set o (.cells (cs.set off c.weak1)))|none=>none)|_=>none:=b9 rfl
theorem d9y (call:d8) (st:St) (i n off:Nat) (x:AV) (cs:List AV):J5 i n call [.loc i off,x] (.box cs) st=if x.plain=true∧x.cells.length=n∧off+n≤cs.length then some (.tuple [],.box (n8 cs off x.cells),st)else none:=by unfold J5; simp only[true_and]
theorem f3h (call:d8) (bx:AV) (st:St) (o off n:Nat) (x:AV):D2 n call [.ptr o off,x] bx st=match st[o]? with|some (.cells cs)=>(if x.plain=true∧x.cells.length=n∧off+n≤cs.length then some (.tuple [],bx,st.set o (.cells (n8 cs off x.cells)))else none)|_=>none:=by unfold D2; simp only[fL_eq]; rfl
theorem c6L (call:d8) (bx:AV) (st:St) (off o f:Nat):K6 off call [.ptr o f] bx st=some (.ptr o (f+off),bx,st):=b9 rfl
theorem c1Z (call:d8) (bx:AV) (st:St) (off o f:Nat):K6 off call [.loc o f] bx st=some (.loc o (f+off),bx,st):=b9 rfl
theorem f1x (call:d8) (bx:AV) (st:St) (off:Nat) (cs:List AV):K6 off call [.ro cs] bx st=some (.ro (cs.drop off),bx,st):=b9 rfl
theorem f7d (call:d8) (bx:AV) (st:St) (off n:Nat) (agg:Bool) (cs:List AV):P8 off n agg call [.agg cs] bx st=if off+n≤cs.length then(j0 agg n (cs.drop off)).map (fun v=>(v,bx,st))else none:=b9 rfl
theorem f50 (call:d8) (bx:AV) (st:St) (j:Nat) (w:Bool) (xs:List (List AV)) (k:IntKind) (i:Int):I1 j call [.list w xs,.int k i] bx st=if 0≤i then(match xs[i.toNat]? with|some r=>if r.length=j then some (.ro r,bx,st)else none|none=>none)else none:=b9 rfl
theorem d9R (call:d8) (bx:AV) (st:St) (j o f n s:Nat) (k:IntKind) (i:Int):I1 j call [.sl o f n s,.int k i] bx st=if 0≤i∧i < (n:Int)∧s=j then some (.ptr o (f+i.toNat*j),bx,st)else none:=b9 rfl
theorem b5e (call:d8) (bx:AV) (st:St):G2 call [.nils] bx st=some (.int .i64 0,bx,st):=b9 rfl
theorem c6N (call:d8) (bx:AV) (st:St) (o f n s:Nat):G2 call [.sl o f n s] bx st=some (.int .i64 n,bx,st):=b9 rfl
theorem b5Q (call:d8) (bx:AV) (st:St) (i:Nat) (zero:List (List AV)) (at_:List Nat) (as:List AV):F3 i zero at_ call as bx st=(m9 i at_ as zero).map fun rs=>(.fresh rs,bx,st):=b9 rfl
theorem b68 (call:d8) (bx:AV) (st:St) (i:Nat) (zero:List (List AV)) (at_:List Nat) (as:List AV):F2 i zero at_ call as bx st=(m9 i at_ as zero).map fun rs=>(.sl st.length 0 zero.length i,bx,st++[.cells rs.flatten]):=b9 rfl
theorem f3P (call:d8) (bx:AV) (st:St) (k i:IntKind) (a b:Int):R3 call [.int k a,.int i b] bx st=if k=i then some (.int k (b22 a b),bx,st)else none:=b9 rfl
theorem e1Y (call:d8) (bx:AV) (st:St) (neg:Bool) (k i:IntKind) (a b:Int) (s t:List Nat):Q6 neg call [.agg [.int k a,.str s],.agg [.int i b,.str t]] bx st=if k=i then some (.bool (a6r neg a b s t),bx,st)else none:=b9 rfl
theorem b06 (i:Nat) (rs:List (List AV)):m9 i [] [] rs=some rs:=b9 rfl
theorem b1n (j i:Nat) (is:List Nat) (p:AV) (l:List AV) (rs:List (List AV)):m9 j (i::is) (p::l) rs=if p.plain=true∧p.cells.length=j∧i < rs.length then m9 j is l (rs.set i (p.cells.map AV.cellW1))else none:=b9 rfl
theorem b8q (call:d8) (bx:AV) (st:St) (i bytes:Nat) (ys:List (List AV)) (gs:List AV):B8 i bytes call (.list true []::.fresh ys::gs) bx st=if ys.isEmpty=false∧m4 i ys=true∧ys.length*bytes≤2 ^ 47∧J1 none st.length gs=true then some (.sl st.length 0 ys.length i,bx,st++[.cells ys.flatten])else none:=b9 rfl
theorem b5V (call:d8) (bx:AV) (st:St) (i bytes:Nat) (ys:List (List AV)) (gs:List AV):B8 i bytes call (.nils::.fresh ys::gs) bx st=if ys.isEmpty=false∧m4 i ys=true∧ys.length*bytes≤2 ^ 47∧J1 none st.length gs=true then some (.sl st.length 0 ys.length i,bx,st++[.cells ys.flatten])else none:=b9 rfl
theorem d0D (call:d8) (bx:AV) (st:St) (i bytes o n s:Nat) (ys:List (List AV)) (gs:List AV):B8 i bytes call (.sl o 0 n s::.fresh ys::gs) bx st=match st[o]? with|some (.cells xs)=>(if s=i∧ys.isEmpty=false∧m4 i ys=true∧xs.length=n*i∧(n+ys.length)*bytes≤2 ^ 47∧J1 (some o) st.length gs=true then some (.sl st.length 0 (n+ys.length) i,bx,st.set o .dead++[.cells (xs++ys.flatten)])else none)|_=>none:=b9 rfl
theorem c7q (o:Option Nat) (n:Nat):J1 o n []=true:=b9 rfl
theorem d3G (o:Option Nat) (n p f:Nat) (gs:List AV):J1 o n (.ptr p f::gs)=(Nat.blt p n && (match o with|some o=>!Nat.beq p o|none=>true) && J1 o n gs):=b9 rfl
theorem e4f {α:Type}:([]:List (List α)).flatten=[]:=b9 rfl
theorem f1B {α:Type} (a:List α) (l:List (List α)):(a::l).flatten=a++l.flatten:=b9 rfl
theorem f7q (call:d8) (bx:AV) (st:St) (w:Bool) (xs:List (List AV)):Q2 call [.list w xs] bx st=(D9 xs).map fun s=>(.str s,bx,st):=b9 rfl
theorem b58:D9 []=some []:=b9 rfl
theorem b6d (n:Int) (rs:List (List AV)):D9 ([.int .u8 n]::rs)=if 0≤n∧n < 256 then(D9 rs).map (n.toNat::·)else none:=b9 rfl
theorem c2q (call:d8) (bx:AV) (st:St) (len j:Nat) (cs:List AV) (k:IntKind) (i:Int):E0 len j call [.ro cs,.int k i] bx st=if 0≤i∧i < (len:Int)then some (.ro (cs.drop (i.toNat*j)),bx,st)else none:=b9 rfl
theorem b9z (call:d8) (bx:AV) (st:St) (len j o f:Nat) (k:IntKind) (i:Int):E0 len j call [.ptr o f,.int k i] bx st=if 0≤i∧i < (len:Int)then some (.ptr o (f+i.toNat*j),bx,st)else none:=b9 rfl
theorem b9j (call:d8) (bx:AV) (st:St) (len j o f:Nat) (k:IntKind) (i:Int):E0 len j call [.loc o f,.int k i] bx st=if 0≤i∧i < (len:Int)then some (.loc o (f+i.toNat*j),bx,st)else none:=b9 rfl
theorem e1y (call:d8) (bx:AV) (st:St) (s:List Nat) (k:IntKind) (i:Int):H8 call [.str s,.int k i] bx st=if 0≤i then(match s[i.toNat]? with|some b=>some (.int .u8 b,bx,st)|none=>none)else none:=b9 rfl
theorem g1g (call:d8) (bx:AV) (st:St) (i hi:Bool) (s:List Nat) (r:List AV):N3 i hi call (.str s::r) bx st=(C7 i hi r s.length).map fun p=>(.str ((s.take p.2).drop p.1),bx,st):=b9 rfl
theorem d9p (call:d8) (bx:AV) (st:St) (i:Nat) (j hi:Bool) (o f n s:Nat) (r:List AV):L4 i j hi call (.sl o f n s::r) bx st=if s=i then(slB j hi r n).map fun p=>(.sl o (f+p.1*i) (p.2 - p.1) s,bx,st)else none:=b9 rfl
theorem f6U (call:d8) (bx:AV) (st:St) (j:Nat) (i hi:Bool) (w:Bool) (xs:List (List AV)) (r:List AV):L4 j i hi call (.list w xs::r) bx st=if m4 j xs then(C7 i hi r xs.length).map fun p=>(.list false ((xs.take p.2).drop p.1),bx,st)else none:=b9 rfl
theorem f8U (call:d8) (bx:AV) (st:St) (w:Bool) (xs:List (List AV)):T1 call [.list w xs] bx st=some (.list true [],bx,st):=b9 rfl
theorem g1A (call:d8) (bx:AV) (st:St) (len i:Nat) (j hi:Bool) (cs r:List AV):P9 len i j hi call (.ro cs::r) bx st=if cs.length=len*i then(C7 j hi r len).map fun p=>(.list false (((P7 i len cs).take p.2).drop p.1),bx,st)else none:=b9 rfl
theorem f6L (call:d8) (bx:AV) (st:St) (op:BinOp) (a b:AV):z6 op call [a,b] bx st=(l8 op a b).map (fun v=>(v,bx,st)):=b9 rfl
theorem d5N (call:d8) (bx:AV) (st:St) (op:BinOp) (a b:AV):N8 op call [a,b] bx st=(a4y op a b).map (fun v=>(v,bx,st)):=b9 rfl
theorem e09 (call:d8) (bx:AV) (st:St) (op:BinOp) (a b:AV):I0 op call [a,b] bx st=(X9 op a b).map (fun v=>(v,bx,st)):=b9 rfl
theorem e9Q (k:IntKind) (a b:Int):l8 .add (.int k a) (.int k b)=some (.int k (A0 k (a6U a b))):=by simp only[l8,if_true]
theorem e3q (k:IntKind) (a b:Int):l8 .sub (.int k a) (.int k b)=some (.int k (A0 k (a9Q a b))):=by simp only[l8,if_true]
theorem e92 (k:IntKind) (a b:Int):l8 .mul (.int k a) (.int k b)=some (.int k (A0 k (a*b))):=by simp only[l8,if_true]
theorem e9P (k:IntKind) (a b:Int):l8 .quo (.int k a) (.int k b)=if b=0 then none else some (.int k (k.wrap (a.tdiv b))):=by simp only[l8,if_true]
theorem d8A (k:IntKind) (a b:Int):l8 .rem (.int k a) (.int k b)=if b=0 then none else some (.int k (a.tmod b)):=by simp only[l8,if_true]
theorem f1U (k:IntKind) (a b:Int):l8 .eql (.int k a) (.int k b)=some (.bool (eqI a b)):=by simp only[l8,if_true]
theorem e5f (k:IntKind) (a b:Int):l8 .neq (.int k a) (.int k b)=some (.bool !(eqI a b)):=by simp only[l8,if_true]
theorem f1H (k:IntKind) (a b:Int):l8 .lss (.int k a) (.int k b)=some (.bool (ltI a b)):=by simp only[l8,if_true]
theorem f0o (k:IntKind) (a b:Int):l8 .leq (.int k a) (.int k b)=some (.bool !(ltI b a)):=by simp only[l8,if_true]
theorem d58 (k:IntKind) (a b:Int):l8 .gtr (.int k a) (.int k b)=some (.bool (ltI b a)):=by simp only[l8,if_true]
theorem e51 (k:IntKind) (a b:Int):l8 .geq (.int k a) (.int k b)=some (.bool !(ltI a b)):=by simp only[l8,if_true]
theorem f2E (a b:List Nat):l8 .add (.str a) (.str b)=if a.length+b.length≤2 ^ 62 then some (.str (a++b))else none:=b9 rfl
theorem f1R (a b:List Nat):l8 .eql (.str a) (.str b)=some (.bool (eqN a b)):=b9 rfl
theorem d7P (a b:List Nat):l8 .neq (.str a) (.str b)=some (.bool !(eqN a b)):=b9 rfl
theorem e13 (a b:List Nat):l8 .lss (.str a) (.str b)=some (.bool (l5 a b)):=b9 rfl
theorem f0e (a b:Bool):a4y .eql (.bool a) (.bool b)=some (.bool (a == b)):=b9 rfl
theorem f0T (a b:Bool):a4y .neq (.bool a) (.bool b)=some (.bool !(a == b)):=b9 rfl
theorem d2Q (o f:Nat):X9 .eql (.ptr o f) .nilp=some (.bool false):=b9 rfl
theorem d1K (o f:Nat):X9 .eql .nilp (.ptr o f)=some (.bool false):=b9 rfl
theorem c1r:X9 .eql .nilp .nilp=some (.bool true):=b9 rfl
theorem c1N (o f:Nat):X9 .neq (.ptr o f) .nilp=some (.bool true):=b9 rfl
theorem c9L (o f:Nat):X9 .neq .nilp (.ptr o f)=some (.bool true):=b9 rfl
theorem d1G:X9 .neq .nilp .nilp=some (.bool false):=b9 rfl
theorem f34 (call:d8) (bx:AV) (st:St) (b:Bool):W2 .not call [.bool b] bx st=some (.bool !b,bx,st):=b9 rfl
theorem e4z (call:d8) (bx:AV) (st:St) (k:IntKind) (n:Int):W2 .neg call [.int k n] bx st=some (.int k (A0 k (0 - n)),bx,st):=b9 rfl
theorem e4Z (call:d8) (bx:AV) (st:St) (k i:IntKind) (n:Int):O1 k call [.int i n] bx st=some (.int k (A0 k n),bx,st):=b9 rfl
theorem g0f (call:d8) (bx:AV) (st:St) (f n:Nat) (as:List AV):S2 f n call as bx st=if m8 as then some (.func f ((as.map AV.weak).take n) ((as.map AV.weak).drop n),bx,st)else none:=b9 rfl
theorem g1J (call:d8) (bx:AV) (st:St):S8 call [] bx st=some (.map st.length,bx,st++[.map []]):=b9 rfl
theorem f5k (call:d8) (bx:AV) (st:St) (i:Nat) (vs:List AV):M7 i call [.tuple vs] bx st=match vs[i]? with|some v=>some (v.weak,bx,st)|none=>none:=b9 rfl
theorem d9Y (call:d8) (bx:AV) (st:St) (s:List Nat):N7 call [.str s] bx st=some (.int .i64 s.length,bx,st):=b9 rfl
theorem d4U (call:d8) (bx:AV) (st:St) (w:Bool) (xs:List (List AV)):G2 call [.list w xs] bx st=some (.int .i64 xs.length,bx,st):=b9 rfl
theorem f8I (call:d8) (bx:AV) (st:St) (i bytes:Nat) (w:Bool) (xs ys:List (List AV)):Q3 i bytes call [.list true xs,.list w ys] bx st=if m4 i xs && m4 i ys && decide ((xs.length+ys.length)*bytes≤2 ^ 47)then some (.list true (xs++ys),bx,st)else none:=b9 rfl
theorem takeVal_t (n:Nat) (cs:List AV):j0 true n cs=if n≤cs.length then some (.agg ((cs.take n).map AV.weak1))else none:=b9 rfl
theorem b5s (n:Nat) (c:AV) (cs:List AV):j0 false n (c::cs)=some c.weak1:=b9 rfl
theorem b3f (cs:List AV):x9 [] [] cs=some cs:=b9 rfl
theorem b2w (off n:Nat) (i:List (Nat×Nat)) (p:AV) (j cs:List AV):x9 ((off,n)::i) (p::j) cs=if p.plain=true∧p.cells.length=n∧off+n≤cs.length then x9 i j (n8 cs off p.cells)else none:=b9 rfl
theorem b3g (i:Nat) (rs:List (List AV)):s8 i [] [] rs=some rs:=b9 rfl
theorem b2y (j i:Nat) (is:List Nat) (p:AV) (l:List AV) (rs:List (List AV)):s8 j (i::is) (p::l) rs=if p.plain=true∧p.cells.length=j∧i < rs.length then s8 j is l (rs.set i (p.cells.map AV.weak1))else none:=b9 rfl
theorem b9c (cs:List AV) (off:Nat) (new:List AV):n8 cs off new=cs.take off++new++cs.drop (off+new.length):=b9 rfl
theorem b5u (n:Nat):C7 false false [] n=some (0,n):=b9 rfl
theorem b67 (l:AV) (n:Nat):C7 true false [l] n=(M4 l n).map fun l=>(l,n):=b9 rfl
theorem b5M (h:AV) (n:Nat):C7 false true [h] n=(M4 h n).map fun h=>(0,h):=b9 rfl
theorem b6U (l h:AV) (n:Nat):C7 true true [l,h] n=match M4 h n with|some h=>(M4 l h).map (fun l=>(l,h))|none=>none:=b9 rfl
theorem c9x (k:IntKind) (i:Int) (j:Nat):M4 (.int k i) j=if 0≤i∧i≤(j:Int)then some i.toNat else none:=b9 rfl
theorem b8G (i:Nat):m4 i []=true:=b9 rfl
theorem b7A (i:Nat) (r:List AV) (rs:List (List AV)):m4 i (r::rs)=(r.length == i):=b9 rfl
theorem c7x (i:Nat) (cs:List AV):c0E i (.box cs)=.loc i 0:=b9 rfl
theorem b21 (b:Bool):AV.plain (.bool b)=true:=b9 rfl
theorem b4g (b:Bool):AV.cells (.bool b)=[.bool b]:=b9 rfl
theorem b0S (b:Bool):AV.cellW1 (.bool b)=.bool b:=b9 rfl
theorem b04 (b:Bool):AV.cellsW (.bool b)=[.bool b]:=b9 rfl
theorem b6Z (k:IntKind) (n:Int):AV.plain (.int k n)=true:=b9 rfl
theorem b6F (k:IntKind) (n:Int):AV.cells (.int k n)=[.int k n]:=b9 rfl
theorem b3o (k:IntKind) (n:Int):AV.cellW1 (.int k n)=.int k n:=b9 rfl
theorem b2E (k:IntKind) (n:Int):AV.cellsW (.int k n)=[.int k n]:=b9 rfl
theorem b6z (s:List Nat):AV.plain (.str s)=true:=b9 rfl
theorem b57 (s:List Nat):AV.cells (.str s)=[.str s]:=b9 rfl
theorem b3E (s:List Nat):AV.cellW1 (.str s)=.str s:=b9 rfl
theorem b3K (s:List Nat):AV.cellsW (.str s)=[.str s]:=b9 rfl
theorem b26 (w:Bool) (xs:List (List AV)):AV.plain (.list w xs)=true:=b9 rfl
theorem b4N (w:Bool) (xs:List (List AV)):AV.cells (.list w xs)=[.list w xs]:=b9 rfl
theorem b5F (o f:Nat):AV.plain (.ptr o f)=true:=b9 rfl
theorem b5S (o f:Nat):AV.cells (.ptr o f)=[.ptr o f]:=b9 rfl
theorem b29 (o f:Nat):AV.cellW1 (.ptr o f)=.ptr o f:=b9 rfl
theorem b4m (o f:Nat):AV.cellsW (.ptr o f)=[.ptr o f]:=b9 rfl
theorem b3D :AV.plain (.nilp)=true:=b9 rfl
theorem b2W :AV.cells (.nilp)=[.nilp]:=b9 rfl
theorem b07 :AV.cellW1 (.nilp)=.nilp:=b9 rfl
theorem b1k :AV.cellsW (.nilp)=[.nilp]:=b9 rfl
theorem b80 (cs:List AV):AV.plain (.ro cs)=true:=b9 rfl
theorem c0f (cs:List AV):AV.cells (.ro cs)=[.ro cs]:=b9 rfl
theorem b6I (cs:List AV):AV.cellW1 (.ro cs)=.ro cs:=b9 rfl
theorem b5X (cs:List AV):AV.cellsW (.ro cs)=[.ro cs]:=b9 rfl
theorem b5f (o:Nat):AV.plain (.map o)=true:=b9 rfl
theorem b5i (o:Nat):AV.cells (.map o)=[.map o]:=b9 rfl
theorem b2T (o:Nat):AV.cellW1 (.map o)=.map o:=b9 rfl
theorem b3c (o:Nat):AV.cellsW (.map o)=[.map o]:=b9 rfl
theorem b2C :AV.plain (.nilm)=true:=b9 rfl
theorem b4z :AV.cells (.nilm)=[.nilm]:=b9 rfl
theorem b1j :AV.cellW1 (.nilm)=.nilm:=b9 rfl
theorem b0Q :AV.cellsW (.nilm)=[.nilm]:=b9 rfl
theorem b2R (f:Nat) (a b:List AV):AV.plain (.func f a b)=true:=b9 rfl
theorem b2X (f:Nat) (a b:List AV):AV.cells (.func f a b)=[.func f a b]:=b9 rfl
theorem b1s (f:Nat) (a b:List AV):AV.cellW1 (.func f a b)=.func f a b:=b9 rfl
theorem b05 (f:Nat) (a b:List AV):AV.cellsW (.func f a b)=[.func f a b]:=b9 rfl
theorem b4Z :AV.plain (.nilf)=true:=b9 rfl
theorem b2Q :AV.cells (.nilf)=[.nilf]:=b9 rfl
theorem b1h :AV.cellW1 (.nilf)=.nilf:=b9 rfl
theorem b1r :AV.cellsW (.nilf)=[.nilf]:=b9 rfl
theorem b8Y (o f n s:Nat):AV.plain (.sl o f n s)=true:=b9 rfl
theorem b8A (o f n s:Nat):AV.cells (.sl o f n s)=[.sl o f n s]:=b9 rfl
theorem b5N (o f n s:Nat):AV.cellW1 (.sl o f n s)=.sl o f n s:=b9 rfl
theorem b6n (o f n s:Nat):AV.cellsW (.sl o f n s)=[.sl o f n s]:=b9 rfl
theorem b0Z (t:Nat) (v:AV):AV.plain (.iface t v)=true:=b9 rfl
theorem b1b (t:Nat) (v:AV):AV.cells (.iface t v)=[.iface t v]:=b9 rfl
theorem a8K (t:Nat) (v:AV):AV.cellW1 (.iface t v)=.iface t v:=b9 rfl
theorem a8V (t:Nat) (v:AV):AV.cellsW (.iface t v)=[.iface t v]:=b9 rfl
theorem b2u :AV.plain (.nili)=true:=b9 rfl
theorem b4Q :AV.cells (.nili)=[.nili]:=b9 rfl
theorem b1a :AV.cellW1 (.nili)=.nili:=b9 rfl
theorem b1w :AV.cellsW (.nili)=[.nili]:=b9 rfl
theorem b3J :AV.plain (.nils)=true:=b9 rfl
theorem b4t :AV.cells (.nils)=[.nils]:=b9 rfl
theorem b1c :AV.cellW1 (.nils)=.nils:=b9 rfl
theorem b1D :AV.cellsW (.nils)=[.nils]:=b9 rfl
theorem b1z (w:Bool) (xs:List (List AV)):AV.cellW1 (.list w xs)=.list (w && xs.isEmpty) xs:=b9 rfl
theorem plain_agg (cs:List AV):AV.plain (.agg cs)=true:=b9 rfl
theorem b6R (cs:List AV):AV.cells (.agg cs)=cs:=b9 rfl
theorem b3W (cs:List AV):AV.cellsW (.agg cs)=cs:=b9 rfl
theorem b0W (w:Bool) (xs:List (List AV)):AV.cellsW (.list w xs)=[.list (w && xs.isEmpty) xs]:=b9 rfl
theorem allPlain_n:m8 []=true:=b9 rfl
theorem allPlain_c (a:AV) (as:List AV):m8 (a::as)=(a.plain && m8 as):=b9 rfl
theorem f9U {α β:Type} (f:α→β):List.map f []=[]:=b9 rfl
theorem g16 {α β:Type} (f:α→β) (a:α) (l:List α):List.map f (a::l)=f a::l.map f:=b9 rfl
theorem e4c {α:Type} (l:List α):List.drop 0 l=l:=b9 rfl
theorem f1r {α:Type} (n:Nat) (a:α) (l:List α):List.drop (n+1) (a::l)=l.drop n:=b9 rfl
theorem f0t {α:Type} (n:Nat):List.drop n ([]:List α)=[]:=by cases n<;>rfl
theorem e1Z {α:Type} (l:List α):List.take 0 l=[]:=b9 rfl
theorem e6O {α:Type} (n:Nat) (a:α) (l:List α):List.take (n+1) (a::l)=a::l.take n:=b9 rfl
theorem d71 {α:Type} (n:Nat):List.take n ([]:List α)=[]:=by cases n<;>rfl
theorem g0J {α:Type}:([]:List α).length=0:=b9 rfl
theorem f8y {α:Type} (a:α) (l:List α):(a::l).length=l.length+1:=b9 rfl
theorem f5p {α:Type} (a:α) (l m:List α):(a::l)++m=a::(l++m):=b9 rfl
theorem f8a {α:Type} (l:List α):[]++l=l:=b9 rfl
theorem d0q {α:Type} (l:List α):l++[]=l:=List.append_nil l
theorem g0B {α:Type} (a:α) (l:List α):(a::l)[0]?=some a:=b9 rfl
theorem f45 {α:Type} (n:Nat) (a:α) (l:List α):(a::l)[n+1]?=l[n]?:=b9 rfl
theorem g2j {α:Type} (a b:α) (l:List α):(a::l).set 0 b=b::l:=b9 rfl
theorem f89 {α:Type} (n:Nat) (a b:α) (l:List α):(a::l).set (n+1) b=a::l.set n b:=b9 rfl
theorem f6m {α:Type} (a:α):List.replicate 0 a=[]:=b9 rfl
theorem f9h {α:Type} (n:Nat) (a:α):List.replicate (n+1) a=a::List.replicate n a:=b9 rfl
theorem f0b {α β:Type} (f:α→β) (a:α):Option.map f (some a)=some (f a):=b9 rfl
theorem d69 {α β:Type} (f:α→β):Option.map f none=none:=b9 rfl
theorem f7a {α:Type}:([]:List α).isEmpty=true:=b9 rfl
theorem g0h {α:Type} (a:α) (l:List α):(a::l).isEmpty=false:=b9 rfl
theorem f7U {α:Type} (a b:α):(if True then a else b)=a:=if_pos trivial
theorem f8H {α:Type} (a b:α):(if False then a else b)=b:=if_neg (fun h=>h)
theorem f99 {α:Type} (a b:α):(if true=true then a else b)=a:=if_pos rfl
theorem f7N {α:Type} (a b:α):(if false=true then a else b)=b:=if_neg (fun h=>by cases h)
theorem e1d:(true=false)=False:=by simp
theorem f3s:(false=true)=False:=by simp
theorem f97:(!true)=false:=b9 rfl
theorem g1m:(!false)=true:=b9 rfl
theorem g2B (b:Bool):(true && b)=b:=b9 rfl
theorem g2Q (b:Bool):(b && true)=b:=by cases b<;>rfl
theorem f5m (b:Bool):(false && b)=false:=b9 rfl
theorem f7D (b:Bool):(b && false)=false:=by cases b<;>rfl
theorem g4i (b:Bool):(true || b)=true:=b9 rfl
theorem g4k (b:Bool):(b || true)=true:=by cases b<;>rfl
theorem g7E (b:Bool):(false || b)=b:=b9 rfl
theorem g9u (b:Bool):(b || false)=b:=by cases b<;>rfl
theorem f6V (p:Prop):(p∧True)=p:=by simp
theorem f9L (p:Prop):(True∧p)=p:=by simp
theorem g3c:decide True=true:=b9 rfl
theorem f56:decide False=false:=b9 rfl
theorem eqs {α:Type} (a:α):(a=a)=True:=by simp
theorem nn (n:Nat):(0≤(n:Int))=True:=by simp
theorem tn (n:Nat):(n:Int).toNat=n:=Int.toNat_natCast n
theorem e7s (m n:Nat):((m:Int)≤(n:Int))=(m≤n):=by simp
theorem f2Z (n:Nat):(n≤n)=True:=by simp
theorem g5q (i j:Nat):ltI (i:Int) (j:Int)=decide (i < j):=ltN i j
theorem g9p (i j:Nat):eqI (i:Int) (j:Int)=decide (i=j):=g8z i j
theorem g2V (c:AV) (call:d8) (n:Nat) (a b:ACode) (fr:List AV) (st:St):brE c call n a b fr st=brT c (a2W call n a fr st) (a2W call n b fr st):=b9 rfl
theorem g8T:(0 < (1:Nat))=True:=by simp
theorem g6e:(0 < (3:Nat))=True:=by simp
theorem g7q:(1 < (3:Nat))=True:=by simp
theorem g4X:(2 < (3:Nat))=True:=by simp
theorem il0:(0≤(0:Int))=True:=by simp
theorem it0:(0:Int).toNat=0:=b9 rfl
theorem il1:(0≤(1:Int))=True:=by simp
theorem it1:(1:Int).toNat=1:=b9 rfl
theorem il2:(0≤(2:Int))=True:=by simp
theorem it2:(2:Int).toNat=2:=b9 rfl
theorem m41:4*1=(4:Nat):=b9 rfl
theorem W_e (a:AV):W a=AV.weak (AV.stripB a):=b9 rfl
theorem g7C {β:Type} (a:AV) (f:AV→Option β):m1 a f=f a:=b9 rfl
theorem c81 {β:Type} (c w:Bool) (a:AV) (f:AV→Option β):gm (.bool c) w a f=f (gV (.bool c) w a):=by unfold gm; rw[b11,o9]
theorem c0o {β:Type} (x:AV) (w b want:Bool) (a:AV) (f:AV→Option β):gm (gV x w (.bool b)) want a f=f (gV (gV x w (.bool b)) want a):=by unfold gm; rw[a9B,o9]
theorem d0A {β:Type} (w:Bool) (a:AV) (f:AV→Option β):gm (.tuple []) w a f=f (.tuple []):=by unfold gm; rw[b1S,o9]
theorem g0M (n:Nat):0+n=n:=Nat.zero_add n
theorem g0U (n:Nat):n+0=n:=b9 rfl
theorem g3X (n:Nat):(n == n)=true:=by simp
end Go.Cb.R
namespace Go.Cb
open Go.Cb.R
def SS:=AX (AX (AX (AX (AX (AX (AX (AX (@exec_seqK) (@b6E)) (AX (@b8c) (AX (@b6t) (@b5b)))) (AX (AX (@a2d) (AX (@b6a) (@b8K))) (AX (@a7N) (AX (@a8p) (@b3Y))))) (AX (AX (AX (@b1d) (@e7d)) (AX (@f39) (AX (@b1g) (@b0R)))) (AX (AX (@e8L) (AX (@d8d) (@e6S))) (AX (@b9Y) (AX (@b6M) (@b7s)))))) (AX (AX (AX (AX (@b92) (@b3G)) (AX (@c82) (AX (@a7h) (@o9)))) (AX (AX (@f83) (AX (@g3b) (@f5J))) (AX (@g2H) (AX (@b1S) (@f4P))))) (AX (AX (AX (@e2F) (@e26)) (AX (@f0z) (AX (@b8W) (@f9a)))) (AX (AX (@g27) (AX (@g0G) (@g3s))) (AX (@d2x) (AX (@b11) (@a9B))))))) (AX (AX (AX (AX (AX (@c8U) (@b7W)) (AX (@b6O) (AX (@e1B) (@f4Y)))) (AX (AX (@d12) (AX (@b7R) (@b6S))) (AX (@b9A) (AX (@b72) (@b5g))))) (AX (AX (AX (@b86) (@b6K)) (AX (@b5W) (AX (@d3y) (@b9u)))) (AX (AX (@b7l) (AX (@b6o) (@b5w))) (AX (@b5E) (AX (@a1j) (@c9V)))))) (AX (AX (AX (AX (@b4S) (@b6v)) (AX (@b39) (AX (@b2D) (@b71)))) (AX (AX (@b35) (AX (@b5h) (@b6b))) (AX (@b3w) (AX (@b7I) (@b3v))))) (AX (AX (AX (@b6P) (AX (@b4q) (@b4a))) (AX (@X1) (AX (@b3H) (@b4V)))) (AX (AX (@b5R) (AX (@b5v) (@b3e))) (AX (@b5U) (AX (@b3S) (@b4y)))))))) (AX (AX (AX (AX (AX (AX (@b8D) (@b52)) (AX (@b6J) (AX (@b23) (@b3Z)))) (AX (AX (@b2S) (AX (@b5K) (@c0n))) (AX (@b1B) (AX (@b1e) (@b0X))))) (AX (AX (AX (@b4j) (@b25)) (AX (@b01) (AX (@b2p) (@b0T)))) (AX (AX (@b0Y) (AX (@b5j) (@b37))) (AX (@b3A) (AX (@b1v) (@b1o)))))) (AX (AX (AX (AX (@b1A) (@b3b)) (AX (@b47) (AX (@b0U) (@a9R)))) (AX (AX (@b6u) (AX (@b0B) (@a8S))) (AX (@g8P) (AX (@b4p) (@b2P))))) (AX (AX (AX (@b6j) (@b1x)) (AX (@c58) (AX (@d4C) (@b7S)))) (AX (AX (@e0H) (AX (@c9l) (@b9L))) (AX (@d9c) (AX (@d5Y) (@e3s))))))) (AX (AX (AX (AX (AX (@c5a) (@ldAn_ptr)) (AX (@c4V) (AX (@c4o) (@d9y)))) (AX (AX (@f3h) (AX (@c6L) (@c1Z))) (AX (@f1x) (AX (@f7d) (@f50))))) (AX (AX (AX (@d9R) (@b5e)) (AX (@c6N) (AX (@b5Q) (@b68)))) (AX (AX (@f3P) (AX (@e1Y) (@b06))) (AX (@b1n) (AX (@b8q) (@b5V)))))) (AX (AX (AX (AX (@d0D) (@c7q)) (AX (@d3G) (AX (@e4f) (@f1B)))) (AX (AX (@f7q) (AX (@b58) (@b6d))) (AX (@c2q) (AX (@b9z) (@b9j))))) (AX (AX (AX (@e1y) (AX (@g1g) (@d9p))) (AX (@f6U) (AX (@f8U) (@g1A)))) (AX (AX (@f6L) (AX (@d5N) (@e09))) (AX (@e9Q) (AX (@e3q) (@e92))))))))) (AX (AX (AX (AX (AX (AX (AX (@e9P) (@d8A)) (AX (@f1U) (AX (@e5f) (@f1H)))) (AX (AX (@f0o) (AX (@d58) (@e51))) (AX (@f2E) (AX (@f1R) (@d7P))))) (AX (AX (AX (@e13) (@f0e)) (AX (@f0T) (AX (@d2Q) (@d1K)))) (AX (AX (@c1r) (AX (@c1N) (@c9L))) (AX (@d1G) (AX (@f34) (@e4z)))))) (AX (AX (AX (AX (@e4Z) (@g0f)) (AX (@g1J) (AX (@f5k) (@d9Y)))) (AX (AX (@d4U) (AX (@f8I) (@takeVal_t))) (AX (@b5s) (AX (@b3f) (@b2w))))) (AX (AX (AX (@b3g) (@b2y)) (AX (@b9c) (AX (@b5u) (@b67)))) (AX (AX (@b5M) (AX (@b6U) (@c9x))) (AX (@b8G) (AX (@b7A) (@c7x))))))) (AX (AX (AX (AX (AX (@b21) (@b4g)) (AX (@b0S) (AX (@b04) (@b6Z)))) (AX (AX (@b6F) (AX (@b3o) (@b2E))) (AX (@b6z) (AX (@b57) (@b3E))))) (AX (AX (AX (@b3K) (@b26)) (AX (@b4N) (AX (@b5F) (@b5S)))) (AX (AX (@b29) (AX (@b4m) (@b3D))) (AX (@b2W) (AX (@b07) (@b1k)))))) (AX (AX (AX (AX (@b80) (@c0f)) (AX (@b6I) (AX (@b5X) (@b5f)))) (AX (AX (@b5i) (AX (@b2T) (@b3c))) (AX (@b2C) (AX (@b4z) (@b1j))))) (AX (AX (AX (@b0Q) (AX (@b2R) (@b2X))) (AX (@b1s) (AX (@b05) (@b4Z)))) (AX (AX (@b2Q) (AX (@b1h) (@b1r))) (AX (@b8Y) (AX (@b8A) (@b5N)))))))) (AX (AX (AX (AX (AX (AX (@b6n) (@b0Z)) (AX (@b1b) (AX (@a8K) (@a8V)))) (AX (AX (@b2u) (AX (@b4Q) (@b1a))) (AX (@b1w) (AX (@b3J) (@b4t))))) (AX (AX (AX (@b1c) (@b1D)) (AX (@b1z) (AX (@plain_agg) (@b6R)))) (AX (AX (@b3W) (AX (@b0W) (@allPlain_n))) (AX (@allPlain_c) (AX (@f9U) (@g16)))))) (AX (AX (AX (AX (@e4c) (@f1r)) (AX (@f0t) (AX (@e1Z) (@e6O)))) (AX (AX (@d71) (AX (@g0J) (@f8y))) (AX (@f5p) (AX (@f8a) (@d0q))))) (AX (AX (AX (@g0B) (AX (@f45) (@g2j))) (AX (@f89) (AX (@f6m) (@f9h)))) (AX (AX (@f0b) (AX (@d69) (@f7a))) (AX (@g0h) (AX (@f7U) (@f8H))))))) (AX (AX (AX (AX (AX (@f99) (@f7N)) (AX (@e1d) (AX (@f3s) (@f97)))) (AX (AX (@g1m) (AX (@g2B) (@g2Q))) (AX (@f5m) (AX (@f7D) (@g4i))))) (AX (AX (AX (@g4k) (@g7E)) (AX (@g9u) (AX (@f6V) (@f9L)))) (AX (AX (@g3c) (AX (@f56) (@eqs))) (AX (@nn) (AX (@tn) (@e7s)))))) (AX (AX (AX (AX (@f2Z) (@g5q)) (AX (@g9p) (AX (@g2V) (@g8T)))) (AX (AX (@g6e) (AX (@g7q) (@g4X))) (AX (@il0) (AX (@it0) (@il1))))) (AX (AX (AX (@it1) (AX (@il2) (@it2))) (AX (@m41) (AX (@W_e) (@g7C)))) (AX (AX (@c81) (AX (@c0o) (@d0A))) (AX (@g0M) (AX (@g0U) (@g3X)))))))))
end Go.Cb
namespace Go.Cb.V
open Go Go.Cb
def e7 (call:d8) (ops:List AOper) (σ:Sig) (k:Sig→Option Out):Option Out:=obind (g9 call ops σ) k
theorem runR_congr {call:d8} {ops:List AOper} {σ σ':Sig} {k:Sig→Option Out} (h:σ=σ'):e7 call ops σ k=e7 call ops σ' k:=by rw[h]
theorem e3n (call:d8) (σ:Sig) (k:Sig→Option Out):e7 call [] σ k=k σ:=b9 rfl
theorem a06 (call:d8) (o:AOper) (os:List AOper) (σ:Sig) (k:Sig→Option Out):e7 call (o::os) σ k=obind (i7 call o σ) fun σ=>e7 call os σ k:=by unfold e7;simp only[g9];cases i7 call o σ<;>rfl
theorem a0e:∀ (as:List Opd) (σ:Sig),(d9 as σ).st=σ.st
 | [],_=>rfl
 | x::xs,σ=>by rw[d9,a0e xs]; cases x<;>rfl
section
variable (call:d8) (d:Dst) (as:List Opd) (os:List AOper) (σ:Sig) (k:Sig→Option Out)
theorem n9 {K:Kind} (i:K.setSt=false):e7 call (⟨d,K,as,none,none⟩::os) σ k=obind (p1 (sem K call (as.map (·.read σ)) .undef σ.st)) fun x=>e7 call os (d.put x (d9 as σ)) k:=by
 rw[a06];simp only[i7];rw[J4];dsimp only;cases hs:sem K call (as.map (·.read σ)) .undef σ.st with
 | none=>rfl
 | some x =>
  obtain⟨r,b,st⟩:=x;obtain rfl:=a1w i hs;simp only[p1,o9];have e:({ d9 as σ with st:=σ.st }:Sig)=d9 as σ:=by have:=a0e as σ;cases h:d9 as σ;rw[h]at this;simp only at this;rw[this]
  rw[e]
theorem T7 {K:Kind}:e7 call (⟨d,K,as,none,none⟩::os) σ k=obind (p2 (sem K call (as.map (·.read σ)) .undef σ.st)) fun x=>e7 call os (d.put x.1 { d9 as σ with st:=x.2 }) k:=by
 rw[a06];simp only[i7];rw[J4];dsimp only;cases hs:sem K call (as.map (·.read σ)) .undef σ.st with
 | none=>rfl
 | some x =>obtain⟨r,b,st⟩:=x;simp only[p2,o9]
theorem a8t {K:Kind} (i:Nat):e7 call (⟨d,K,as,some i,none⟩::os) σ k=obind (sem K call (as.map (·.read σ)) (σ.fr.getD i .undef) σ.st) fun x=>e7 call os (d.put x.1 { d9 as σ with fr:=(d9 as σ).fr.set i x.2.1,st:=x.2.2 }) k:=by
 rw[a06];simp only[i7];rw[J4];dsimp only;cases hs:sem K call (as.map (·.read σ)) (σ.fr.getD i .undef) σ.st with
 | none=>rfl
 | some x =>obtain⟨r,b,st⟩:=x;simp only[o9]
end
theorem f5U {call:d8} {d:Dst} {as:List Opd} {os:List AOper} {σ:Sig} {k:Sig→Option Out} {K:Kind} {box:Option Nat} (h:(K.setSt || K.alters || g8 as)=false) :
 e7 call (⟨d,K,as,box,none⟩::os) σ k=obind (p1 (sem K call (as.map (·.read σ)) (goK.boxOf' box σ) σ.st)) fun r=>e7 call os (d.put r σ) k:=by
 rw[a06,← a3e];simp only[a4J,goK,h]
theorem n4 {call:d8} {d:Dst} {as:List Opd} {os:List AOper} {σ:Sig} {k:Sig→Option Out} {K:Kind} {box:Option Nat} {x:Opd} {w:Bool} (h:(K.setSt || K.alters || g8 as)=false) :
 e7 call (⟨d,K,as,box,some (x,w)⟩::os) σ k=obind (gv (x.read σ) w (p1 (sem K call (as.map (·.read σ)) (goK.boxOf' box σ) σ.st))) fun r=>e7 call os (d.put r σ) k:=by
 rw[a06,← a3e];simp only[a4J,h]
theorem N2 {call:d8} {d:Dst} {as:List Opd} {os:List AOper} {σ:Sig} {k:Sig→Option Out} {K:Kind} {box:Option Nat} {x:Opd} {w:Bool} (i:K.setSt=true) (j:K.alters=false) (h:g8 as=false) :
 e7 call (⟨d,K,as,box,some (x,w)⟩::os) σ k=obind (gv2 (x.read σ) w σ.st (p2 (sem K call (as.map (·.read σ)) (goK.boxOf' box σ) σ.st))) fun r=>e7 call os (d.put r.1 { σ with st:=r.2 }) k:=by
 rw[a06,← a3e];simp only[a4J,i,j,h,Bool.true_or,Bool.or_false]
theorem g6O:g8 []=false:=b9 rfl
theorem g4L (s:Nat) (xs:List Opd):g8 (.t s::xs)=g8 xs:=b9 rfl
theorem g8X (s:Nat) (xs:List Opd):g8 (.v s::xs)=g8 xs:=b9 rfl
theorem g30 (s:Nat) (xs:List Opd):g8 (.l s::xs)=g8 xs:=b9 rfl
theorem g87 (a:AV) (xs:List Opd):g8 (.c a::xs)=g8 xs:=b9 rfl
theorem b5D (call:d8) (n:Nat) (kill:List Nat) (i:List AOper) (fr:List AV) (st:St) :
 exec call n (.reg kill i) fr st=e7 call i ⟨i6 kill fr,fun _=>.undef,st⟩ fun σ=>some (.normal,σ.fr,σ.st):=by
 rw[b97,Z0]; rfl
theorem b2B (call:d8) (n:Nat) (kill:List Nat) (i:List AOper) (c:Opd) (a b:ACode) (fr:List AV) (st:St) :
 exec call n (.test kill i c a b) fr st=e7 call i ⟨i6 kill fr,fun _=>.undef,st⟩ fun σ=>brE (c.read σ) call n a b σ.fr σ.st:=by
 rw[b2O,Z0]; rfl
theorem g5U (s:Nat) (fr:List AV) (τ:Nat→AV) (st:St):Opd.read (.t s) ⟨fr,τ,st⟩=(τ s).weak:=b9 rfl
theorem f52 (s:Nat) (fr:List AV) (τ:Nat→AV) (st:St):Opd.read (.ts s) ⟨fr,τ,st⟩=τ s:=b9 rfl
theorem g9h (s:Nat) (fr:List AV) (τ:Nat→AV) (st:St):Opd.read (.v s) ⟨fr,τ,st⟩=(fr.getD s .undef).weak:=b9 rfl
theorem f7l (s:Nat) (fr:List AV) (τ:Nat→AV) (st:St):Opd.read (.vs s) ⟨fr,τ,st⟩=fr.getD s .undef:=b9 rfl
theorem g73 (s:Nat) (fr:List AV) (τ:Nat→AV) (st:St):Opd.read (.l s) ⟨fr,τ,st⟩=c0E s (fr.getD s .undef):=b9 rfl
theorem g7w (a:AV) (σ:Sig):Opd.read (.c a) σ=a:=b9 rfl
theorem f5G (τ:Nat→AV) (s:Nat) (a:AV) (j:Nat):q9 τ s a j=if j=s then a else τ j:=by
 unfold q9;by_cases h:j=s
 · subst h; simp
 · rw[if_neg h,if_neg]; intro e; exact h (Nat.eq_of_beq_eq_true e)
theorem put_t (s:Nat) (a:AV) (fr:List AV) (τ:Nat→AV) (st:St):Dst.put (.t s) a ⟨fr,τ,st⟩=⟨fr,q9 τ s a.stripB,st⟩:=b9 rfl
theorem put_v (s:Nat) (a:AV) (fr:List AV) (τ:Nat→AV) (st:St):Dst.put (.v s) a ⟨fr,τ,st⟩=⟨fr.set s a.strip,τ,st⟩:=b9 rfl
theorem f8P (a:AV) (σ:Sig):Dst.put .none a σ=σ:=b9 rfl
theorem f7V (a:AV) (σ:Sig):Dst.put .bx a σ=σ:=b9 rfl
theorem g3S (σ:Sig):d9 [] σ=σ:=b9 rfl
theorem g9l (x:Opd) (xs:List Opd) (σ:Sig):d9 (x::xs) σ=d9 xs (x.spend σ):=b9 rfl
theorem g3K (s:Nat) (σ:Sig):Opd.spend (.t s) σ=σ:=b9 rfl
theorem g3M (s:Nat) (σ:Sig):Opd.spend (.v s) σ=σ:=b9 rfl
theorem g6R (s:Nat) (σ:Sig):Opd.spend (.l s) σ=σ:=b9 rfl
theorem g6C (a:AV) (σ:Sig):Opd.spend (.c a) σ=σ:=b9 rfl
theorem f8o (s:Nat) (fr:List AV) (τ:Nat→AV) (st:St):Opd.spend (.ts s) ⟨fr,τ,st⟩=⟨fr,q9 τ s (τ s).weak,st⟩:=b9 rfl
theorem g21 (s:Nat) (fr:List AV) (τ:Nat→AV) (st:St):Opd.spend (.vs s) ⟨fr,τ,st⟩=⟨fr.set s (fr.getD s .undef).weak,τ,st⟩:=b9 rfl
theorem g31 (a d:AV) (l:List AV):(a::l).getD 0 d=a:=b9 rfl
theorem g5m (a d:AV) (l:List AV) (n:Nat):(a::l).getD (n+1) d=l.getD n d:=b9 rfl
theorem g7l (fr:List AV):i6 [] fr=fr:=b9 rfl
theorem g7P (i:Nat) (is:List Nat) (fr:List AV):i6 (i::is) fr=i6 is (fr.set i .undef):=b9 rfl
section
variable (call:d8) (d:Dst) (as:List Opd) (os:List AOper) (fr:List AV) (τ:Nat→AV) (s:St) (k:Sig→Option Out)
theorem g8V :e7 call (⟨d,.mv,as,none,none⟩::os) ⟨fr,τ,s⟩ k=obind (p1 (a0k call (as.map (·.read ⟨fr,τ,s⟩)) .undef s)) fun x=>e7 call os (d.put x (d9 as ⟨fr,τ,s⟩)) k:=n9 call d as os ⟨fr,τ,s⟩ k rfl
theorem d6W :e7 call (⟨d,.pick,as,none,none⟩::os) ⟨fr,τ,s⟩ k=obind (p1 (A9 call (as.map (·.read ⟨fr,τ,s⟩)) .undef s)) fun x=>e7 call os (d.put x (d9 as ⟨fr,τ,s⟩)) k:=n9 call d as os ⟨fr,τ,s⟩ k rfl
theorem b9a :e7 call (⟨d,.nilchk,as,none,none⟩::os) ⟨fr,τ,s⟩ k=obind (p1 (B6 call (as.map (·.read ⟨fr,τ,s⟩)) .undef s)) fun x=>e7 call os (d.put x (d9 as ⟨fr,τ,s⟩)) k:=n9 call d as os ⟨fr,τ,s⟩ k rfl
theorem c4s (z:List AV) (o:List (Nat×Nat)):e7 call (⟨d,.build z o,as,none,none⟩::os) ⟨fr,τ,s⟩ k=obind (p1 (I9 z o call (as.map (·.read ⟨fr,τ,s⟩)) .undef s)) fun x=>e7 call os (d.put x (d9 as ⟨fr,τ,s⟩)) k:=n9 call d as os ⟨fr,τ,s⟩ k rfl
theorem c0g (q:Nat) (z:List (List AV)) (t:List Nat):e7 call (⟨d,.bslice q z t,as,none,none⟩::os) ⟨fr,τ,s⟩ k=obind (p1 (H5 q z t call (as.map (·.read ⟨fr,τ,s⟩)) .undef s)) fun x=>e7 call os (d.put x (d9 as ⟨fr,τ,s⟩)) k:=n9 call d as os ⟨fr,τ,s⟩ k rfl
theorem b63 (q:Nat) (z:List (List AV)) (t:List Nat):e7 call (⟨d,.bsliceM q z t,as,none,none⟩::os) ⟨fr,τ,s⟩ k=obind (p1 (F3 q z t call (as.map (·.read ⟨fr,τ,s⟩)) .undef s)) fun x=>e7 call os (d.put x (d9 as ⟨fr,τ,s⟩)) k:=n9 call d as os ⟨fr,τ,s⟩ k rfl
theorem d7g (g:Bool) (n:Nat):e7 call (⟨d,.ldSt g n,as,none,none⟩::os) ⟨fr,τ,s⟩ k=obind (p1 (B0 g n call (as.map (·.read ⟨fr,τ,s⟩)) .undef s)) fun x=>e7 call os (d.put x (d9 as ⟨fr,τ,s⟩)) k:=n9 call d as os ⟨fr,τ,s⟩ k rfl
theorem f1c (g:Bool) (n:Nat):e7 call (⟨d,.ldRo g n,as,none,none⟩::os) ⟨fr,τ,s⟩ k=obind (p1 (J7 g n call (as.map (·.read ⟨fr,τ,s⟩)) .undef s)) fun x=>e7 call os (d.put x (d9 as ⟨fr,τ,s⟩)) k:=n9 call d as os ⟨fr,τ,s⟩ k rfl
theorem e4v (g:Bool) (n:Nat):e7 call (⟨d,.ldAn g n,as,none,none⟩::os) ⟨fr,τ,s⟩ k=obind (p1 (D3 g n call (as.map (·.read ⟨fr,τ,s⟩)) .undef s)) fun x=>e7 call os (d.put x (d9 as ⟨fr,τ,s⟩)) k:=n9 call d as os ⟨fr,τ,s⟩ k rfl
theorem c1I (g:Bool) (n:Nat):e7 call (⟨d,.ldStR g n,as,none,none⟩::os) ⟨fr,τ,s⟩ k=obind (p1 (C0 g n call (as.map (·.read ⟨fr,τ,s⟩)) .undef s)) fun x=>e7 call os (d.put x (d9 as ⟨fr,τ,s⟩)) k:=n9 call d as os ⟨fr,τ,s⟩ k rfl
theorem f7e (n:Nat):e7 call (⟨d,.fad n,as,none,none⟩::os) ⟨fr,τ,s⟩ k=obind (p1 (K6 n call (as.map (·.read ⟨fr,τ,s⟩)) .undef s)) fun x=>e7 call os (d.put x (d9 as ⟨fr,τ,s⟩)) k:=n9 call d as os ⟨fr,τ,s⟩ k rfl
theorem g0V (o n:Nat) (g:Bool):e7 call (⟨d,.fld o n g,as,none,none⟩::os) ⟨fr,τ,s⟩ k=obind (p1 (P8 o n g call (as.map (·.read ⟨fr,τ,s⟩)) .undef s)) fun x=>e7 call os (d.put x (d9 as ⟨fr,τ,s⟩)) k:=n9 call d as os ⟨fr,τ,s⟩ k rfl
theorem g0D (n:Nat):e7 call (⟨d,.iad n,as,none,none⟩::os) ⟨fr,τ,s⟩ k=obind (p1 (I1 n call (as.map (·.read ⟨fr,τ,s⟩)) .undef s)) fun x=>e7 call os (d.put x (d9 as ⟨fr,τ,s⟩)) k:=n9 call d as os ⟨fr,τ,s⟩ k rfl
theorem f16 (l n:Nat):e7 call (⟨d,.iadA l n,as,none,none⟩::os) ⟨fr,τ,s⟩ k=obind (p1 (E0 l n call (as.map (·.read ⟨fr,τ,s⟩)) .undef s)) fun x=>e7 call os (d.put x (d9 as ⟨fr,τ,s⟩)) k:=n9 call d as os ⟨fr,τ,s⟩ k rfl
theorem e3M :e7 call (⟨d,.idxS,as,none,none⟩::os) ⟨fr,τ,s⟩ k=obind (p1 (H8 call (as.map (·.read ⟨fr,τ,s⟩)) .undef s)) fun x=>e7 call os (d.put x (d9 as ⟨fr,τ,s⟩)) k:=n9 call d as os ⟨fr,τ,s⟩ k rfl
theorem f8s (a b:Bool):e7 call (⟨d,.slS a b,as,none,none⟩::os) ⟨fr,τ,s⟩ k=obind (p1 (N3 a b call (as.map (·.read ⟨fr,τ,s⟩)) .undef s)) fun x=>e7 call os (d.put x (d9 as ⟨fr,τ,s⟩)) k:=n9 call d as os ⟨fr,τ,s⟩ k rfl
theorem f6j (n:Nat) (a b:Bool):e7 call (⟨d,.slL n a b,as,none,none⟩::os) ⟨fr,τ,s⟩ k=obind (p1 (L4 n a b call (as.map (·.read ⟨fr,τ,s⟩)) .undef s)) fun x=>e7 call os (d.put x (d9 as ⟨fr,τ,s⟩)) k:=n9 call d as os ⟨fr,τ,s⟩ k rfl
theorem g2q :e7 call (⟨d,.slZ,as,none,none⟩::os) ⟨fr,τ,s⟩ k=obind (p1 (T1 call (as.map (·.read ⟨fr,τ,s⟩)) .undef s)) fun x=>e7 call os (d.put x (d9 as ⟨fr,τ,s⟩)) k:=n9 call d as os ⟨fr,τ,s⟩ k rfl
theorem g1s (l n:Nat) (a b:Bool):e7 call (⟨d,.slA l n a b,as,none,none⟩::os) ⟨fr,τ,s⟩ k=obind (p1 (P9 l n a b call (as.map (·.read ⟨fr,τ,s⟩)) .undef s)) fun x=>e7 call os (d.put x (d9 as ⟨fr,τ,s⟩)) k:=n9 call d as os ⟨fr,τ,s⟩ k rfl
theorem g2t (o:BinOp):e7 call (⟨d,.bin o,as,none,none⟩::os) ⟨fr,τ,s⟩ k=obind (p1 (z6 o call (as.map (·.read ⟨fr,τ,s⟩)) .undef s)) fun x=>e7 call os (d.put x (d9 as ⟨fr,τ,s⟩)) k:=n9 call d as os ⟨fr,τ,s⟩ k rfl
theorem e4N (o:BinOp):e7 call (⟨d,.binB o,as,none,none⟩::os) ⟨fr,τ,s⟩ k=obind (p1 (N8 o call (as.map (·.read ⟨fr,τ,s⟩)) .undef s)) fun x=>e7 call os (d.put x (d9 as ⟨fr,τ,s⟩)) k:=n9 call d as os ⟨fr,τ,s⟩ k rfl
theorem e1v (o:BinOp):e7 call (⟨d,.binP o,as,none,none⟩::os) ⟨fr,τ,s⟩ k=obind (p1 (I0 o call (as.map (·.read ⟨fr,τ,s⟩)) .undef s)) fun x=>e7 call os (d.put x (d9 as ⟨fr,τ,s⟩)) k:=n9 call d as os ⟨fr,τ,s⟩ k rfl
theorem g50 (o:UnOp):e7 call (⟨d,.un o,as,none,none⟩::os) ⟨fr,τ,s⟩ k=obind (p1 (W2 o call (as.map (·.read ⟨fr,τ,s⟩)) .undef s)) fun x=>e7 call os (d.put x (d9 as ⟨fr,τ,s⟩)) k:=n9 call d as os ⟨fr,τ,s⟩ k rfl
theorem e2T (t:IntKind):e7 call (⟨d,.conv t,as,none,none⟩::os) ⟨fr,τ,s⟩ k=obind (p1 (O1 t call (as.map (·.read ⟨fr,τ,s⟩)) .undef s)) fun x=>e7 call os (d.put x (d9 as ⟨fr,τ,s⟩)) k:=n9 call d as os ⟨fr,τ,s⟩ k rfl
theorem f5R (f n:Nat):e7 call (⟨d,.mkF f n,as,none,none⟩::os) ⟨fr,τ,s⟩ k=obind (p1 (S2 f n call (as.map (·.read ⟨fr,τ,s⟩)) .undef s)) fun x=>e7 call os (d.put x (d9 as ⟨fr,τ,s⟩)) k:=n9 call d as os ⟨fr,τ,s⟩ k rfl
theorem e6R (a:Nat) (z:List AV) (b c:Bool):e7 call (⟨d,.mget a z b c,as,none,none⟩::os) ⟨fr,τ,s⟩ k=obind (p1 (Q7 a z b c call (as.map (·.read ⟨fr,τ,s⟩)) .undef s)) fun x=>e7 call os (d.put x (d9 as ⟨fr,τ,s⟩)) k:=n9 call d as os ⟨fr,τ,s⟩ k rfl
theorem g15 (n:Nat):e7 call (⟨d,.ext n,as,none,none⟩::os) ⟨fr,τ,s⟩ k=obind (p1 (M7 n call (as.map (·.read ⟨fr,τ,s⟩)) .undef s)) fun x=>e7 call os (d.put x (d9 as ⟨fr,τ,s⟩)) k:=n9 call d as os ⟨fr,τ,s⟩ k rfl
theorem e5X :e7 call (⟨d,.lenS,as,none,none⟩::os) ⟨fr,τ,s⟩ k=obind (p1 (N7 call (as.map (·.read ⟨fr,τ,s⟩)) .undef s)) fun x=>e7 call os (d.put x (d9 as ⟨fr,τ,s⟩)) k:=n9 call d as os ⟨fr,τ,s⟩ k rfl
theorem e7L :e7 call (⟨d,.lenL,as,none,none⟩::os) ⟨fr,τ,s⟩ k=obind (p1 (G2 call (as.map (·.read ⟨fr,τ,s⟩)) .undef s)) fun x=>e7 call os (d.put x (d9 as ⟨fr,τ,s⟩)) k:=n9 call d as os ⟨fr,τ,s⟩ k rfl
theorem g2p (n b:Nat):e7 call (⟨d,.app n b,as,none,none⟩::os) ⟨fr,τ,s⟩ k=obind (p1 (Q3 n b call (as.map (·.read ⟨fr,τ,s⟩)) .undef s)) fun x=>e7 call os (d.put x (d9 as ⟨fr,τ,s⟩)) k:=n9 call d as os ⟨fr,τ,s⟩ k rfl
theorem g1o :e7 call (⟨d,.b2s,as,none,none⟩::os) ⟨fr,τ,s⟩ k=obind (p1 (Q2 call (as.map (·.read ⟨fr,τ,s⟩)) .undef s)) fun x=>e7 call os (d.put x (d9 as ⟨fr,τ,s⟩)) k:=n9 call d as os ⟨fr,τ,s⟩ k rfl
theorem c7N (z:List AV) (o:List (Nat×Nat)) (x:Opd) (w:Bool) (h:g8 as=false):e7 call (⟨d,.build z o,as,none,some (x,w)⟩::os) ⟨fr,τ,s⟩ k=obind (gv (x.read ⟨fr,τ,s⟩) w (p1 (I9 z o call (as.map (·.read ⟨fr,τ,s⟩)) .undef s))) fun r=>e7 call os (d.put r ⟨fr,τ,s⟩) k:=n4 (by rw[h]; rfl)
theorem b99 (q:Nat) (z:List (List AV)) (t:List Nat) (x:Opd) (w:Bool) (h:g8 as=false):e7 call (⟨d,.bslice q z t,as,none,some (x,w)⟩::os) ⟨fr,τ,s⟩ k=obind (gv (x.read ⟨fr,τ,s⟩) w (p1 (H5 q z t call (as.map (·.read ⟨fr,τ,s⟩)) .undef s))) fun r=>e7 call os (d.put r ⟨fr,τ,s⟩) k:=n4 (by rw[h]; rfl)
theorem b5p (q:Nat) (z:List (List AV)) (t:List Nat) (x:Opd) (w:Bool) (h:g8 as=false):e7 call (⟨d,.bsliceM q z t,as,none,some (x,w)⟩::os) ⟨fr,τ,s⟩ k=obind (gv (x.read ⟨fr,τ,s⟩) w (p1 (F3 q z t call (as.map (·.read ⟨fr,τ,s⟩)) .undef s))) fun r=>e7 call os (d.put r ⟨fr,τ,s⟩) k:=n4 (by rw[h]; rfl)
theorem e1s (g:Bool) (n:Nat) (x:Opd) (w:Bool) (h:g8 as=false):e7 call (⟨d,.ldSt g n,as,none,some (x,w)⟩::os) ⟨fr,τ,s⟩ k=obind (gv (x.read ⟨fr,τ,s⟩) w (p1 (B0 g n call (as.map (·.read ⟨fr,τ,s⟩)) .undef s))) fun r=>e7 call os (d.put r ⟨fr,τ,s⟩) k:=n4 (by rw[h]; rfl)
theorem d8p (g:Bool) (n:Nat) (x:Opd) (w:Bool) (h:g8 as=false):e7 call (⟨d,.ldRo g n,as,none,some (x,w)⟩::os) ⟨fr,τ,s⟩ k=obind (gv (x.read ⟨fr,τ,s⟩) w (p1 (J7 g n call (as.map (·.read ⟨fr,τ,s⟩)) .undef s))) fun r=>e7 call os (d.put r ⟨fr,τ,s⟩) k:=n4 (by rw[h]; rfl)
theorem f3G (g:Bool) (n:Nat) (x:Opd) (w:Bool) (h:g8 as=false):e7 call (⟨d,.ldAn g n,as,none,some (x,w)⟩::os) ⟨fr,τ,s⟩ k=obind (gv (x.read ⟨fr,τ,s⟩) w (p1 (D3 g n call (as.map (·.read ⟨fr,τ,s⟩)) .undef s))) fun r=>e7 call os (d.put r ⟨fr,τ,s⟩) k:=n4 (by rw[h]; rfl)
theorem c9v (g:Bool) (n:Nat) (x:Opd) (w:Bool) (h:g8 as=false):e7 call (⟨d,.ldStR g n,as,none,some (x,w)⟩::os) ⟨fr,τ,s⟩ k=obind (gv (x.read ⟨fr,τ,s⟩) w (p1 (C0 g n call (as.map (·.read ⟨fr,τ,s⟩)) .undef s))) fun r=>e7 call os (d.put r ⟨fr,τ,s⟩) k:=n4 (by rw[h]; rfl)
theorem g05 (n:Nat) (x:Opd) (w:Bool) (h:g8 as=false):e7 call (⟨d,.fad n,as,none,some (x,w)⟩::os) ⟨fr,τ,s⟩ k=obind (gv (x.read ⟨fr,τ,s⟩) w (p1 (K6 n call (as.map (·.read ⟨fr,τ,s⟩)) .undef s))) fun r=>e7 call os (d.put r ⟨fr,τ,s⟩) k:=n4 (by rw[h]; rfl)
theorem f6T (o n:Nat) (g:Bool) (x:Opd) (w:Bool) (h:g8 as=false):e7 call (⟨d,.fld o n g,as,none,some (x,w)⟩::os) ⟨fr,τ,s⟩ k=obind (gv (x.read ⟨fr,τ,s⟩) w (p1 (P8 o n g call (as.map (·.read ⟨fr,τ,s⟩)) .undef s))) fun r=>e7 call os (d.put r ⟨fr,τ,s⟩) k:=n4 (by rw[h]; rfl)
theorem g0C (n:Nat) (x:Opd) (w:Bool) (h:g8 as=false):e7 call (⟨d,.iad n,as,none,some (x,w)⟩::os) ⟨fr,τ,s⟩ k=obind (gv (x.read ⟨fr,τ,s⟩) w (p1 (I1 n call (as.map (·.read ⟨fr,τ,s⟩)) .undef s))) fun r=>e7 call os (d.put r ⟨fr,τ,s⟩) k:=n4 (by rw[h]; rfl)
theorem d4e (l n:Nat) (x:Opd) (w:Bool) (h:g8 as=false):e7 call (⟨d,.iadA l n,as,none,some (x,w)⟩::os) ⟨fr,τ,s⟩ k=obind (gv (x.read ⟨fr,τ,s⟩) w (p1 (E0 l n call (as.map (·.read ⟨fr,τ,s⟩)) .undef s))) fun r=>e7 call os (d.put r ⟨fr,τ,s⟩) k:=n4 (by rw[h]; rfl)
theorem g2J (a b:Bool) (x:Opd) (w:Bool) (h:g8 as=false):e7 call (⟨d,.slS a b,as,none,some (x,w)⟩::os) ⟨fr,τ,s⟩ k=obind (gv (x.read ⟨fr,τ,s⟩) w (p1 (N3 a b call (as.map (·.read ⟨fr,τ,s⟩)) .undef s))) fun r=>e7 call os (d.put r ⟨fr,τ,s⟩) k:=n4 (by rw[h]; rfl)
theorem g1Y (n:Nat) (a b:Bool) (x:Opd) (w:Bool) (h:g8 as=false):e7 call (⟨d,.slL n a b,as,none,some (x,w)⟩::os) ⟨fr,τ,s⟩ k=obind (gv (x.read ⟨fr,τ,s⟩) w (p1 (L4 n a b call (as.map (·.read ⟨fr,τ,s⟩)) .undef s))) fun r=>e7 call os (d.put r ⟨fr,τ,s⟩) k:=n4 (by rw[h]; rfl)
theorem f5s (l n:Nat) (a b:Bool) (x:Opd) (w:Bool) (h:g8 as=false):e7 call (⟨d,.slA l n a b,as,none,some (x,w)⟩::os) ⟨fr,τ,s⟩ k=obind (gv (x.read ⟨fr,τ,s⟩) w (p1 (P9 l n a b call (as.map (·.read ⟨fr,τ,s⟩)) .undef s))) fun r=>e7 call os (d.put r ⟨fr,τ,s⟩) k:=n4 (by rw[h]; rfl)
theorem f9l (o:BinOp) (x:Opd) (w:Bool) (h:g8 as=false):e7 call (⟨d,.bin o,as,none,some (x,w)⟩::os) ⟨fr,τ,s⟩ k=obind (gv (x.read ⟨fr,τ,s⟩) w (p1 (z6 o call (as.map (·.read ⟨fr,τ,s⟩)) .undef s))) fun r=>e7 call os (d.put r ⟨fr,τ,s⟩) k:=n4 (by rw[h]; rfl)
theorem e1r (o:BinOp) (x:Opd) (w:Bool) (h:g8 as=false):e7 call (⟨d,.binB o,as,none,some (x,w)⟩::os) ⟨fr,τ,s⟩ k=obind (gv (x.read ⟨fr,τ,s⟩) w (p1 (N8 o call (as.map (·.read ⟨fr,τ,s⟩)) .undef s))) fun r=>e7 call os (d.put r ⟨fr,τ,s⟩) k:=n4 (by rw[h]; rfl)
theorem f4R (o:BinOp) (x:Opd) (w:Bool) (h:g8 as=false):e7 call (⟨d,.binP o,as,none,some (x,w)⟩::os) ⟨fr,τ,s⟩ k=obind (gv (x.read ⟨fr,τ,s⟩) w (p1 (I0 o call (as.map (·.read ⟨fr,τ,s⟩)) .undef s))) fun r=>e7 call os (d.put r ⟨fr,τ,s⟩) k:=n4 (by rw[h]; rfl)
theorem g42 (o:UnOp) (x:Opd) (w:Bool) (h:g8 as=false):e7 call (⟨d,.un o,as,none,some (x,w)⟩::os) ⟨fr,τ,s⟩ k=obind (gv (x.read ⟨fr,τ,s⟩) w (p1 (W2 o call (as.map (·.read ⟨fr,τ,s⟩)) .undef s))) fun r=>e7 call os (d.put r ⟨fr,τ,s⟩) k:=n4 (by rw[h]; rfl)
theorem d8Y (t:IntKind) (x:Opd) (w:Bool) (h:g8 as=false):e7 call (⟨d,.conv t,as,none,some (x,w)⟩::os) ⟨fr,τ,s⟩ k=obind (gv (x.read ⟨fr,τ,s⟩) w (p1 (O1 t call (as.map (·.read ⟨fr,τ,s⟩)) .undef s))) fun r=>e7 call os (d.put r ⟨fr,τ,s⟩) k:=n4 (by rw[h]; rfl)
theorem f7O (f n:Nat) (x:Opd) (w:Bool) (h:g8 as=false):e7 call (⟨d,.mkF f n,as,none,some (x,w)⟩::os) ⟨fr,τ,s⟩ k=obind (gv (x.read ⟨fr,τ,s⟩) w (p1 (S2 f n call (as.map (·.read ⟨fr,τ,s⟩)) .undef s))) fun r=>e7 call os (d.put r ⟨fr,τ,s⟩) k:=n4 (by rw[h]; rfl)
theorem d8H (a:Nat) (z:List AV) (b c:Bool) (x:Opd) (w:Bool) (h:g8 as=false):e7 call (⟨d,.mget a z b c,as,none,some (x,w)⟩::os) ⟨fr,τ,s⟩ k=obind (gv (x.read ⟨fr,τ,s⟩) w (p1 (Q7 a z b c call (as.map (·.read ⟨fr,τ,s⟩)) .undef s))) fun r=>e7 call os (d.put r ⟨fr,τ,s⟩) k:=n4 (by rw[h]; rfl)
theorem f9g (n:Nat) (x:Opd) (w:Bool) (h:g8 as=false):e7 call (⟨d,.ext n,as,none,some (x,w)⟩::os) ⟨fr,τ,s⟩ k=obind (gv (x.read ⟨fr,τ,s⟩) w (p1 (M7 n call (as.map (·.read ⟨fr,τ,s⟩)) .undef s))) fun r=>e7 call os (d.put r ⟨fr,τ,s⟩) k:=n4 (by rw[h]; rfl)
theorem g20 (n b:Nat) (x:Opd) (w:Bool) (h:g8 as=false):e7 call (⟨d,.app n b,as,none,some (x,w)⟩::os) ⟨fr,τ,s⟩ k=obind (gv (x.read ⟨fr,τ,s⟩) w (p1 (Q3 n b call (as.map (·.read ⟨fr,τ,s⟩)) .undef s))) fun r=>e7 call os (d.put r ⟨fr,τ,s⟩) k:=n4 (by rw[h]; rfl)
theorem e59 (i:Nat) (g:Bool) (n:Nat) (j:Nat) (h:g8 as=false):e7 call (⟨d,.ldLc i g n,as,some j,none⟩::os) ⟨fr,τ,s⟩ k=obind (p1 (G4 i g n call (as.map (·.read ⟨fr,τ,s⟩)) (fr.getD j .undef) s)) fun r=>e7 call os (d.put r ⟨fr,τ,s⟩) k:=f5U (by rw[h]; rfl)
theorem d1d (i:Nat) (g:Bool) (n:Nat) (j:Nat) (x:Opd) (w:Bool) (h:g8 as=false):e7 call (⟨d,.ldLc i g n,as,some j,some (x,w)⟩::os) ⟨fr,τ,s⟩ k=obind (gv (x.read ⟨fr,τ,s⟩) w (p1 (G4 i g n call (as.map (·.read ⟨fr,τ,s⟩)) (fr.getD j .undef) s))) fun r=>e7 call os (d.put r ⟨fr,τ,s⟩) k:=n4 (by rw[h]; rfl)
theorem b89 (z:List AV):e7 call (⟨d,.allocO z,as,none,none⟩::os) ⟨fr,τ,s⟩ k=obind (p2 (E4 z call (as.map (·.read ⟨fr,τ,s⟩)) .undef s)) fun x=>e7 call os (d.put x.1 { d9 as ⟨fr,τ,s⟩with st:=x.2 }) k:=T7 call d as os ⟨fr,τ,s⟩ k
theorem b5y (z:List AV) (x:Opd) (w:Bool) (h:g8 as=false):e7 call (⟨d,.allocO z,as,none,some (x,w)⟩::os) ⟨fr,τ,s⟩ k=obind (gv2 (x.read ⟨fr,τ,s⟩) w s (p2 (E4 z call (as.map (·.read ⟨fr,τ,s⟩)) .undef s))) fun r=>e7 call os (d.put r.1 ⟨fr,τ,r.2⟩) k:=N2 rfl rfl h
theorem d8s:e7 call (⟨d,.boxO,as,none,none⟩::os) ⟨fr,τ,s⟩ k=obind (p2 (J9 call (as.map (·.read ⟨fr,τ,s⟩)) .undef s)) fun x=>e7 call os (d.put x.1 { d9 as ⟨fr,τ,s⟩with st:=x.2 }) k:=T7 call d as os ⟨fr,τ,s⟩ k
theorem d3S (x:Opd) (w:Bool) (h:g8 as=false):e7 call (⟨d,.boxO,as,none,some (x,w)⟩::os) ⟨fr,τ,s⟩ k=obind (gv2 (x.read ⟨fr,τ,s⟩) w s (p2 (J9 call (as.map (·.read ⟨fr,τ,s⟩)) .undef s))) fun r=>e7 call os (d.put r.1 ⟨fr,τ,r.2⟩) k:=N2 rfl rfl h
theorem b53 (q:Nat) (z:List (List AV)) (t:List Nat):e7 call (⟨d,.bsliceO q z t,as,none,none⟩::os) ⟨fr,τ,s⟩ k=obind (p2 (F2 q z t call (as.map (·.read ⟨fr,τ,s⟩)) .undef s)) fun x=>e7 call os (d.put x.1 { d9 as ⟨fr,τ,s⟩with st:=x.2 }) k:=T7 call d as os ⟨fr,τ,s⟩ k
theorem b3B (q:Nat) (z:List (List AV)) (t:List Nat) (x:Opd) (w:Bool) (h:g8 as=false):e7 call (⟨d,.bsliceO q z t,as,none,some (x,w)⟩::os) ⟨fr,τ,s⟩ k=obind (gv2 (x.read ⟨fr,τ,s⟩) w s (p2 (F2 q z t call (as.map (·.read ⟨fr,τ,s⟩)) .undef s))) fun r=>e7 call os (d.put r.1 ⟨fr,τ,r.2⟩) k:=N2 rfl rfl h
theorem d7k (n b:Nat):e7 call (⟨d,.appM n b,as,none,none⟩::os) ⟨fr,τ,s⟩ k=obind (p2 (B8 n b call (as.map (·.read ⟨fr,τ,s⟩)) .undef s)) fun x=>e7 call os (d.put x.1 { d9 as ⟨fr,τ,s⟩with st:=x.2 }) k:=T7 call d as os ⟨fr,τ,s⟩ k
theorem c9i (n b:Nat) (x:Opd) (w:Bool) (h:g8 as=false):e7 call (⟨d,.appM n b,as,none,some (x,w)⟩::os) ⟨fr,τ,s⟩ k=obind (gv2 (x.read ⟨fr,τ,s⟩) w s (p2 (B8 n b call (as.map (·.read ⟨fr,τ,s⟩)) .undef s))) fun r=>e7 call os (d.put r.1 ⟨fr,τ,r.2⟩) k:=N2 rfl rfl h
theorem b7i (n:Nat):e7 call (⟨d,.ldStSR n,as,none,none⟩::os) ⟨fr,τ,s⟩ k=obind (p2 (C8 n call (as.map (·.read ⟨fr,τ,s⟩)) .undef s)) fun x=>e7 call os (d.put x.1 { d9 as ⟨fr,τ,s⟩with st:=x.2 }) k:=T7 call d as os ⟨fr,τ,s⟩ k
theorem b6l (n:Nat) (x:Opd) (w:Bool) (h:g8 as=false):e7 call (⟨d,.ldStSR n,as,none,some (x,w)⟩::os) ⟨fr,τ,s⟩ k=obind (gv2 (x.read ⟨fr,τ,s⟩) w s (p2 (C8 n call (as.map (·.read ⟨fr,τ,s⟩)) .undef s))) fun r=>e7 call os (d.put r.1 ⟨fr,τ,r.2⟩) k:=N2 rfl rfl h
theorem c3b (n:Nat):e7 call (⟨d,.stStA n,as,none,none⟩::os) ⟨fr,τ,s⟩ k=obind (p2 (C4 n call (as.map (·.read ⟨fr,τ,s⟩)) .undef s)) fun x=>e7 call os (d.put x.1 { d9 as ⟨fr,τ,s⟩with st:=x.2 }) k:=T7 call d as os ⟨fr,τ,s⟩ k
theorem b7T (n:Nat) (x:Opd) (w:Bool) (h:g8 as=false):e7 call (⟨d,.stStA n,as,none,some (x,w)⟩::os) ⟨fr,τ,s⟩ k=obind (gv2 (x.read ⟨fr,τ,s⟩) w s (p2 (C4 n call (as.map (·.read ⟨fr,τ,s⟩)) .undef s))) fun r=>e7 call os (d.put r.1 ⟨fr,τ,r.2⟩) k:=N2 rfl rfl h
theorem d2W (f m:Nat):e7 call (⟨d,.callA f m,as,none,none⟩::os) ⟨fr,τ,s⟩ k=obind (p2 (C5 f m call (as.map (·.read ⟨fr,τ,s⟩)) .undef s)) fun x=>e7 call os (d.put x.1 { d9 as ⟨fr,τ,s⟩with st:=x.2 }) k:=T7 call d as os ⟨fr,τ,s⟩ k
theorem b7v (f m:Nat) (x:Opd) (w:Bool) (h:g8 as=false):e7 call (⟨d,.callA f m,as,none,some (x,w)⟩::os) ⟨fr,τ,s⟩ k=obind (gv2 (x.read ⟨fr,τ,s⟩) w s (p2 (C5 f m call (as.map (·.read ⟨fr,τ,s⟩)) .undef s))) fun r=>e7 call os (d.put r.1 ⟨fr,τ,r.2⟩) k:=N2 rfl rfl h
theorem d02:e7 call (⟨d,.ldStS,as,none,none⟩::os) ⟨fr,τ,s⟩ k=obind (p2 (B2 call (as.map (·.read ⟨fr,τ,s⟩)) .undef s)) fun x=>e7 call os (d.put x.1 { d9 as ⟨fr,τ,s⟩with st:=x.2 }) k:=T7 call d as os ⟨fr,τ,s⟩ k
theorem b8i (x:Opd) (w:Bool) (h:g8 as=false):e7 call (⟨d,.ldStS,as,none,some (x,w)⟩::os) ⟨fr,τ,s⟩ k=obind (gv2 (x.read ⟨fr,τ,s⟩) w s (p2 (B2 call (as.map (·.read ⟨fr,τ,s⟩)) .undef s))) fun r=>e7 call os (d.put r.1 ⟨fr,τ,r.2⟩) k:=N2 rfl rfl h
theorem e0n (n:Nat):e7 call (⟨d,.stSt n,as,none,none⟩::os) ⟨fr,τ,s⟩ k=obind (p2 (D2 n call (as.map (·.read ⟨fr,τ,s⟩)) .undef s)) fun x=>e7 call os (d.put x.1 { d9 as ⟨fr,τ,s⟩with st:=x.2 }) k:=T7 call d as os ⟨fr,τ,s⟩ k
theorem c2a (n:Nat) (x:Opd) (w:Bool) (h:g8 as=false):e7 call (⟨d,.stSt n,as,none,some (x,w)⟩::os) ⟨fr,τ,s⟩ k=obind (gv2 (x.read ⟨fr,τ,s⟩) w s (p2 (D2 n call (as.map (·.read ⟨fr,τ,s⟩)) .undef s))) fun r=>e7 call os (d.put r.1 ⟨fr,τ,r.2⟩) k:=N2 rfl rfl h
theorem g1a:e7 call (⟨d,.mkM,as,none,none⟩::os) ⟨fr,τ,s⟩ k=obind (p2 (S8 call (as.map (·.read ⟨fr,τ,s⟩)) .undef s)) fun x=>e7 call os (d.put x.1 { d9 as ⟨fr,τ,s⟩with st:=x.2 }) k:=T7 call d as os ⟨fr,τ,s⟩ k
theorem e9C (x:Opd) (w:Bool) (h:g8 as=false):e7 call (⟨d,.mkM,as,none,some (x,w)⟩::os) ⟨fr,τ,s⟩ k=obind (gv2 (x.read ⟨fr,τ,s⟩) w s (p2 (S8 call (as.map (·.read ⟨fr,τ,s⟩)) .undef s))) fun r=>e7 call os (d.put r.1 ⟨fr,τ,r.2⟩) k:=N2 rfl rfl h
theorem e2g (n:Nat):e7 call (⟨d,.mset n,as,none,none⟩::os) ⟨fr,τ,s⟩ k=obind (p2 (R1 n call (as.map (·.read ⟨fr,τ,s⟩)) .undef s)) fun x=>e7 call os (d.put x.1 { d9 as ⟨fr,τ,s⟩with st:=x.2 }) k:=T7 call d as os ⟨fr,τ,s⟩ k
theorem d3i (n:Nat) (x:Opd) (w:Bool) (h:g8 as=false):e7 call (⟨d,.mset n,as,none,some (x,w)⟩::os) ⟨fr,τ,s⟩ k=obind (gv2 (x.read ⟨fr,τ,s⟩) w s (p2 (R1 n call (as.map (·.read ⟨fr,τ,s⟩)) .undef s))) fun r=>e7 call os (d.put r.1 ⟨fr,τ,r.2⟩) k:=N2 rfl rfl h
theorem e8v (f:Nat):e7 call (⟨d,.call f,as,none,none⟩::os) ⟨fr,τ,s⟩ k=obind (p2 (n6 f call (as.map (·.read ⟨fr,τ,s⟩)) .undef s)) fun x=>e7 call os (d.put x.1 { d9 as ⟨fr,τ,s⟩with st:=x.2 }) k:=T7 call d as os ⟨fr,τ,s⟩ k
theorem c8H (f:Nat) (x:Opd) (w:Bool) (h:g8 as=false):e7 call (⟨d,.call f,as,none,some (x,w)⟩::os) ⟨fr,τ,s⟩ k=obind (gv2 (x.read ⟨fr,τ,s⟩) w s (p2 (n6 f call (as.map (·.read ⟨fr,τ,s⟩)) .undef s))) fun r=>e7 call os (d.put r.1 ⟨fr,τ,r.2⟩) k:=N2 rfl rfl h
theorem c8e:e7 call (⟨d,.callV,as,none,none⟩::os) ⟨fr,τ,s⟩ k=obind (p2 (D5 call (as.map (·.read ⟨fr,τ,s⟩)) .undef s)) fun x=>e7 call os (d.put x.1 { d9 as ⟨fr,τ,s⟩with st:=x.2 }) k:=T7 call d as os ⟨fr,τ,s⟩ k
theorem b8R (x:Opd) (w:Bool) (h:g8 as=false):e7 call (⟨d,.callV,as,none,some (x,w)⟩::os) ⟨fr,τ,s⟩ k=obind (gv2 (x.read ⟨fr,τ,s⟩) w s (p2 (D5 call (as.map (·.read ⟨fr,τ,s⟩)) .undef s))) fun r=>e7 call os (d.put r.1 ⟨fr,τ,r.2⟩) k:=N2 rfl rfl h
theorem d3p (z:List AV) (j:Nat):e7 call (⟨d,.alloc z,as,some j,none⟩::os) ⟨fr,τ,s⟩ k=obind (O8 z call (as.map (·.read ⟨fr,τ,s⟩)) (fr.getD j .undef) s) fun x=>e7 call os (d.put x.1 { d9 as ⟨fr,τ,s⟩with fr:=(d9 as ⟨fr,τ,s⟩).fr.set j x.2.1,st:=x.2.2 }) k:=a8t call d as os ⟨fr,τ,s⟩ k j
theorem e5o (j:Nat):e7 call (⟨d,.boxV,as,some j,none⟩::os) ⟨fr,τ,s⟩ k=obind (Q5 call (as.map (·.read ⟨fr,τ,s⟩)) (fr.getD j .undef) s) fun x=>e7 call os (d.put x.1 { d9 as ⟨fr,τ,s⟩with fr:=(d9 as ⟨fr,τ,s⟩).fr.set j x.2.1,st:=x.2.2 }) k:=a8t call d as os ⟨fr,τ,s⟩ k j
theorem d1C (i:Nat) (j:Nat):e7 call (⟨d,.ldLcS i,as,some j,none⟩::os) ⟨fr,τ,s⟩ k=obind (I6 i call (as.map (·.read ⟨fr,τ,s⟩)) (fr.getD j .undef) s) fun x=>e7 call os (d.put x.1 { d9 as ⟨fr,τ,s⟩with fr:=(d9 as ⟨fr,τ,s⟩).fr.set j x.2.1,st:=x.2.2 }) k:=a8t call d as os ⟨fr,τ,s⟩ k j
theorem e5h (i n:Nat) (j:Nat):e7 call (⟨d,.stLc i n,as,some j,none⟩::os) ⟨fr,τ,s⟩ k=obind (J5 i n call (as.map (·.read ⟨fr,τ,s⟩)) (fr.getD j .undef) s) fun x=>e7 call os (d.put x.1 { d9 as ⟨fr,τ,s⟩with fr:=(d9 as ⟨fr,τ,s⟩).fr.set j x.2.1,st:=x.2.2 }) k:=a8t call d as os ⟨fr,τ,s⟩ k j
theorem g89 (x:Opd) (w:Bool) (h:g8 as=false):e7 call (⟨d,.mv,as,none,some (x,w)⟩::os) ⟨fr,τ,s⟩ k=obind (gv (x.read ⟨fr,τ,s⟩) w (p1 (a0k call (as.map (·.read ⟨fr,τ,s⟩)) .undef s))) fun r=>e7 call os (d.put r ⟨fr,τ,s⟩) k:=n4 (by rw[h]; rfl)
theorem d7v (x:Opd) (w:Bool) (h:g8 as=false):e7 call (⟨d,.pick,as,none,some (x,w)⟩::os) ⟨fr,τ,s⟩ k=obind (gv (x.read ⟨fr,τ,s⟩) w (p1 (A9 call (as.map (·.read ⟨fr,τ,s⟩)) .undef s))) fun r=>e7 call os (d.put r ⟨fr,τ,s⟩) k:=n4 (by rw[h]; rfl)
theorem b8F (x:Opd) (w:Bool) (h:g8 as=false):e7 call (⟨d,.nilchk,as,none,some (x,w)⟩::os) ⟨fr,τ,s⟩ k=obind (gv (x.read ⟨fr,τ,s⟩) w (p1 (B6 call (as.map (·.read ⟨fr,τ,s⟩)) .undef s))) fun r=>e7 call os (d.put r ⟨fr,τ,s⟩) k:=n4 (by rw[h]; rfl)
theorem e7t (x:Opd) (w:Bool) (h:g8 as=false):e7 call (⟨d,.idxS,as,none,some (x,w)⟩::os) ⟨fr,τ,s⟩ k=obind (gv (x.read ⟨fr,τ,s⟩) w (p1 (H8 call (as.map (·.read ⟨fr,τ,s⟩)) .undef s))) fun r=>e7 call os (d.put r ⟨fr,τ,s⟩) k:=n4 (by rw[h]; rfl)
theorem f87 (x:Opd) (w:Bool) (h:g8 as=false):e7 call (⟨d,.slZ,as,none,some (x,w)⟩::os) ⟨fr,τ,s⟩ k=obind (gv (x.read ⟨fr,τ,s⟩) w (p1 (T1 call (as.map (·.read ⟨fr,τ,s⟩)) .undef s))) fun r=>e7 call os (d.put r ⟨fr,τ,s⟩) k:=n4 (by rw[h]; rfl)
theorem e78 (x:Opd) (w:Bool) (h:g8 as=false):e7 call (⟨d,.lenS,as,none,some (x,w)⟩::os) ⟨fr,τ,s⟩ k=obind (gv (x.read ⟨fr,τ,s⟩) w (p1 (N7 call (as.map (·.read ⟨fr,τ,s⟩)) .undef s))) fun r=>e7 call os (d.put r ⟨fr,τ,s⟩) k:=n4 (by rw[h]; rfl)
theorem e3u (x:Opd) (w:Bool) (h:g8 as=false):e7 call (⟨d,.lenL,as,none,some (x,w)⟩::os) ⟨fr,τ,s⟩ k=obind (gv (x.read ⟨fr,τ,s⟩) w (p1 (G2 call (as.map (·.read ⟨fr,τ,s⟩)) .undef s))) fun r=>e7 call os (d.put r ⟨fr,τ,s⟩) k:=n4 (by rw[h]; rfl)
theorem f84 (x:Opd) (w:Bool) (h:g8 as=false):e7 call (⟨d,.b2s,as,none,some (x,w)⟩::os) ⟨fr,τ,s⟩ k=obind (gv (x.read ⟨fr,τ,s⟩) w (p1 (Q2 call (as.map (·.read ⟨fr,τ,s⟩)) .undef s))) fun r=>e7 call os (d.put r ⟨fr,τ,s⟩) k:=n4 (by rw[h]; rfl)
end
def VV:=(AX (AX (AX (AX (AX (AX @e3n (AX @b5D @b2B)) (AX (AX @g5U @f52) (AX @g9h @f7l))) (AX (AX (AX @g73 @g7w) (AX @f5G @put_t)) (AX (AX @put_v @f8P) (AX @f7V @g3S)))) (AX (AX (AX (AX @g9l @g3K) (AX @g3M @g6R)) (AX (AX @g6C @f8o) (AX @g21 @g31))) (AX (AX (AX @g5m @g7l) (AX @g7P @g8V)) (AX (AX @d6W @b9a) (AX @c4s @c0g))))) (AX (AX (AX (AX @b63 (AX @d7g @f1c)) (AX (AX @e4v @c1I) (AX @f7e @g0V))) (AX (AX (AX @g0D @f16) (AX @e3M @f8s)) (AX (AX @f6j @g2q) (AX @g1s @g2t)))) (AX (AX (AX (AX @e4N @e1v) (AX @g50 @e2T)) (AX (AX @f5R @e6R) (AX @g15 @e5X))) (AX (AX (AX @e7L @g2p) (AX @g1o @c7N)) (AX (AX @b99 @b5p) (AX @e1s @d8p)))))) (AX (AX (AX (AX (AX @f3G (AX @c9v @g05)) (AX (AX @f6T @g0C) (AX @d4e @g2J))) (AX (AX (AX @g1Y @f5s) (AX @f9l @e1r)) (AX (AX @f4R @g42) (AX @d8Y @f7O)))) (AX (AX (AX (AX @d8H @f9g) (AX @g20 @e59)) (AX (AX @d1d @b89) (AX @b5y @d8s))) (AX (AX (AX @d3S @b53) (AX @b3B @d7k)) (AX (AX @c9i @b7i) (AX @b6l @c3b))))) (AX (AX (AX (AX (AX @b7T @d2W) (AX @b7v @d02)) (AX (AX @b8i @e0n) (AX @c2a @g1a))) (AX (AX (AX @e9C @e2g) (AX @d3i @e8v)) (AX (AX @c8H @c8e) (AX @b8R @d3p)))) (AX (AX (AX (AX @e5o @d1C) (AX @e5h @g6O)) (AX (AX @g4L @g8X) (AX @g30 @g87))) (AX (AX (AX @g89 @d7v) (AX @b8F @e7t)) (AX (AX @f87 @e78) (AX @e3u @f84)))))))
end Go.Cb.V
namespace Go.Cb.G
open Go Go.Cb
def spC (j:d8) (kill:List Nat) (ops:List AOper) (i:Nat) (fr:List AV) (st:St):Option (Sig×AOper×List AOper):=match g9 j (ops.take i) ⟨i6 kill fr,fun _=>.undef,st⟩,ops.drop i with
 | some σ,o::os=>some (σ,o,os)
 | _,_=>none
def a4u (j:d8) (kill:List Nat) (ops:List AOper) (i:Nat) (fr:List AV) (st:St):Option (Nat×List AV×St):=match spC j kill ops i fr st with
 | some (σ,⟨_,.call f,args,none,none⟩,_)=>if m8 (args.map (·.read σ))then some (f,(args.map (·.read σ)).map AV.weak,σ.st)else none
 | _=>none
def a2k (l:d8) (kill:List Nat) (ops:List AOper) (i:Nat) (x:Opd) (fr:List AV) (st:St) (r:AV) (j:St):Option (AV×List AV×St):=match spC l kill ops i fr st with
 | some (σ,o,os)=>match g9 l os (o.dst.put r { d9 o.args σ with st:=j })with
  | some σ=>some (x.read σ,σ.fr,σ.st)
  | none=>none
 | none=>none
theorem a8e {c u:d8} (z:Q4 u c) {kill:List Nat} {ops:List AOper} {i f:Nat} {as:List AV} {B:St} {r:AV} {l:St} {fr:List AV} {st:St} {x:Opd} {v:AV} {y:List AV} {st':St}
 (t:a4u u kill ops i fr st=some (f,as,B)) (J:c f as B=some (r,l)) (j:a2k u kill ops i x fr st r l=some (v,y,st')) :
 ∃ σ,g9 c ops ⟨i6 kill fr,fun _=>.undef,st⟩=some σ∧x.read σ=v∧σ.fr=y∧σ.st=st':=by
 unfold a4u at t;unfold a2k at j;cases hs:spC u kill ops i fr st with
 | none=>rw[hs]at j; cases j
 | some p =>
  obtain⟨σ,o,os⟩:=p;rw[hs]at t j;dsimp only at t j;unfold spC at hs;split at hs<;>try (cases hs; done)
  rename_i T o0 S O M;cases hs;split at t<;>try (cases t; done)
  rename_i E;obtain⟨⟩:=Prod.mk.inj (Option.some.inj E);rename_i dst U args _ G I;obtain⟨rfl,rfl⟩:=Prod.mk.inj I;subst G;split at t<;>try (cases t; done)
  rename_i N;cases t;cases D:g9 u os ((Dst.put dst r { d9 args σ with st:=l }))with
  | none=>rw[D]at j; cases j
  | some σ2 =>
   rw[D]at j;cases j;refine⟨σ2,?_,rfl,rfl,rfl⟩;rw[← List.take_append_drop i ops,a6x,S1 z O,M];dsimp only;rw[g9];have F:i7 c ⟨dst,.call f,args,none,none⟩ σ=some (Dst.put dst r { d9 args σ with st:=l }):=by show y9 c _ σ=_;rw[J4];simp only[sem,n6,N,if_true,J,AN]
   rw[F];exact S1 z D
section
variable {tbl:Nat→Option AFn}
theorem gle (k m:Nat) (h:k≤m):Q4 (callG tbl k) (j9 tbl m):=fun f as st r i=>E8 h _ _ _ _ (W6 k _ _ _ _ i)
theorem c7Z {k:Nat} {kill:List Nat} {ops:List AOper} {i f:Nat} {as:List AV} {l:St} {r:AV} {t:St} {fr:List AV} {st:St} {v:AV} {j:List AV} {st':St}
 (u:a4u (callG tbl k) kill ops i fr st=some (f,as,l)) (y:Ev tbl f as l r t) (x:a2k (callG tbl k) kill ops i (.c .undef) fr st r t=some (v,j,st')):XC tbl (.reg kill ops) fr st (.normal,j,st'):=by
 obtain⟨m,z⟩:=y;obtain⟨σ,g1,g2,g3,g4⟩:=a8e (gle k (max m k) (Nat.le_max_right m k)) u (E8 (Nat.le_max_left m k) _ _ _ _ z) x;exact⟨max m k,by rw[exec,g1]; simp only[fL_eq,g3,g4]⟩
theorem b8g {k:Nat} {kill:List Nat} {ops:List AOper} {i f:Nat} {as:List AV} {u:St} {r:AV} {v:St} {fr:List AV} {st:St} {x:Opd} {a b:ACode} {y:Bool} {l:List AV} {st':St} {out:Out}
 (z:a4u (callG tbl k) kill ops i fr st=some (f,as,u)) (E:Ev tbl f as u r v) (B:a2k (callG tbl k) kill ops i x fr st r v=some (.bool y,l,st')) (D:XC tbl (bif y then a else b) l st' out):XC tbl (.test kill ops x a b) fr st out:=by
 obtain⟨m,G⟩:=E;obtain⟨j,F⟩:=D;obtain⟨σ,g1,g2,g3,g4⟩:=a8e (gle k (max (max m k) j) (Nat.le_trans (Nat.le_max_right m k) (Nat.le_max_left _ _))) z (E8 (Nat.le_trans (Nat.le_max_left m k) (Nat.le_max_left _ _)) _ _ _ _ G) B;refine⟨max (max m k) j,?_⟩;have t:=s5 (E8 (tbl:=tbl) (Nat.le_max_right (max m k) j)) (Nat.le_max_right (max m k) j) F;rw[exec,g1];dsimp only;rw[g2];cases y
 · simpa only [fL_eq,g3,g4,cond_true,cond_false]using t
 · simpa only [fL_eq,g3,g4,cond_true,cond_false]using t
def tst (i:d8) (kill:List Nat) (ops:List AOper) (x:Opd) (fr:List AV) (st:St):Option (AV×List AV×St):=match g9 i ops ⟨i6 kill fr,fun _=>.undef,st⟩with
 | some σ=>some (x.read σ,σ.fr,σ.st)
 | none=>none
theorem a8R {k:Nat} {kill:List Nat} {ops:List AOper} {fr:List AV} {st:St} {x:Opd} {a b:ACode} {y:Bool} {l:List AV} {st':St} {out:Out} (i:tst (callG tbl k) kill ops x fr st=some (.bool y,l,st')) (v:XC tbl (bif y then a else b) l st' out):XC tbl (.test kill ops x a b) fr st out:=by
 obtain⟨j,z⟩:=v;unfold tst at i;cases u:g9 (callG tbl k) ops ⟨i6 kill fr,fun _=>.undef,st⟩with
 | none=>rw[u]at i; cases i
 | some σ =>
  rw[u]at i;simp only[AC,AH]at i;obtain⟨g2,g3,g4⟩:=i;refine⟨max k j,?_⟩;have t:=s5 (E8 (tbl:=tbl) (Nat.le_max_right k j)) (Nat.le_max_right k j) z;rw[exec,S1 (gle k (max k j) (Nat.le_max_left k j)) u];dsimp only;rw[g2];cases y
  · simpa only [fL_eq,g3,g4,cond_true,cond_false]using t
  · simpa only [fL_eq,g3,g4,cond_true,cond_false]using t
theorem c86 {id:Nat} {a:ACode} {fr i:List AV} {st j:St} (h:XC tbl a fr st (.exit id,i,j)):XC tbl (.blk id a) fr st (.normal,i,j):=by
 have:=XC.blk (id:=id) h
 rwa [if_pos rfl]at this
theorem d1J {id:Nat} {a:ACode} {fr i:List AV} {st j:St} {e:Ex} (h:XC tbl a fr st (e,i,j)) (t:a7e e (.exit id)=false):XC tbl (.blk id a) fr st (e,i,j):=by
 have:=XC.blk (id:=id) h
 rwa [if_neg (fun l=>by subst l; simp[a7e]at t)]at this
def a9E (body:List AV→St→Option Out):Nat→List AV→St→Option (List AV×St)
 | 0,fr,st=>some (fr,st)
 | n+1,fr,st=>match body fr st with
  | some (.normal,fr,st)=>a9E body n fr st
  | _=>none
theorem c0M {k m:Nat} {a:ACode} {fr i:List AV} {st j:St} {out:Out} (h:a9E (exec (callG tbl k) k a) m fr st=some (i,j)) (t:LX tbl a i j out):LX tbl a fr st out:=by
 induction m generalizing fr st with
 | zero=>simp only[a9E,AC,AH]at h; obtain⟨rfl,rfl⟩:=h; exact t
 | succ m v =>
  simp only[a9E]at h;split at h
  · rename_i l st2 u;exact LX.step (b0J u) (v h)
  · cases h
theorem g4G {k m:Nat} {a:ACode} {fr:List AV} {st:St} {out:Out} (h:E6 (exec (callG tbl k) k a) m fr st=some out):LX tbl a fr st out :=
 ⟨k,m,a2C (fun _ _ _ i=>s5 (W6 k) (AJ k) i) (AJ m) h⟩
theorem FX.of {rs:List ResK} {code:ACode} {fr:List AV} {st:St} {v:AV} {out:Out} {st':St} (h:XC tbl code fr st out) (i:fin rs (some out)=some (v,st')):FX tbl rs code fr st v:=⟨out,st',h,i⟩
end
end Go.Cb.G
