import Derived.Test.YtlegecilkicppaaGreatDoorXAms3
import Derived.Test.YtlegecilkicppaaGreatDoorXAms2
import Derived.Defers
import Derived.Laws.CopyRow
import Derived.Laws.Externs
import Derived.Test.YtlegecilkicppaaGreatDoorXAms1
set_option maxRecDepth 4000
set_option linter.all false
namespace Go.Cb
open Classical
section
variable {L:Nat} {ext:St} {call:d8} {as:List AV} {bx:AV} {st:St}
theorem c3u {l:Nat} {z:List AV} {j ok:Bool} (C:I8 z=true) (x:L≤st.length):SemSh L ext (Q1 l z j ok call) as bx st:=SemSh.of x fun r b s h=>by
 have u:z.map (AV.sh L ext.length)=z:=by rw[← m0,E4 _ _ _ C]
 have key:∀ (k:AV) (es:List (AV×AV)),(match D7 l k es 0 with
  | some r=>match (match r with|some (_,v)=>some v|none=>i8 j z.length z)with
   | some v=>some (if ok then AV.tuple [v,.bool r.isSome]else v,bx,st)
   | none=>none
  | none=>none)=some (r,b,s)→s=st∧(match D7 l (k.sh L ext.length) (es.map fun e=>(e.1.sh L ext.length,e.2.sh L ext.length)) 0 with
  | some r=>match (match r with|some (_,v)=>some v|none=>i8 j z.length z)with
   | some v=>some (if ok then AV.tuple [v,.bool r.isSome]else v,bx.sh L ext.length,shS L ext st)
   | none=>none
  | none=>none)=some (r.sh L ext.length,b.sh L ext.length,shS L ext st):=by
  intro k es h;rw[a5y];cases hm:D7 l k es 0 with
  | none=>rw[hm]at h; cases h
  | some o =>
   rw[hm]at h;cases o with
   | some p =>obtain⟨i,v⟩:=p;dsimp only[AN]at h ⊢;cases h;refine⟨rfl,?_⟩;cases ok<;>rfl
   | none =>
    dsimp only[AN,Option.map_none]at h ⊢;have t:=H2 (L:=L) (d:=ext.length) j z.length z;rw[u]at t;cases y:i8 j z.length z with
    | none=>rw[y]at h; cases h
    | some v =>
     rw[y]at h t;have e:v.sh L ext.length=v:=by simpa using t.symm
     dsimp only at h ⊢;cases h;refine⟨rfl,?_⟩;cases ok
     · simp only[Bool.false_eq_true,if_false,e]
     · simp only[if_true,AV.sh,I2,e]
 unfold Q1 at h ⊢;dsimp only at h ⊢;split at h
 · rename_i k;exact key k [] h
 · rename_i o k;split at h
   · rename_i es B;simp only[AG,AL,AV.sh,b99 x B];exact key k es h
   · cases h
 · cases h
theorem c3k {l:Nat} (j:L≤st.length):SemSh L ext (P9 l call) as bx st:=by
 rintro⟨r,b,s⟩ h;unfold P9 at h;split at h
 · rename_i o k v;split at h
   · rename_i x;split at h
     · rename_i es u;simp only[P9,AG,AL,AV.sh,L5,x,if_true,b99 j u,a5y];cases hm:D7 l k es 0 with
       | none=>rw[hm]at h; cases h
       | some q =>
        rw[hm]at h;cases q with
        | some p =>obtain⟨i,w⟩:=p;dsimp only[AN]at h ⊢;cases h;refine⟨?_,by simpa using j⟩;simp only[shR,a0i j,Obj.sh,List.map_set,T7];rfl
        | none =>
         dsimp only[AN,Option.map_none]at h ⊢;rw[a9h];cases t:K4 l k k with
         | none=>rw[t]at h; cases h
         | some e =>rw[t]at h;simp only[Option.bind_some]at h ⊢;cases h;refine⟨?_,by simpa using j⟩;simp only[shR,a0i j,Obj.sh,AT,AG,AL,T7];rfl
     · cases h
   · cases h
 · cases h
theorem c8M {i:Nat} (j:L≤st.length):SemSh L ext (L9 i call) as bx st:=SemSh.of j fun r b s h=>by
 unfold L9 at h;split at h
 · split at h
   · rename_i v l;cases h;refine⟨rfl,?_⟩;simp only[L9,AG,AL,AV.sh,m0,AQ,l,AN,T7]
   · cases h
 · cases h
theorem b1O {f:Nat} (x:V0 L ext call) (u:L≤st.length):SemSh L ext (n4 f call) as bx st:=by
 rintro⟨r,b,s⟩ h;unfold n4 at h ⊢;split at h
 · rename_i y;obtain⟨⟨v,z⟩,i,j⟩:=o9 h;cases j;obtain⟨l,t⟩:=x _ _ _ _ _ u i;refine⟨?_,t⟩;rw[a0s,if_pos y,← a5B,l];rfl
 · cases h
theorem b77 (z:V0 L ext call) (y:L≤st.length):SemSh L ext (D6 call) as bx st:=by
 rintro⟨r,b,s⟩ h;unfold D6 at h;split at h
 · rename_i f first i j
   split at h
   · rename_i B;obtain⟨⟨v,C⟩,l,t⟩:=o9 h;cases t;obtain⟨u,x⟩:=z _ _ _ _ _ y l;refine⟨?_,x⟩;simp only[D6,AG,AV.sh,m0];rw[a0s,if_pos B,← AT,← AT,← a5B,u];rfl
   · cases h
 · cases h
theorem b72 {f m:Nat} (y:V0 L ext call) (t:L≤st.length):SemSh L ext (C9 f m call) as bx st:=by
 rintro⟨r,b,s⟩ h;unfold C9 at h ⊢;cases j:n4 f call (as.take m) bx st with
 | none=>rw[j]at h; cases h
 | some x =>
  obtain⟨v,b',B⟩:=x;rw[j]at h;dsimp only at h;obtain⟨u,l⟩:=b1O y t _ j;split at h
  · rename_i z;cases h;refine⟨?_,l⟩;rw[← List.map_take,u,← List.map_drop];have i:=b2g (L:=L) (ext:=ext) t l _ z;simp only[shR];exact if_pos i
  · cases h
theorem c4M (i:L≤st.length):SemSh L ext (M4 call) as bx st:=SemSh.of i fun r b s h=>by unfold M4 at h;split at h<;>first|(cases h; exact⟨rfl,rfl⟩)|cases h
theorem c1G (i:L≤st.length):SemSh L ext (G5 call) as bx st:=SemSh.of i fun r b s h=>by
 unfold G5 at h;split at h
 · cases h; exact⟨rfl,by simp only[G5,AG,AL,AV.sh,s8,AF]⟩
 · cases h; exact⟨rfl,rfl⟩
 · cases h; exact⟨rfl,rfl⟩
 · cases h
theorem d08 {n b':Nat} (i:L≤st.length):SemSh L ext (P5 n b' call) as bx st:=SemSh.of i fun r b s h=>by
 unfold P5 at h;split at h
 · split at h
   · rename_i j;cases h;refine⟨rfl,?_⟩;simp only[P5,AG,AL,AV.sh,s8,N6,AF];rw[if_pos j,AT]
   · cases h
 · cases h
theorem c08 {n b':Nat} (j:L≤st.length):SemSh L ext (C0 n b' call) as bx st:=by
 rintro⟨r,b,s⟩ h;unfold C0 at h;split at h
 · split at h
   · rename_i i;cases h;refine⟨?_,by simp; omega⟩;have l:=a0n (L:=L) (ext:=ext) j none _ i.2.2.2;simp only[Option.map_none]at l;simp only[C0,AG,AV.sh,s8,List.isEmpty_map,N6,AF,AL];rw[if_pos ⟨i.1,i.2.1,i.2.2.1,l⟩];simp only[shR,AV.sh,M6 j,J7 j,Obj.sh,a0X]
   · cases h
 · split at h
   · rename_i i;cases h;refine⟨?_,by simp; omega⟩;have l:=a0n (L:=L) (ext:=ext) j none _ i.2.2.2;simp only[Option.map_none]at l;simp only[C0,AG,AV.sh,s8,List.isEmpty_map,N6,AF];rw[if_pos ⟨i.1,i.2.1,i.2.2.1,l⟩];simp only[shR,AV.sh,M6 j,J7 j,Obj.sh,a0X]
   · cases h
 · split at h
   · rename_i i;cases h;refine⟨?_,j⟩;have l:=a0n (L:=L) (ext:=ext) j none _ i;simp only[Option.map_none]at l;simp only[C0,AG,AV.sh];rw[if_pos l];simp only[shR,AV.sh]
   · cases h
 · rename_i o k u ys gs;split at h
   · rename_i xs t;split at h
     · rename_i i;cases h;refine⟨?_,by simp; omega⟩;have l:=a0n (L:=L) (ext:=ext) j (some o) _ i.2.2.2.2.2;simp only[AN]at l;simp only[C0,AG,AV.sh,s8,List.isEmpty_map,N6,AF,T6 j t];rw[if_pos ⟨i.1,i.2.1,i.2.2.1,i.2.2.2.1,i.2.2.2.2.1,l⟩];simp only[shR,AV.sh,M6 (st:=st.set o .dead) (by simpa using j),a0i j,J7 j,Obj.sh,a0X,AT]
     · cases h
   · cases h
 · cases h
theorem c0V {b':Nat} (j:L≤st.length):SemSh L ext (U3 b' call) as bx st:=SemSh.of j fun r b s h=>by
 unfold U3 at h;split at h
 · rename_i xs;split at h
   · rename_i i;cases h;refine⟨rfl,?_⟩;simp only[U3,AG,AL,AV.sh,s8,N6,AF];rw[if_pos i]
   · cases h
 · rename_i xs o n;split at h
   · rename_i cs l;split at h
     · rename_i i;cases h;refine⟨rfl,?_⟩;simp only[U3,AG,AL,AV.sh,s8,N6,AF,T6 j l];rw[if_pos i];simp only[shR,AV.sh,s8,AT,List.map_map];rfl
     · cases h
   · cases h
 · cases h
theorem d1a (l:L≤st.length):SemSh L ext (P4 call) as bx st:=SemSh.of l fun r b s h=>by
 unfold P4 at h;split at h
 · obtain⟨a,i,j⟩:=o9 h;cases j;refine⟨rfl,?_⟩;simp only[P4,AG,AL,AV.sh,s8,a6y,i,AN]
 · cases h
theorem b8E {n:Nat} {i:Bool} (t:L≤st.length):SemSh L ext (C7 i n call) as bx st:=by
 rintro x h;unfold C7 at h;split at h
 · rename_i o off r;split at h
   · rename_i p y;split at h
     · rename_i u;obtain⟨j,l⟩:=b1S (call:=call) t _ h;refine⟨?_,l⟩;have e:o=p:=by simpa using u
       subst e;simp only[C7,AG,AL,AV.sh,a1U,y,AN];rw[if_pos (by simp)];exact j
     · cases h
   · cases h
 · cases h
theorem b44 {n:Nat} (t:L≤st.length):SemSh L ext (D3 n call) as bx st:=by
 rintro x h;unfold D3 at h;split at h
 · rename_i o off p f;split at h
   · rename_i i;obtain⟨j,l⟩:=a8J (call:=call) t _ h;refine⟨?_,l⟩;have e:o=p:=by simpa using i.1
     subst e;simp only[D3,AG,AL,AV.sh];rw[if_pos ⟨by simp,i.2⟩];exact j
   · cases h
 · cases h
theorem b7K {n:Nat} (i:L≤st.length):SemSh L ext (C6 n call) as bx st:=by
 rintro x h;unfold C6 at h;split at h
 · rename_i o off y r gs;split at h
   · rename_i p z;split at h
     · rename_i l;obtain⟨t,u⟩:=b1P (call:=call) i _ h;refine⟨?_,u⟩;have e:o=p:=by simpa using l.1
       subst e;have j:=a0n (L:=L) (ext:=ext) i (some o) _ l.2;simp only[C6,AG,AV.sh,a1U,z,AN]at j ⊢;rw[if_pos ⟨by simp,j⟩];exact t
     · cases h
   · cases h
 · cases h
theorem c5F {k:Kind} (j:k.shut=true) (l:V0 L ext call) (i:L≤st.length):SemSh L ext (sem k call) as bx st:=by
 cases k
 case mv=>exact d3M (call:=call) i
 case pick=>exact c0o (call:=call) i
 case nilchk=>exact b5n (call:=call) i
 case alloc z=>exact b7A (call:=call) j i
 case allocO z=>exact b5h (call:=call) j i
 case boxV=>exact c3E (call:=call) i
 case boxO=>exact c4j (call:=call) i
 case build z o=>exact b9S (call:=call) j i
 case bslice n z a=>exact b6k (call:=call) j i
 case bsliceM n z a=>exact b3P (call:=call) j i
 case bsliceO n z a=>exact b23 (call:=call) j i
 case min2=>exact c2r (call:=call) i
 case stuck=>intro r h; cases h
 case eqIS neg=>exact c1S (call:=call) i
 case ldLc=>exact c0Q (call:=call) i
 case ldSt=>exact b1S (call:=call) i
 case ldRo=>exact c2F (call:=call) i
 case ldAn=>exact c4g (call:=call) i
 case ldLcS=>exact b74 (call:=call) i
 case ldStS=>exact a8J (call:=call) i
 case ldStR=>exact b8E (call:=call) i
 case ldStSR=>exact b44 (call:=call) i
 case stStA=>exact b7K (call:=call) i
 case callA=>exact b72 (call:=call) l i
 case stLc=>exact c2f (call:=call) i
 case stSt=>exact b1P (call:=call) i
 case fad=>exact c70 (call:=call) i
 case fld=>exact c5f (call:=call) i
 case iad=>exact d0k (call:=call) i
 case iadA=>exact c4K (call:=call) i
 case idxS=>exact c3b (call:=call) i
 case slS=>exact c99 (call:=call) i
 case slL=>exact c8A (call:=call) i
 case slZ=>exact c5c (call:=call) i
 case slA=>exact c7X (call:=call) i
 case bin=>exact c6F (call:=call) i
 case binB=>exact c2O (call:=call) i
 case binP=>exact c1k (call:=call) i
 case un=>exact d5j (call:=call) i
 case conv=>exact c1F (call:=call) i
 case mkF=>exact c82 (call:=call) i
 case mkM=>exact c5K (call:=call) i
 case mget=>exact c3u (call:=call) j i
 case mset=>exact c3k (call:=call) i
 case ext=>exact c8M (call:=call) i
 case call=>exact b1O (call:=call) l i
 case callV=>exact b77 (call:=call) l i
 case lenS=>exact c4M (call:=call) i
 case lenL=>exact c1G (call:=call) i
 case app=>exact d08 (call:=call) i
 case appM=>exact c08 (call:=call) i
 case appA=>exact c0V (call:=call) i
 case b2s=>exact d1a (call:=call) i
end
def Opd.shut:Opd→Bool
 | .c a=>a.shut
 | _=>true
def AOper.shut (o:AOper):Bool:=o.kind.shut && o.args.all Opd.shut && (match o.guard with|some (x,_)=>x.shut|none=>true)
def ACode.shut:ACode→Bool
 | .reg _ ops=>ops.all AOper.shut
 | .test _ ops c a b=>ops.all AOper.shut && c.shut && a.shut && b.shut
 | .seq a b=>a.shut && b.shut
 | .blk _ a=>a.shut
 | .loop a=>a.shut
 | .either _ a b=>a.shut && b.shut
 | _=>true
section
variable {L:Nat} {ext:St} {call:d8}
def Sig.sh (L:Nat) (ext:St) (σ:Sig):Sig:=⟨σ.fr.map (AV.sh L ext.length),fun j=>(σ.τ j).sh L ext.length,shS L ext σ.st⟩
theorem T1 {d:Nat} (fr:List AV) (i:Nat):(fr.map (AV.sh L d)).getD i AV.undef=(fr.getD i AV.undef).sh L d:=by simp only[List.getD_eq_getElem?_getD,AQ];cases fr[i]?<;>rfl
theorem a6V {x:Opd} (j:x.shut=true) (σ:Sig):x.read (σ.sh L ext)=(x.read σ).sh L ext.length:=by
 cases x with
 | t s=>exact(T7 _).symm
 | ts s=>rfl
 | v i=>show((σ.fr.map _).getD i AV.undef).weak=_; rw[T1,← T7]; rfl
 | vs i=>exact T1 _ _
 | l i =>show(match (σ.fr.map _).getD i AV.undef with|.box _=>AV.loc i 0|_=>AV.undef)=(match σ.fr.getD i AV.undef with|.box _=>AV.loc i 0|_=>AV.undef).sh L ext.length;rw[T1];cases σ.fr.getD i AV.undef<;>rfl
 | c a=>exact(a6O _ _ _ j).symm
theorem b8t (x:Opd) (σ:Sig):x.spend (σ.sh L ext)=(x.spend σ).sh L ext:=by
 cases x with
 | ts s =>
  show Sig.mk _ _ _=Sig.mk _ _ _;congr 1;funext j;show q8 _ _ _ _=(q8 _ _ _ _).sh L ext.length;unfold q8;split
  · exact(T7 _).symm
  · rfl
 | vs i =>show Sig.mk _ _ _=Sig.mk _ _ _;congr 1;show(σ.fr.map _).set i ((σ.fr.map _).getD i AV.undef).weak=(σ.fr.set i (σ.fr.getD i AV.undef).weak).map _;rw[T1,List.map_set,T7]
 | _=>rfl
theorem a5m:∀ (xs:List Opd) (σ:Sig),d9 xs (σ.sh L ext)=(d9 xs σ).sh L ext
 | [],_=>rfl
 | x::xs,σ=>by rw[d9,d9,b8t,a5m xs]
theorem a9D (d:Dst) (a:AV) (σ:Sig):d.put (a.sh L ext.length) (σ.sh L ext)=(d.put a σ).sh L ext:=by
 cases d with
 | none=>rfl
 | bx=>rfl
 | t s =>
  show Sig.mk _ _ _=Sig.mk _ _ _;congr 1;funext j;show q8 _ _ _ _=(q8 _ _ _ _).sh L ext.length;unfold q8;split
  · exact(b5m _).symm
  · rfl
 | v i =>show Sig.mk _ _ _=Sig.mk _ _ _;congr 1;show(σ.fr.map _).set i (a.sh L ext.length).strip=(σ.fr.set i a.strip).map _;rw[List.map_set,b8F]
theorem b0f:∀ {xs:List Opd},xs.all Opd.shut=true→∀ σ:Sig,xs.map (·.read (σ.sh L ext))=(xs.map (·.read σ)).map (AV.sh L ext.length)
 | [],_,_=>rfl
 | x::xs,h,σ=>by simp only[List.all_cons,AA]at h;rw[AG,AG,AG,a6V h.1,b0f h.2]
theorem b1X (B:V0 L ext call) {o:AOper} (j:o.shut=true) {σ σ':Sig} (x:L≤σ.st.length) (h:y9 call o σ=some σ'):y9 call o (σ.sh L ext)=some (σ'.sh L ext)∧L≤σ'.st.length:=by
 have l:∀ (d:Dst) (a:AV) (σ:Sig),(d.put a σ).st=σ.st:=fun d a σ=>by cases d<;>rfl
 unfold AOper.shut at j;simp only[AA]at j;obtain⟨⟨C,y⟩,_⟩:=j;obtain⟨r,b,s,hs,rfl⟩:=l5 h;have z:q6 o (σ.sh L ext)=(q6 o σ).sh L ext.length:=by
  unfold q6;cases o.box with
  | none=>rfl
  | some i=>exact T1 _ _
 obtain⟨t,u⟩:=c5F (L:=L) (ext:=ext) C B x _ hs;rw[← b0f y,← z]at t;refine⟨?_,by rw[l]; exact u⟩;rw[a1e t,a5m];refine congrArg some (Eq.trans ?_ (a9D (L:=L) (ext:=ext) o.dst r _));refine congrArg (o.dst.put _) ?_;show Sig.mk _ _ _=Sig.mk _ _ _;congr 1;cases o.box with
 | none=>rfl
 | some i=>exact List.map_set.symm
theorem b5s (y:V0 L ext call) {o:AOper} (i:o.shut=true) {σ σ':Sig} (l:L≤σ.st.length) (h:i7 call o σ=some σ'):i7 call o (σ.sh L ext)=some (σ'.sh L ext)∧L≤σ'.st.length:=by
 have j:∀ (d:Dst) (a:AV) (σ:Sig),(d.put a σ).st=σ.st:=fun d a σ=>by cases d<;>rfl
 unfold i7 at h ⊢;cases u:o.guard with
 | none=>rw[u]at h; exact b1X y i l h
 | some C =>
  obtain⟨x,w⟩:=C;rw[u]at h;have B:x.shut=true:=by unfold AOper.shut at i;simp only[AA,u]at i;exact i.2
  dsimp only at h ⊢;rw[a6V B];cases z:x.read σ<;>rw[z]at h<;>try cases h
  · dsimp only[AV.sh]at h ⊢;split at h
    · rename_i t; rw[if_pos t]; exact b1X y i l h
    · rename_i t; rw[if_neg t]; cases h; exact⟨congrArg some (a9D (ext:=ext) o.dst (.tuple []) σ),by rw[j]; exact l⟩
  · rename_i vs;cases vs with
    | nil=>dsimp only at h; cases h; exact⟨congrArg some (a9D (ext:=ext) o.dst (.tuple []) σ),by rw[j]; exact l⟩
    | cons v vs=>cases h
theorem a3H (i:V0 L ext call):∀ {os:List AOper},os.all AOper.shut=true→∀ {σ σ':Sig},L≤σ.st.length→g9 call os σ=some σ'→g9 call os (σ.sh L ext)=some (σ'.sh L ext)∧L≤σ'.st.length
 | [],_,σ,σ',hL,h=>by simp only[g9]at h ⊢; cases h; exact⟨rfl,hL⟩
 | o::os,ho,σ,σ',hL,h=>by
  simp only[List.all_cons,AA]at ho;simp only[g9]at h ⊢;cases hs:i7 call o σ with
  | none=>rw[hs]at h; cases h
  | some σ1 =>rw[hs]at h;obtain⟨j,l⟩:=b5s i ho.1 hL hs;rw[j];exact a3H i ho.2 l h
theorem a01 {d:Nat}:∀ (is:List Nat) (fr:List AV),i6 is (fr.map (AV.sh L d))=(i6 is fr).map (AV.sh L d)
 | [],_=>rfl
 | i::is,fr=>by rw[i6,i6,← a01 is,List.map_set];rfl
def Y7 (L:Nat) (ext:St) (o:Out):Out:=(o.1,o.2.1.map (AV.sh L ext.length),shS L ext o.2.2)
theorem b11 {body:List AV→St→Option Out} (l:∀ fr st o,L≤st.length→body fr st=some o→body (fr.map (AV.sh L ext.length)) (shS L ext st)=some (Y7 L ext o)∧L≤o.2.2.length) :
 ∀ (n:Nat) {fr:List AV} {st:St} {o:Out},L≤st.length→E5 body n fr st=some o→E5 body n (fr.map (AV.sh L ext.length)) (shS L ext st)=some (Y7 L ext o)∧L≤o.2.2.length
 | 0,_,_,_,_,h=>by simp[E5]at h
 | n+1,fr,st,o,y,h=>by
  simp only[E5]at h ⊢;cases j:body fr st with
  | none=>rw[j]at h; cases h
  | some x =>
   obtain⟨e,t,z⟩:=x;rw[j]at h;obtain⟨u,i⟩:=l _ _ _ y j;rw[u];cases e with
   | normal=>exact b11 l n i h
   | exit id=>cases h; exact⟨rfl,i⟩
   | ret=>cases h; exact⟨rfl,i⟩
theorem N2 (t:V0 L ext call) (n:Nat):∀ {x:ACode},x.shut=true→∀ {fr:List AV} {st:St} {o:Out},L≤st.length→exec call n x fr st=some o→exec call n x (fr.map (AV.sh L ext.length)) (shS L ext st)=some (Y7 L ext o)∧L≤o.2.2.length
 | .skip,_,_,_,_,i,h=>by simp only[exec]at h ⊢; cases h; exact⟨rfl,i⟩
 | .exit _,_,_,_,_,i,h=>by simp only[exec]at h ⊢; cases h; exact⟨rfl,i⟩
 | .ret,_,_,_,_,i,h=>by simp only[exec]at h ⊢; cases h; exact⟨rfl,i⟩
 | .reg kill ops,hs,fr,st,o,i,h=>by
  simp only[exec,fL_eq]at h ⊢;cases j:g9 call ops ⟨i6 kill fr,fun _=>.undef,st⟩with
  | none=>simp[j]at h
  | some σ =>
   obtain⟨u,l⟩:=a3H t hs i j;simp only[j]at h;cases h;have e:(Sig.sh L ext ⟨i6 kill fr,fun _=>.undef,st⟩)=⟨i6 kill (fr.map (AV.sh L ext.length)),fun _=>.undef,shS L ext st⟩:=by rw[a01]; rfl
   rw[e]at u;rw[u];exact⟨rfl,l⟩
 | .test kill ops c a b,hs,fr,st,o,i,h=>by
  simp only[ACode.shut,AA]at hs;obtain⟨⟨⟨u,l⟩,G⟩,I⟩:=hs;rw[a4r]at h ⊢;rw[a0f]at h ⊢;cases j:g9 call ops ⟨i6 kill fr,fun _=>.undef,st⟩with
  | none=>rw[j]at h; cases h
  | some σ =>
   obtain⟨k1,k2⟩:=a3H t u i j;have e:(Sig.sh L ext ⟨i6 kill fr,fun _=>.undef,st⟩)=⟨i6 kill (fr.map (AV.sh L ext.length)),fun _=>.undef,shS L ext st⟩:=by rw[a01]; rfl
   rw[e]at k1;rw[j,n9]at h;rw[k1,n9,a6V l];unfold br at h ⊢;cases J:c.read σ<;>rw[J]at h<;>try cases h
   rename_i bb;cases bb
   · exact N2 t n I k2 h
   · exact N2 t n G k2 h
 | .either kill a b,hs,fr,st,o,i,h=>by
  simp only[ACode.shut,AA]at hs;simp only[exec]at h ⊢;obtain⟨R,S,E,F,B,N⟩:=a04 h;obtain⟨a1,a2⟩:=N2 t n hs.1 i E;obtain⟨D,O⟩:=N2 t n hs.2 i F;have z:∀ x:Out,C1 kill (Y7 L ext x)=Y7 L ext (C1 kill x):=fun x=>by unfold C1 Y7;rw[a01]
  rw[a1,D,a2T (by rw[z,z,B,N]),z,B];refine⟨rfl,?_⟩;rw[← B];exact a2
 | .seq a b,hs,fr,st,o,i,h=>by
  simp only[ACode.shut,AA]at hs;rw[exec_seqK]at h ⊢;cases j:exec call n a fr st with
  | none=>rw[j]at h; cases h
  | some x =>
   obtain⟨e,y,C⟩:=x;obtain⟨u,l⟩:=N2 t n hs.1 i j;rw[j]at h;rw[u];cases e with
   | normal=>exact N2 t n hs.2 l h
   | exit id=>cases h; exact⟨rfl,l⟩
   | ret=>cases h; exact⟨rfl,l⟩
 | .blk id a,hs,fr,st,o,i,h=>by
  simp only[exec]at h ⊢;cases j:exec call n a fr st with
  | none=>rw[j]at h; cases h
  | some x =>
   obtain⟨e,y,C⟩:=x;obtain⟨u,l⟩:=N2 t n (x:=a) hs i j;rw[j]at h;rw[u];cases e with
   | normal=>cases h; exact⟨rfl,l⟩
   | exit M=>cases h; exact⟨rfl,l⟩
   | ret=>cases h; exact⟨rfl,l⟩
 | .loop a,hs,fr,st,o,i,h=>by simp only[exec]at h ⊢;exact b11 (fun fr st o i h=>N2 t n (x:=a) hs i h) n i h
def a00 (e:List AV→St→Option (AV×St)):Prop:=∀ (L:Nat) (ext:St) as st r st',L≤st.length→e as st=some (r,st')→e (as.map (AV.sh L ext.length)) (shS L ext st)=some (r.sh L ext.length,shS L ext st')∧L≤st'.length
def a3u (tbl:Nat→Option AFn):Prop:=∀ f fn,tbl f=some fn→fn.code.shut=true∧∀ e,fn.ext=some e→a00 e
theorem b6I (r:ResK) (fr:List AV) {st:St} (l:L≤st.length):r.get (fr.map (AV.sh L ext.length)) (shS L ext st)=(r.get fr st).map (AV.sh L ext.length):=by
 cases r with
 | po i j n =>
  simp only[ResK.get];rw[T1];cases fr.getD i AV.undef<;>try rfl
  rename_i o off;simp only[AV.sh];rw[Q3 l];cases st[o]? with
  | none=>rfl
  | some t =>
   cases t with
   | cells cs=>simp only[AN,Obj.sh,X1,H2]
   | map _=>rfl
   | dead=>rfl
 | v i=>show some _=some _; rw[T1,← T7]
 | vs i=>show some _=some _; rw[T1]
 | bx i j n =>
  simp only[ResK.get];rw[T1];cases fr.getD i AV.undef<;>try rfl
  rename_i cs;simp only[AV.sh,m0,H2]
theorem a0N {st:St} (i:L≤st.length):∀ (rs:List ResK) (fr:List AV),B3 rs (fr.map (AV.sh L ext.length)) (shS L ext st)=(B3 rs fr st).map (·.map (AV.sh L ext.length))
 | [],_=>rfl
 | r::rs,fr=>by rw[B3,B3,b6I r fr i,a0N i rs];cases r.get fr st<;>cases B3 rs fr st<;>rfl
theorem d0W (x:V0 L ext call) (n:Nat) {fn:AFn} (y:fn.code.shut=true) {as:List AV} {st st':St} {r:AV} (u:L≤st.length) (h:fn.run call n as st=some (r,st')):fn.run call n (as.map (AV.sh L ext.length)) (shS L ext st)=some (r.sh L ext.length,shS L ext st')∧L≤st'.length:=by
 have hl:as.length=fn.np:=by
  unfold AFn.run at h;split at h
  · assumption
  · cases h
 rw[R6 _ _ _ _ _ hl]at h;rw[R6 _ _ _ _ _ (by rw[AF]; exact hl)];cases t:exec call n fn.code (as++List.replicate (fn.nv - fn.np) .undef) st with
 | none=>rw[t]at h; cases h
 | some o =>
  obtain⟨e,fr,s⟩:=o;obtain⟨l,i⟩:=N2 x n y u t;rw[t]at h;rw[AT,List.map_replicate]at l;rw[show AV.sh L ext.length .undef=.undef from rfl]at l;rw[l];cases e with
  | exit id=>cases h
  | normal =>
   simp only[finK,Y7,a0N (show L≤s.length from i)]at h ⊢;cases j:B3 fn.results fr s with
   | none=>rw[j]at h; cases h
   | some vs =>
    rw[j]at h;match vs,h with
    | [],h=>cases h; exact⟨rfl,i⟩
    | [v],h=>cases h; exact⟨rfl,i⟩
    | v::w::vs,h=>cases h; exact⟨by simp only[AN,AG,AV.sh,m0,I2],i⟩
  | ret =>
   simp only[finK,Y7,a0N (show L≤s.length from i)]at h ⊢;cases j:B3 fn.results fr s with
   | none=>rw[j]at h; cases h
   | some vs =>
    rw[j]at h;match vs,h with
    | [],h=>cases h; exact⟨rfl,i⟩
    | [v],h=>cases h; exact⟨rfl,i⟩
    | v::w::vs,h=>cases h; exact⟨by simp only[AN,AG,AV.sh,m0,I2],i⟩
theorem a1i {tbl:Nat→Option AFn} (t:a3u tbl):∀ n,V0 L ext (j0 tbl n)
 | 0,_,_,_,_,_,_,h=>by simp[j0]at h
 | n+1,f,as,st,r,st',l,h=>by
  simp only[j0]at h ⊢;cases i:tbl f with
  | none=>simp[i]at h
  | some fn =>
   simp only[i]at h ⊢;obtain⟨u,x⟩:=t f fn i;cases j:fn.ext with
   | some e=>simp only[j]at h ⊢; exact x e j L ext _ _ _ _ l h
   | none =>simp only[j]at h ⊢;exact d0W (a1i t n) n u l h
theorem Ev.more {tbl:Nat→Option AFn} (i:a3u tbl) {f:Nat} {as:List AV} {st:St} {r:AV} {st':St} (h:Ev tbl f as st r st') (ext:St):Ev tbl f (as.map (AV.sh st.length ext.length)) (shS st.length ext st) (r.sh st.length ext.length) (shS st.length ext st'):=by obtain⟨n,hn⟩:=h;exact⟨n,(a1i i n _ _ _ _ _ (AJ _) hn).1⟩
end
end Go.Cb
namespace Go.Cb
open Classical
def a08:ACode→Bool
 | .ret=>false
 | .seq a b|.test _ _ _ a b|.either _ a b=>a08 a && a08 b
 | .blk _ a|.loop a=>a08 a
 | _=>true
def a0v (e:Nat):ACode→Bool
 | .seq a b|.test _ _ _ a b=>a0v e a && a0v e b
 | .blk id a=>!Nat.beq id e && a0v e a
 | .loop a=>a0v e a
 | .either ..=>false
 | _=>true
def L0 (e:Nat):ACode→ACode
 | .exit id=>if Nat.beq id e then .ret else .exit id
 | .seq a b=>.seq (L0 e a) (L0 e b)
 | .test k o c a b=>.test k o c (L0 e a) (L0 e b)
 | .blk id a=>.blk id (L0 e a)
 | .loop a=>.loop (L0 e a)
 | y=>y
def T3 (e:Nat):Ex→Ex
 | .exit id=>if Nat.beq id e then .ret else .exit id
 | x=>x
theorem a6k {b:List AV→St→Option Out} (h:∀ fr st out,b fr st=some out→out.1≠.ret):∀ (n:Nat) (fr:List AV) (st:St) (out:Out),E5 b n fr st=some out→out.1≠.ret
 | 0,_,_,_,i=>by cases i
 | n+1,fr,st,out,i=>by
  rw[E5]at i;split at i
  · exact a6k h n _ _ _ i
  · exact h _ _ _ i
theorem H4 {call:d8} {n:Nat}:∀ (y:ACode) (fr:List AV) (st:St) (out:Out),a08 y=true→exec call n y fr st=some out→out.1≠.ret
 | .skip,fr,st,out,_,i=>by simp only[exec,AC]at i; subst i; simp
 | .exit id,fr,st,out,_,i=>by simp only[exec,AC]at i; subst i; simp
 | .ret,_,_,_,h,_=>by cases h
 | .reg kill ops,fr,st,out,_,i=>by
  simp only[exec]at i;split at i
  · simp only[fL_eq,AC]at i; subst i; simp
  · cases i
 | .test kill ops c a b,fr,st,out,h,i=>by
  simp only[a08,AA]at h;simp only[exec,fL_eq]at i;split at i
  · split at i
    · exact H4 a _ _ _ h.1 i
    · exact H4 b _ _ _ h.2 i
    · cases i
  · cases i
 | .seq a b,fr,st,out,h,i=>by
  simp only[a08,AA]at h;rcases G7 i with⟨l,B,_,e2⟩|⟨e1,_⟩
  · exact H4 b _ _ _ h.2 e2
  · exact H4 a _ _ _ h.1 e1
 | .blk id a,fr,st,out,h,i=>by
  simp only[exec]at i;split at i
  · simp only[AC]at i;subst i;dsimp only;split<;>simp
  · exact H4 a _ _ _ h i
 | .loop a,fr,st,out,h,i=>by simp only[exec]at i;exact a6k (fun fr st out t=>H4 a fr st out h t) _ _ _ _ i
 | .either kill a b,fr,st,out,h,i=>by simp only[a08,AA]at h;simp only[exec]at i;obtain⟨z,E,j,C,x,D⟩:=a04 i;subst x;exact fun u=>H4 a fr st z h.1 j u
theorem a5Y {e:Nat} {b b':List AV→St→Option Out} (h:∀ fr st out,b fr st=some out→b' fr st=some (T3 e out.1,out.2)):∀ (n:Nat) (fr:List AV) (st:St) (out:Out),E5 b n fr st=some out→E5 b' n fr st=some (T3 e out.1,out.2)
 | 0,_,_,_,i=>by cases i
 | n+1,fr,st,out,i=>by
  rw[E5]at i;rw[E5];split at i
  · rename_i j t l;rw[h _ _ _ l];exact a5Y h n _ _ _ i
  · rename_i l;rw[h _ _ _ i];obtain⟨x,j,t⟩:=out;cases x with
    | normal=>exact absurd i (l _ _)
    | ret=>rfl
    | exit id =>
     dsimp only[T3];by_cases u:Nat.beq id e=true
     · simp only[u,if_true]
     · simp only[u,if_false,Bool.false_eq_true]
theorem F5 {e:Nat} {call:d8} {n:Nat}:∀ (y:ACode) (fr:List AV) (st:St) (out:Out),a0v e y=true→exec call n y fr st=some out→exec call n (L0 e y) fr st=some (T3 e out.1,out.2)
 | .skip,fr,st,out,_,i=>by simp only[exec,AC]at i; subst i; rfl
 | .ret,fr,st,out,_,i=>by simp only[exec,AC]at i; subst i; rfl
 | .exit id,fr,st,out,_,i=>by simp only[exec,AC]at i;subst i;simp only[L0,T3];split<;>simp[exec]
 | .reg kill ops,fr,st,out,_,i=>by
  rw[L0,i];simp only[exec]at i;split at i
  · simp only[fL_eq,AC]at i; subst i; rfl
  · cases i
  all_goals simp
 | .test kill ops c a b,fr,st,out,h,i=>by
  simp only[a0v,AA]at h;simp only[exec,fL_eq]at i;simp only[L0,exec,fL_eq];split at i
  · split at i
    · exact F5 a _ _ _ h.1 i
    · exact F5 b _ _ _ h.2 i
    · cases i
  · cases i
 | .seq a b,fr,st,out,h,i=>by
  simp only[a0v,AA]at h;rw[L0,exec];rcases G7 i with⟨t,u,e1,e2⟩|⟨e1,hn⟩
  · rw[F5 a _ _ _ h.1 e1];exact F5 b _ _ _ h.2 e2
  · rw[F5 a _ _ _ h.1 e1];obtain⟨x,t,u⟩:=out;cases x with
    | normal=>exact absurd rfl hn
    | ret=>rfl
    | exit id =>
     dsimp only[T3];by_cases l:Nat.beq id e=true
     · simp only[l,if_true]
     · simp only[l,if_false,Bool.false_eq_true]
 | .blk id a,fr,st,out,h,i=>by
  simp only[a0v,AA,Bool.not_eq_true']at h;simp only[exec]at i;rw[L0,exec];split at i
  · rename_i j t u B;simp only[AC]at i;subst i;rw[F5 a _ _ _ h.2 B];dsimp only[T3];by_cases l:Nat.beq j e=true
    · have e1:j=e:=Nat.eq_of_beq_eq_true l;have e2:j≠id:=fun q=>by rw[← q,l]at h; cases h.1
      simp only[l,if_true,e2,if_false]
    · simp only[l,if_false,Bool.false_eq_true];by_cases e2:j=id
      · simp only[e2,if_true]
      · simp only[e2,if_false,l,Bool.false_eq_true]
  · rename_i z;rw[F5 a _ _ _ h.2 i];obtain⟨x,t,u⟩:=out;cases x with
    | normal=>rfl
    | ret=>rfl
    | exit j=>exact absurd i (z _ _ _)
 | .loop a,fr,st,out,h,i=>by simp only[exec]at i;rw[L0,exec];exact a5Y (fun fr st out C=>F5 a fr st out h C) _ _ _ _ i
 | .either ..,_,_,_,h,_=>by cases h
def a0j (i:Nat) (o:AOper):Bool:=(match o.dst with|.v j=>!Nat.beq i j|_=>true) && (match o.box with|some j=>!Nat.beq i j|none=>true) && o.args.all (fun x=>match x with|.vs j=>!Nat.beq i j|_=>true)
def a0y (i:Nat):ACode→Bool
 | .reg kill ops=>!kill.contains i && ops.all (a0j i)
 | .test kill ops _ a b=>!kill.contains i && ops.all (a0j i) && a0y i a && a0y i b
 | .seq a b=>a0y i a && a0y i b
 | .blk _ a|.loop a=>a0y i a
 | .either ..=>false
 | _=>true
theorem a1A {i:Nat}:∀ (kill:List Nat) (fr:List AV),i ∉ kill→(i6 kill fr).getD i .undef=fr.getD i .undef
 | [],_,_=>rfl
 | k::ks,fr,h=>by
  rw[i6,a1A ks _ fun hm=>h (List.mem_cons_of_mem _ hm)];have j:k≠i:=fun e=>h (by simp[e])
  simp only[List.getD_eq_getElem?_getD,List.getElem?_set_ne j]
theorem a2Y {i:Nat} {d:Dst} {r:AV} {σ:Sig} (h:(match d with|.v j=>!Nat.beq i j|_=>true)=true):(d.put r σ).fr.getD i .undef=σ.fr.getD i .undef:=by
 cases d with
 | none=>rfl
 | bx=>rfl
 | t s=>rfl
 | v j =>
  have l:j≠i:=fun e=>by subst e; simp at h
  show(σ.fr.set j r.strip).getD i .undef=_;simp only[List.getD_eq_getElem?_getD,List.getElem?_set_ne l]
theorem a3i {i:Nat}:∀ (as:List Opd) (σ:Sig),as.all (fun x=>match x with|.vs j=>!Nat.beq i j|_=>true)=true→(d9 as σ).fr.getD i .undef=σ.fr.getD i .undef
 | [],_,_=>rfl
 | x::xs,σ,h=>by
  rw[List.all_cons,AA]at h;rw[d9,a3i xs _ h.2];cases x<;>try rfl
  rename_i j;have l:j≠i:=fun e=>by subst e; simp at h
  show(σ.fr.set j _).getD i .undef=_;simp only[List.getD_eq_getElem?_getD,List.getElem?_set_ne l]
theorem a7F {i:Nat} {call:d8} {o:AOper} {σ σ':Sig} (h:a0j i o=true) (hs:y9 call o σ=some σ'):σ'.fr.getD i .undef=σ.fr.getD i .undef:=by
 simp only[a0j,AA]at h;obtain⟨⟨l,t⟩,u⟩:=h;rw[J5]at hs;split at hs
 · rename_i r bx st x;split at hs
   · rename_i j y;simp only[AC]at hs;subst hs;rw[a2Y l];rw[y]at t;have z:j≠i:=fun e=>by subst e; simp at t
     simp only[List.getD_eq_getElem?_getD,List.getElem?_set_ne z];simpa only [List.getD_eq_getElem?_getD]using a3i o.args σ u
   · simp only[AC]at hs;subst hs;rw[a2Y l];exact a3i o.args σ u
 · cases hs
theorem b1t {i:Nat} {call:d8} {o:AOper} {σ σ':Sig} (h:a0j i o=true) (hs:i7 call o σ=some σ'):σ'.fr.getD i .undef=σ.fr.getD i .undef:=by
 have l:(match o.dst with|.v j=>!Nat.beq i j|_=>true)=true:=by simp only[a0j,AA]at h;exact h.1.1
 unfold i7 at hs;split at hs
 · exact a7F h hs
 · split at hs
   · split at hs
     · exact a7F h hs
     · simp only[AC]at hs; subst hs; exact a2Y l
   · simp only[AC]at hs; subst hs; exact a2Y l
   · cases hs
theorem a2m {i:Nat} {call:d8}:∀ (ops:List AOper) (σ σ':Sig),ops.all (a0j i)=true→g9 call ops σ=some σ'→σ'.fr.getD i .undef=σ.fr.getD i .undef
 | [],σ,σ',_,hs=>by simp only[g9,AC]at hs; subst hs; rfl
 | o::os,σ,σ',h,hs=>by
  rw[List.all_cons,AA]at h;simp only[g9]at hs;split at hs
  · rename_i σ1 j;rw[a2m os _ _ h.2 hs,b1t h.1 j]
  · cases hs
theorem a7A {i:Nat} {b:List AV→St→Option Out} (h:∀ fr st out,b fr st=some out→out.2.1.getD i .undef=fr.getD i .undef):∀ (n:Nat) (fr:List AV) (st:St) (out:Out),E5 b n fr st=some out→out.2.1.getD i .undef=fr.getD i .undef
 | 0,_,_,_,j=>by cases j
 | n+1,fr,st,out,j=>by
  rw[E5]at j;split at j
  · rename_i l u t;rw[a7A h n _ _ _ j];exact h _ _ _ t
  · exact h _ _ _ j
theorem K2 {i:Nat} {call:d8} {n:Nat}:∀ (y:ACode) (fr:List AV) (st:St) (out:Out),a0y i y=true→exec call n y fr st=some out→out.2.1.getD i .undef=fr.getD i .undef
 | .skip,fr,st,out,_,j=>by simp only[exec,AC]at j; subst j; rfl
 | .ret,fr,st,out,_,j=>by simp only[exec,AC]at j; subst j; rfl
 | .exit id,fr,st,out,_,j=>by simp only[exec,AC]at j; subst j; rfl
 | .reg kill ops,fr,st,out,h,j=>by
  simp only[a0y,AA,Bool.not_eq_true']at h;simp only[exec]at j;split at j
  · rename_i σ l;simp only[fL_eq,AC]at j;subst j;rw[a2m ops _ _ h.2 l];exact a1A kill fr (by simpa using h.1)
  · cases j
 | .test kill ops c a b,fr,st,out,h,j=>by
  simp only[a0y,AA,Bool.not_eq_true']at h;obtain⟨⟨⟨x,B⟩,C⟩,D⟩:=h;simp only[exec,fL_eq]at j;split at j
  · rename_i σ l;have e1:σ.fr.getD i .undef=fr.getD i .undef:=by rw[a2m ops _ _ B l];exact a1A kill fr (by simpa using x)
    split at j
    · rw[K2 a _ _ _ C j,e1]
    · rw[K2 b _ _ _ D j,e1]
    · cases j
  · cases j
 | .seq a b,fr,st,out,h,j=>by
  simp only[a0y,AA]at h;rcases G7 j with⟨t,u,e1,e2⟩|⟨e1,_⟩
  · rw[K2 b _ _ _ h.2 e2];exact K2 a _ _ _ h.1 e1
  · exact K2 a _ _ _ h.1 e1
 | .blk id a,fr,st,out,h,j=>by
  simp only[exec]at j;split at j
  · rename_i z t u x;simp only[AC]at j;subst j;exact K2 a fr st (Ex.exit z,t,u) h x
  · exact K2 a _ _ _ h j
 | .loop a,fr,st,out,h,j=>by simp only[exec]at j;exact a7A (fun fr st out E=>K2 a fr st out h E) _ _ _ _ j
 | .either ..,_,_,_,h,_=>by cases h
end Go.Cb
namespace Go.Cb
open Classical
def a1r (c:Cx):List Operand→List Opd→Bool
 | [],[]=>true
 | .tmp t::xs,.v i::ys=>c.slots[i]? == some t && !c.bxs.contains i && a1r c xs ys
 | _,_=>false
def a8g (c:Cx) (ops:List Oper) (q:AOper):Option Nat:=match q with
 | ⟨.none,.call i,ys,none,none⟩=>match ops.reverse with
  | ⟨none,.defer ⟨.value (.func f),args,_⟩,_,_,_,none⟩::l=>if f == i && a1r c args.toList ys then some l.length else none
  | ⟨none,.defer ⟨.value (.tmp t),args,_⟩,_,_,_,none⟩::⟨some t',.makeFunc (.func f) first caps,_,_,_,none⟩::l =>if args.size == 0 && first.size == 0 && f == i && t == t' && !c.slots.contains t && Nat.blt t c.nt && a1r c caps.toList ys then some l.length else none
  | _=>none
 | _=>none
def dfr0 (ops:List Oper):Option (Nat×Nat):=match ops.reverse with
 | ⟨none,.defer ⟨.value (.func f),args,_⟩,_,_,_,none⟩::l=>if args.size == 1 then some (l.length,f)else none
 | _=>none
section
variable {c:Cx} {g:Gh} {w:World} {pr:Nat→Option Pl} {bx:Nat→Nat} {σ σ':Sig} {a:Act} {call:d8} {ops:Array Oper} {Q:Exit→Act→World→Prop}
theorem a4S (F:Fx c) (G:F9 c.P c.gt call) {l:List Oper} {y:List AOper} (x:U0 c ops l y=true) (hl:∀ (i:Nat) o,l[i]?=some o→ops[i]?=some o) {rest:List Nat}:∀ (n k:Nat) (g:Gh) (w:World) (pr:Nat→Option Pl) (bx:Nat→Nat) (σ:Sig) (a:Act),k+n=y.length →
 S c g w pr bx σ a→g9 call (y.drop k) σ=some σ'→Post c g w a σ' (wpOps c.P ops Q rest)→wpOps c.P ops Q (List.range' k n++rest) a w
 | 0,k,g,w,pr,bx,σ,a,M,h,t,j=>by rw[List.drop_of_length_le (by omega)]at t;simp only[g9,AC]at t;subst t;exact j a w g pr bx rfl h (Tr.refl _ _ _)
 | n+1,k,g,w,pr,bx,σ,a,M,h,t,j=>by
  obtain⟨_,u⟩:=X5 x;rw[List.drop_eq_getElem_cons (by omega)]at t;simp only[g9]at t;obtain⟨o,N,I,J⟩:=u k _ (AD (show k < y.length by omega));cases hs:i7 call (y[k]'(by omega)) σ with
  | none=>simp[hs]at t
  | some σ1 =>
   simp only[hs]at t;rw[List.range'_succ,List.cons_append,wpOps_cons];refine a4F F G h (hl _ _ N) I J hs fun a1 w1 g1 E z C B D=>?_
   exact a4S F G x hl n (k+1) g1 w1 E z σ1 a1 (by omega) B t (j.trans C D)
theorem a5H (h:S c g w pr bx σ a):∀ {xs:List Operand} {ys:List Opd},a1r c xs ys=true→RelL g w ((ys.map (·.read σ)).map AV.weak) (xs.map a.eval)
 | [],[],_=>by simp[RelL]
 | x::xs,[],hv=>by cases x<;>simp[a1r]at hv
 | [],y::ys,hv=>by simp[a1r]at hv
 | x::xs,y::ys,hv=>by
  unfold a1r at hv;split at hv
  · rename_i e1 e2; cases e1
  · rename_i t E i F e1 e2;cases e1; cases e2;simp only[AA,beq_iff_eq,Bool.not_eq_true']at hv;obtain⟨⟨z,B⟩,C⟩:=hv;have j:=h.fr.var i t z;have u:∀ cs,σ.fr.getD i .undef≠.box cs:=fun cs l=>by have:=h.fr.bxs i cs l;simp[this]at B
    have D:Rel g w (σ.fr.getD i .undef).weak (a.tmps.getD t undef):=ValOK.rel (ValOK.of_weak (mine:=No) (ValOK.rel (j.val u)));simp only[AG,RelL];exact⟨_,_,rfl,by show Rel g w (σ.fr.getD i .undef).weak.weak _; rw[E3]; exact D,a5H h C⟩
  · cases hv
theorem b1Q {ops:Array Oper} {o:Oper} {l:List Oper} (h:ops.toList.reverse=o::l):ops.size=l.length+1∧ops.toList.take l.length=l.reverse∧ops[l.length]?=some o:=by
 have e:ops.toList=l.reverse++[o]:=by have:=congrArg List.reverse h;simpa using this
 refine⟨by rw[← Array.length_toList,e]; simp,by rw[e]; simp,?_⟩;rw[← Array.getElem?_toList,e,List.getElem?_append_right (by simp)];simp
theorem b7h {ops:Array Oper} {o p:Oper} {l:List Oper} (h:ops.toList.reverse=o::p::l):ops.size=l.length+2∧ops.toList.take l.length=l.reverse∧ops[l.length]?=some p∧ops[l.length+1]?=some o:=by
 have e:ops.toList=l.reverse++[p,o]:=by have:=congrArg List.reverse h;simpa using this
 refine⟨by rw[← Array.length_toList,e]; simp,by rw[e]; simp,?_,?_⟩
 · rw[← Array.getElem?_toList,e,List.getElem?_append_right (by simp)];simp
 · rw[← Array.getElem?_toList,e,List.getElem?_append_right (by simp)];simp
theorem b2v (fx:Fx c) (hc:F9 c.P c.gt call) {id:Nat} {q:AOper} {f:Nat} {ys:List Opd} (hq:q=⟨.none,.call f,ys,none,none⟩) {k:Nat} (D:a8g c ops.toList q=some k) {kill:List Nat} {ps:List AOper} (Y:U0 c ops (ops.toList.take k) ps=true)
 {fr:List AV} {τ:Nat→AV} {st:St} (h:S c g w pr bx ⟨fr,τ,st⟩ a) (hr:g9 call ps ⟨i6 kill fr,fun _=>.undef,st⟩=some σ)
 (I:∀ a1 w1 g1 O E (cap F:Array Value) (vs:List Value),vs.toArray=F++cap→RelL g1 w1 ((ys.map (·.read σ)).map AV.weak) vs→a1.defers={ target:=.fn (.func f) cap,args:=F }::a.defers →
  S c g1 w1 O E ⟨σ.fr,fun _=>.undef,σ.st⟩ a1→Tr c.A g w g1 w1→Q .normal a1 w1):(Code.region id ops false).wp c.P Q a w:=by
 subst hq;have h0:=h.reset kill;obtain⟨hl,_⟩:=X5 Y;refine wp_region ?_;have T:∀ (i:Nat) o,(ops.toList.take k)[i]?=some o→ops[i]?=some o:=fun i o hi=>by
  rw[List.getElem?_take]at hi;split at hi
  · rwa [Array.getElem?_toList]at hi
  · cases hi
 unfold a8g at D;dsimp only at D;split at D
 · rename_i C args at_ ty pos U l M;split at D
   case isFalse=>cases D
   rename_i u;simp only[AA,beq_iff_eq]at u;obtain⟨rfl,hv⟩:=u;simp only[AC]at D;subst D;obtain⟨a0,z,y⟩:=b1Q M;have B:ps.length=l.length:=by rw[← hl,z]; simp
   rw[List.range_eq_range',a0,← List.range'_append_1,show 0+l.length=l.length by omega,List.range'_one,← B];refine a4S fx hc Y T ps.length 0 g w pr bx _ a (by omega) h0 (by simpa using hr) fun a1 w1 g1 O E V x a2=>?_
   rw[wpOps_cons];refine Q9 (by rw[B]; exact y) rfl ?_;have J:=a5H x hv;have N:(execOp a1.eval ⟨none,.defer ⟨.value (.func C),args,at_⟩,ty,pos,U,none⟩).run c.P w1=.ok (.defer { target:=.fn (.func C) #[],args:=args.map a1.eval }) w1:=by simp[execOp,resolve,Deferred.ofValue,Act.eval]
   unfold Oper.wp;rw[N,Oper.upon_defer];refine I { a1 with defers:=_::a1.defers } w1 g1 O E #[] (args.map a1.eval) (args.toList.map a1.eval) (Array.toList_inj.1 (by simp)) J (by simp only[V]) ?_ a2;exact⟨(x.reset []).fr,x.st,x.gl,x.fresh,x.stA⟩
 · rename_i t args at_ ty pos U t' C first j b4 b1 b0 l M
   split at D
   case isFalse=>cases D
   rename_i u;simp only[AA,beq_iff_eq,Bool.not_eq_true']at u;obtain⟨⟨⟨⟨⟨⟨ea,ef⟩,rfl⟩,rfl⟩,W⟩,R⟩,hv⟩:=u;have ea:=Array.eq_empty_of_size_eq_zero ea;have ef:=Array.eq_empty_of_size_eq_zero ef;subst ea; subst ef;simp only[AC]at D;subst D;obtain⟨a0,z,b3,y⟩:=b7h M;have B:ps.length=l.length:=by rw[← hl,z]; simp
   have R:t < c.nt:=by simpa using R
   have W:t ∉ c.slots:=by simpa using W
   rw[List.range_eq_range',a0,← List.range'_append_1,show 0+l.length=l.length by omega,show List.range' l.length 2=[l.length,l.length+1]from rfl,← B];refine a4S fx hc Y T ps.length 0 g w pr bx _ a (by omega) h0 (by simpa using hr) fun a1 w1 g1 O E V x a2=>?_
   rw[wpOps_cons];refine Q9 (by rw[B]; exact b3) rfl ?_;have J:=a5H x hv;have N:(execOp a1.eval ⟨some t,.makeFunc (.func C) #[] j,b4,b1,b0,none⟩).run c.P w1=.ok (.value (.func (.func C) #[] (j.map a1.eval))) w1:=by simp[execOp,Instr.makeFunc]
   unfold Oper.wp;rw[N,Oper.upon_value,wpOps_cons];have G:=(x.reset []).put_undef W R (.func (.func C) #[] (j.map a1.eval));refine Q9 (by rw[B]; exact y) rfl ?_;have b2:(a1.put (some t) (.func (.func C) #[] (j.map a1.eval))).eval (.tmp t)=.func (.func C) #[] (j.map a1.eval):=by have:=x.fr.size;simp only[Act.put,Act.eval];exact E2 (by rw[this]; exact R)
   have Z:(execOp (a1.put (some t) (.func (.func C) #[] (j.map a1.eval))).eval ⟨none,.defer ⟨.value (.tmp t),#[],at_⟩,ty,pos,U,none⟩).run c.P w1=.ok (.defer { target:=.fn (.func C) (j.map a1.eval),args:=#[] }) w1:=by simp only[execOp,resolve,Sem.run_bind,b2];simp[Deferred.ofValue]
   unfold Oper.wp;rw[Z,Oper.upon_defer];refine I { a1.put (some t) (.func (.func C) #[] (j.map a1.eval))with defers:=_::(a1.put (some t) (.func (.func C) #[] (j.map a1.eval))).defers } w1 g1 O E (j.map a1.eval) #[] (j.toList.map a1.eval) (Array.toList_inj.1 (by simp)) J (by simp only[Act.put,V]) ?_ a2;exact⟨G.fr,G.st,G.gl,G.fresh,G.stA⟩
 · cases D
theorem b1l (V:Fx c) (Y:F9 c.P c.gt call) {id:Nat} {f k:Nat} (x:dfr0 ops.toList=some (k,f)) {kill:List Nat} {M:List AOper} (D:U0 c ops (ops.toList.take k) M=true)
 {fr:List AV} {τ:Nat→AV} {st:St} (h:S c g w pr bx ⟨fr,τ,st⟩ a) (Z:g9 call M ⟨i6 kill fr,fun _=>.undef,st⟩=some σ)
 (z:∀ a1 w1 g1 C u (j:Array Value),j.size=1→a1.defers={ target:=.fn (.func f) #[],args:=j }::a.defers→S c g1 w1 C u ⟨σ.fr,fun _=>.undef,σ.st⟩ a1→Tr c.A g w g1 w1→Q .normal a1 w1):(Code.region id ops false).wp c.P Q a w:=by
 have W:=h.reset kill;obtain⟨hl,_⟩:=X5 D;refine wp_region ?_;have F:∀ (i:Nat) o,(ops.toList.take k)[i]?=some o→ops[i]?=some o:=fun i o hi=>by
  rw[List.getElem?_take]at hi;split at hi
  · rwa [Array.getElem?_toList]at hi
  · cases hi
 unfold dfr0 at x;split at x
 · rename_i U args at_ ty pos N l G;split at x
   case isFalse=>cases x
   rename_i J;simp only[AC,AH]at x;obtain⟨rfl,rfl⟩:=x;obtain⟨R,B,y⟩:=b1Q G;have E:M.length=l.length:=by rw[← hl,B]; simp
   rw[List.range_eq_range',R,← List.range'_append_1,show 0+l.length=l.length by omega,List.range'_one,← E];refine a4S V Y D F M.length 0 g w pr bx _ a (by omega) W (by simpa using Z) fun a1 w1 g1 C u O t T=>?_
   rw[wpOps_cons];refine Q9 (by rw[E]; exact y) rfl ?_;have I:(execOp a1.eval ⟨none,.defer ⟨.value (.func U),args,at_⟩,ty,pos,N,none⟩).run c.P w1=.ok (.defer { target:=.fn (.func U) #[],args:=args.map a1.eval }) w1:=by simp[execOp,resolve,Deferred.ofValue,Act.eval]
   unfold Oper.wp;rw[I,Oper.upon_defer];refine z { a1 with defers:=_::a1.defers } w1 g1 C u (args.map a1.eval) (by simpa using J) (by simp only[O]) ?_ T;exact⟨(t.reset []).fr,t.st,t.gl,t.fresh,t.stA⟩
 · cases x
def b3O (P:Program) (i:List Nat):Prop:=∀ f∈i,U8 P f=true∧∀ (args:Array Value) (w:World),args.size=1→CallsD P f args .returning w fun e u w'=>u=.returning∧w'=w∧∃ v,e=.returned v
def DOK (P:Program) (gt:List (Nat×List AV)) (D:List Nat) (call:d8):Prop :=
 ∀ (f:Nat) (args:List AV) (st:St) (res:AV) (st':St),f∈D→call f args st=some (res,st')→(∀ x∈args,x.weak=x) →
  U8 P f=true∧∀ (g:Gh) (w:World) (vs:List Value),SRel g w st→Globs gt g w→RelL g w args vs→CallsD P f vs.toArray .returning w (fun e u w'=>u=.returning∧CallPost g w st' res e w')
theorem S.called (h:S c g w pr bx σ a) {g':Gh} {w':World} {st':St} (t:SRel g' w' st') (i:Tr No g w g' w'):S c g' w' pr bx { σ with st:=st' } a :=
 ⟨h.fr.evolve i,t,h.gl.ext i.ext,fun b j=>h.fresh b (Nat.le_trans i.size j),fun b p j=>by
  rcases Nat.lt_or_ge b w.heap.size with l|hge
  · cases u:g.sr b with
    | some q=>exact h.stA b q u
    | none=>have:=(i.keep b l u (fun x=>x)).2; rw[j]at this; cases this
  · exact h.fresh b hge⟩
theorem S.dfrs (h:S c g w pr bx σ a) (i:List Deferred):S c g w pr bx σ { a with defers:=i }:=⟨h.fr,h.st,h.gl,h.fresh,h.stA⟩
def Z6 (y:ACode):List Opd→Bool
 | []=>true
 | .v i::xs=>a0y i y && Z6 y xs
 | _=>false
def a0A (c:Cx) (D l:List Nat):Code→ACode→Bool
 | .seq (.region id ops d) rest,y=>match y with
  | .seq (.reg kill u) (.seq (.blk e i) .skip)=>match dfr0 ops.toList with
   | some (k,f)=>!d && U0 c ops (ops.toList.take k) u && l.contains f && a08 i && a0v e i && a0A c D l rest (L0 e i)
   | none=>m9 c (.seq (.region id ops d) rest) y
  | .seq (.reg kill u) (.seq (.blk e i) (.reg [] [q]))=>match a8g c ops.toList q with
   | some k=>!d && U0 c ops (ops.toList.take k) u && (match q.kind with|.call f=>D.contains f|_=>false) && Z6 i q.args && a08 i && a0v e i && a0A c D l rest (L0 e i)
   | none=>m9 c (.seq (.region id ops d) rest) y
  | .seq (.test kill u z t b') i=>match rest with
   | .seq (.cond x a b) j=>a3b c ops d kill u && a2J c x z && m9 c a t && m9 c b b' && a0A c D l j i
   | _=>m9 c (.seq (.region id ops d) rest) y
  | .seq t b'=>m9 c (.region id ops d) t && a0A c D l rest b'
  | y=>m9 c (.seq (.region id ops d) rest) y
 | .seq a b,y=>match y with
  | .seq t b'=>m9 c a t && a0A c D l b b'
  | y=>m9 c (.seq a b) y
 | x,y=>m9 c x y
theorem a7M {σ1 σ2:Sig} {call:d8} {n:Nat} {y:ACode} {out:Out} (l:exec call n y σ1.fr σ1.st=some out) (j:σ2.fr=out.2.1):∀ {xs:List Opd},Z6 y xs=true→xs.map (·.read σ2)=xs.map (·.read σ1)
 | [],_=>rfl
 | x::xs,h=>by cases x<;>simp only[Z6,AA,Bool.false_eq_true]at h;rename_i i;rw[AG,AG,a7M l j h.2];congr 1;show(σ2.fr.getD i .undef).weak=(σ1.fr.getD i .undef).weak;rw[j,K2 y _ _ _ h.1 l]
def Left (c:Cx) (fn:Func) (R:Ending→World→Prop) (g:Gh) (w:World) (a:Act) (out:Out):Prop :=
 ∀ i w' g' l j t,i.defers=a.defers→S c g' w' l j ⟨out.2.1,t,out.2.2⟩ i→Tr c.A g w g' w'→Leaves c.P fn i.tmps R a.defers .returning w'
theorem Left.after {fn:Func} {R:Ending→World→Prop} {out:Out} (h:Left c fn R g w a out) (ho:out.1=.normal∨out.1=.ret):After c g w a out (bodyPostD c.P fn R):=fun u w' g' j i l t x y=>by have:=h u w' g' j i l t x y;rw[← t]at this;rcases ho with ho|ho<;>rw[ho]<;>exact this
theorem Left.trans {fn:Func} {R:Ending→World→Prop} {out:Out} {a1:Act} {g1:Gh} {w1:World} (h:Left c fn R g w a out) (y:a1.defers=a.defers) (B:Tr c.A g w g1 w1):Left c fn R g1 w1 a1 out:=fun z w' g' u i x l j t=>by rw[y];exact h z w' g' u i x (l.trans y) j (B.trans t)
theorem b6Y {D:List Nat} (T:DOK c.P c.gt D call) {fn:Func} {R:Ending→World→Prop} {f:Nat} {as:List AV} {vs:List Value} {cap i:Array Value} {O:List Deferred} {a2:Act} {F:Nat→AV} {u:List AV} {st2 l:St} {v:AV} {g2:Gh} {C:World} {pr2:Nat→Option Pl} {t:Nat→Nat}
 (V:f∈D) (N:vs.toArray=i++cap) (W:∀ x∈as,x.weak=x) (j:call f as st2=some (v,l)) (z:RelL g2 C as vs) (G:S c g2 C pr2 t ⟨u,F,st2⟩ a2)
 (y:∀ g3 E,S c g3 E pr2 t ⟨u,F,l⟩ a2→Tr c.A g2 C g3 E→Leaves c.P fn a2.tmps R O .returning E) :
 Leaves c.P fn a2.tmps R ({ target:=.fn (.func f) cap,args:=i }::O) .returning C:=by
 obtain⟨J,I⟩:=T f as st2 v l V j W;refine leaves_cons (f:=f) (args:=vs.toArray) (by simp) ?_ ?_
 · simp only[invoke];rw[N];exact a1I J _ _
 · refine(I g2 C vs G.st G.gl z).mono fun e Y E U=>?_
   obtain⟨rfl,_,g3,rfl,M,B,_⟩:=U;exact y g3 E (G.called M B) (B.wider fun _ x=>x.elim)
theorem b6a {n:Nat} (fx:Fx c) (hm:c.P.follows .mixedOrders=true) (hc:F9 c.P c.gt call) {D D0:List Nat} (hD:DOK c.P c.gt D call) (c3:b3O c.P D0) {fn:Func} {R:Ending→World→Prop} (x:Code) (y:ACode) (h:a0A c D D0 x y=true)
 {g:Gh} {w:World} {pr:Nat→Option Pl} {bx:Nat→Nat} {fr:List AV} {τ:Nat→AV} {st:St} {a:Act} {out:Out} (hS:S c g w pr bx ⟨fr,τ,st⟩ a) (C:exec call n y fr st=some out) (ho:out.1=.normal∨out.1=.ret) (hL:Left c fn R g w a out):x.wp c.P (bodyPostD c.P fn R) a w:=by
 have plain:∀ (x:Code) (y:ACode),m9 c x y=true→exec call n y fr st=some out→x.wp c.P (bodyPostD c.P fn R) a w :=
  fun x y d6 C=>m3 x y d6 fx hm hc hS C (hL.after ho)
 have go:∀ (q:Code),SizeOf.sizeOf q < SizeOf.sizeOf x→∀ (y:ACode),a0A c D D0 q y=true→∀ {g:Gh} {w:World} {pr:Nat→Option Pl} {bx:Nat→Nat} {fr:List AV} {τ:Nat→AV} {st:St} {a:Act} {out:Out},S c g w pr bx ⟨fr,τ,st⟩ a→exec call n y fr st=some out→(out.1=.normal∨out.1=.ret)→Left c fn R g w a out→q.wp c.P (bodyPostD c.P fn R) a w :=
  fun q hq y h _ _ _ _ _ _ _ _ _ hS C ho hL=>b6a fx hm hc hD c3 q y h hS C ho hL
 have both:∀ (A q:Code) (W b':ACode),SizeOf.sizeOf q < SizeOf.sizeOf x→m9 c A W=true→a0A c D D0 q b'=true→exec call n (.seq W b') fr st=some out→A.wp c.P (Exit.then (q.wp c.P (bodyPostD c.P fn R)) (bodyPostD c.P fn R)) a w:=by
  intro A q W b' d7 Z h2 C;rcases G7 C with⟨b2,c0,e1,e2⟩|⟨e1,hn⟩
  · exact m3 A W Z fx hm hc hS e1 fun a1 w1 g1 M G V t l u=>go q d7 b' h2 l e2 ho (hL.trans t u)
  · refine m3 A W Z fx hm hc hS e1 fun a1 w1 g1 M G V t l u=>?_
    have:=hL.after ho a1 w1 g1 M G V t l u;revert this hn;cases out.1<;>simp[Ex.toExit,Exit.then]
 unfold a0A at h;split at h
 · -- a region ahead
   rename_i id ops d rest;split at h
   · -- perhaps one that does nothing
     rename_i kill ps e i;split at h
     · rename_i k f hk;simp only[AA,Bool.not_eq_true']at h;obtain⟨⟨⟨⟨⟨Z,h2⟩,h3⟩,h5⟩,h6⟩,h7⟩:=h;subst Z;have hf:f∈D0:=by simpa using h3
       rcases G7 C with⟨b2,c0,e1,e2⟩|⟨e1,hn⟩
       · simp only[exec]at e1;cases hr:g9 call ps ⟨i6 kill fr,fun _=>.undef,st⟩with
         | none=>simp[hr]at e1
         | some σ =>
          simp only[hr,fL_eq,AC,AH,true_and]at e1;obtain⟨rfl,rfl⟩:=e1;have I:∃ ex j st2,exec call n i σ.fr σ.st=some (ex,j,st2)∧(ex=.normal∨ex=.exit e)∧out=(.normal,j,st2):=by
           rcases G7 e2 with⟨j,st2,e3,e4⟩|⟨e3,hn⟩
           · simp only[exec,AC]at e4;simp only[exec]at e3;split at e3
             · rename_i J b4 c1 Y;simp only[AC,AH]at e3;obtain⟨e5,rfl,rfl⟩:=e3;have:J=e:=by
                by_cases q:J=e
                · exact q
                · rw[if_neg q]at e5; cases e5
               subst this;exact⟨_,_,_,Y,.inr rfl,e4.symm⟩
             · exact⟨_,_,_,e3,.inl rfl,e4.symm⟩
           · exfalso;simp only[exec]at e3;split at e3
             · rename_i J b4 c1 Y;simp only[AC]at e3;subst e3;dsimp only at ho hn;split at hn
               · exact hn rfl
               · rename_i b7;rw[if_neg b7]at ho;rcases ho with ho|ho<;>cases ho
             · rcases ho with ho|ho
               · exact hn ho
               · exact H4 i _ _ _ h5 e3 ho
          obtain⟨ex,j,st2,Y,hex,rfl⟩:=I;have b5:=F5 i _ _ _ h6 Y;have U:T3 e ex=.normal∨T3 e ex=.ret:=by
           rcases hex with rfl|rfl
           · exact .inl rfl
           · right; simp[T3]
          refine wp_seq (b1l fx hc hk h2 hS hr fun a1 w1 g1 M G O f0 t l u=>?_);show rest.wp c.P (bodyPostD c.P fn R) a1 w1;refine go rest (by simp; omega) (L0 e i) h7 l b5 U fun a2 w2 g2 pr2 b1 c2 d3 b6 a0=>?_
          rw[t];obtain⟨d4,d2⟩:=c3 f hf;refine leaves_cons (f:=f) (args:=O++#[]) (by simp) (by simp only[invoke]; exact a1I d4 _ _) ?_;refine(d2 _ w2 (by simpa using f0)).mono fun e3 u' w3 E=>?_
          obtain⟨rfl,rfl,v,rfl⟩:=E;exact hL { a2 with defers:=a.defers } _ g2 pr2 b1 c2 rfl (b6.dfrs _) (u.trans a0)
       · exfalso;simp only[exec]at e1;split at e1
         · simp only[fL_eq,AC]at e1;subst e1;exact hn rfl
         · cases e1
     · exact plain _ _ h C
   · -- perhaps a deferred call
     rename_i kill ps e i q;split at h
     · rename_i k hk;simp only[AA,Bool.not_eq_true']at h;obtain⟨⟨⟨⟨⟨⟨Z,h2⟩,h3⟩,h4⟩,h5⟩,h6⟩,h7⟩:=h;subst Z;obtain⟨f,ys,rfl⟩:∃ f ys,q=⟨.none,.call f,ys,none,none⟩:=by
        unfold a8g at hk;split at hk
        · exact⟨_,_,rfl⟩
        · cases hk
       have hf:f∈D:=by simpa using h3
       rcases G7 C with⟨b2,c0,e1,e2⟩|⟨e1,hn⟩
       · simp only[exec]at e1;cases hr:g9 call ps ⟨i6 kill fr,fun _=>.undef,st⟩with
         | none=>simp[hr]at e1
         | some σ =>
          simp only[hr,fL_eq,AC,AH,true_and]at e1;obtain⟨rfl,rfl⟩:=e1
          -- how the rest ends
          have I:∃ ex j st2 F v,exec call n i σ.fr σ.st=some (ex,j,st2)∧(ex=.normal∨ex=.exit e)∧call f ((ys.map (·.read ⟨j,fun _=>.undef,st2⟩)).map AV.weak) st2=some (v,F)∧out=(.normal,j,F):=by
           have fin:∀ j st2,exec call n (.reg [] [⟨.none,.call f,ys,none,none⟩]) j st2=some out→∃ F v,call f ((ys.map (·.read ⟨j,fun _=>.undef,st2⟩)).map AV.weak) st2=some (v,F)∧∃ b3,out=(.normal,b3,F)∧b3=(d9 ys ⟨j,fun _=>.undef,st2⟩).fr:=by
            intro j st2 E;simp only[exec,i6,g9,i7]at E;cases hg:y9 call ⟨.none,.call f,ys,none,none⟩ ⟨j,fun _=>.undef,st2⟩with
            | none=>rw[hg]at E; cases E
            | some f1 =>
             rw[hg]at E;simp only[fL_eq,AC]at E;obtain⟨r,b',F,hs,rfl⟩:=l5 hg;simp only[sem,n4]at hs;split at hs
             · cases c4:call f ((ys.map (·.read ⟨j,fun _=>.undef,st2⟩)).map AV.weak) st2 with
               | none=>rw[c4]at hs; cases hs
               | some z =>obtain⟨v,s3⟩:=z;rw[c4]at hs;simp only[AN,AC,AH]at hs;obtain⟨rfl,rfl,rfl⟩:=hs;exact⟨s3,v,rfl,_,E.symm,rfl⟩
             · cases hs
           have b8:∀ (xs:List Opd) (b0:Sig),Z6 i xs=true→d9 xs b0=b0:=by
            intro xs;induction xs with
            | nil=>intro b0 _; rfl
            | cons x xs ih =>intro b0 hx;cases x<;>simp only[Z6,AA,Bool.false_eq_true]at hx;exact ih _ hx.2
           rcases G7 e2 with⟨j,st2,e3,e4⟩|⟨e3,hn⟩
           · simp only[exec]at e3;obtain⟨F,v,hv,b3,c8,c6⟩:=fin j st2 e4;rw[b8 ys _ h4]at c6;subst c6;split at e3
             · rename_i J b4 c1 Y;simp only[AC,AH]at e3;obtain⟨e5,rfl,rfl⟩:=e3;have:J=e:=by
                by_cases q:J=e
                · exact q
                · rw[if_neg q]at e5; cases e5
               subst this;exact⟨_,_,_,_,_,Y,.inr rfl,hv,c8⟩
             · exact⟨_,_,_,_,_,e3,.inl rfl,hv,c8⟩
           · exfalso;simp only[exec]at e3;split at e3
             · rename_i J b4 c1 Y;simp only[AC]at e3;subst e3;dsimp only at ho hn;split at hn
               · exact hn rfl
               · rename_i b7;rw[if_neg b7]at ho;rcases ho with ho|ho<;>cases ho
             · rcases ho with ho|ho
               · exact hn ho
               · exact H4 i _ _ _ h5 e3 ho
          obtain⟨ex,j,st2,F,v,Y,hex,T,rfl⟩:=I;have b5:=F5 i _ _ _ h6 Y;have U:T3 e ex=.normal∨T3 e ex=.ret:=by
           rcases hex with rfl|rfl
           · exact .inl rfl
           · right; simp[T3]
          refine wp_seq (b2v fx hc rfl hk h2 hS hr fun a1 w1 g1 M G cap O vs e6 d0 t l u=>?_);show rest.wp c.P (bodyPostD c.P fn R) a1 w1;refine go rest (by simp; omega) (L0 e i) h7 l b5 U fun a2 w2 g2 pr2 b1 c2 d3 b6 a0=>?_
          rw[t];have d5:(ys.map (·.read ⟨j,fun _=>.undef,st2⟩))=ys.map (·.read σ):=a7M (σ1:=σ) Y rfl h4;rw[d5]at T;refine b6Y hD hf e6 (fun x hx=>?_) T (d0.ext a0.ext _ _) b6 fun g3 w3 d1 e0=>?_
          · obtain⟨z,_,rfl⟩:=List.mem_map.1 hx;exact E3 z
          · have c7:=hL { a2 with defers:=a.defers } w3 g3 pr2 b1 c2 rfl (d1.dfrs _) ((u.trans a0).trans e0);exact c7
       · exfalso;simp only[exec]at e1;split at e1
         · simp only[fL_eq,AC]at e1;subst e1;exact hn rfl
         · cases e1
     · exact plain _ _ h C
   · rename_i kill ps z W b' i;split at h
     · rename_i x A B N;simp only[AA]at h;obtain⟨⟨⟨⟨Z,h2⟩,h3⟩,h4⟩,h5⟩:=h;rcases G7 C with⟨b2,c0,e1,e2⟩|⟨e1,hn⟩
       · refine wp_seq (a3L (Q':=Exit.then (N.wp c.P (bodyPostD c.P fn R)) (bodyPostD c.P fn R)) Z h2 (m3 _ _ h3) (m3 _ _ h4) fx hm hc hS e1 (fun a1 w1 g1 M G V t l u=>?_) fun _ _ x=>wp_seq x);exact go N (by simp; omega) i h5 l e2 ho (hL.trans t u)
       · refine wp_seq (a3L (Q':=Exit.then (N.wp c.P (bodyPostD c.P fn R)) (bodyPostD c.P fn R)) Z h2 (m3 _ _ h3) (m3 _ _ h4) fx hm hc hS e1 (fun a1 w1 g1 M G V t l u=>?_) fun _ _ x=>wp_seq x);have:=hL.after ho a1 w1 g1 M G V t l u;revert this hn;cases out.1<;>simp[Ex.toExit,Exit.then]
     · exact plain _ _ h C
   · rename_i W b' _ _ _;rw[AA]at h;exact wp_seq (both _ rest W b' (by simp; omega) h.1 h.2 C)
   · exact plain _ _ h C
 · rename_i p q _;split at h
   · rename_i W b';rw[AA]at h;exact wp_seq (both p q W b' (by simp; omega) h.1 h.2 C)
   · exact plain _ _ h C
 · exact plain _ _ h C
termination_by SizeOf.sizeOf x
decreasing_by all_goals assumption
end
def a0Z (P:Program) (gt:List (Nat×List AV)) (D i:List Nat) (slots bxs:List Nat) (fn:Func) (f:AFn) (A:Nat→Prop):Bool :=
 f.ext.isNone && a2I slots && slots.all (fun s=>Nat.blt s fn.ntmps) && slots.take f.np == List.range f.np && Nat.ble f.np slots.length && Nat.beq f.nv slots.length &&
  (match fn.body with|some x=>a0A ⟨P,slots,bxs,fn.ntmps,gt,A⟩ D i x f.code|none=>false) && W2 ⟨P,slots,bxs,fn.ntmps,gt,A⟩ fn.results.toList f.results
structure ProgD (P:Program) (gt:List (Nat×List AV)) (D D0:List Nat) (tbl:Nat→Option AFn):Prop where
 mixed:P.follows .mixedOrders=true
 fn:∀ f af,tbl f=some af→U8 P f=true∧((∃ slots bxs fn,P.funcs[f]?=some fn∧∀ A,a1p P gt slots bxs fn af A=true)∨(∃ slots bxs fn,P.funcs[f]?=some fn∧∀ A,a0Z P gt D D0 slots bxs fn af A=true)∨(∃ e,af.ext=some e∧G3 P gt f e))
 dfr:∀ f∈D,∀ af,tbl f=some af→∃ slots bxs fn,P.funcs[f]?=some fn∧∀ A,a1p P gt slots bxs fn af A=true
 dfr0:b3O P D0
theorem c9i {P:Program} {gt:List (Nat×List AV)} {D G:List Nat} {slots bxs:List Nat} {fn:Func} {I:AFn} {g:Gh} {w:World} {args:List AV} {vs:List Value} {st st':St} {res:AV} {call:d8} {n:Nat} (hm:P.follows .mixedOrders=true) (S:F9 P gt call) (O:DOK P gt D call) (B:b3O P G)
 (i:∀ A,a0Z P gt D G slots bxs fn I A=true) (h:I.run call n args st=some (res,st')) (t:∀ x∈args,x.weak=x) (F:SRel g w st) (E:Globs gt g w) (z:RelL g w args vs) :
 ∃ body,fn.body=some body∧body.wp P (bodyPostD P fn (CallPost g w st' res)) { tmps:=vs.toArray++Array.replicate (fn.ntmps - vs.toArray.size) undef,defers:=[] } w:=by
 have i:=i fun b=>w.heap.size≤b∨g.sr b≠none
 simp only[a0Z,AA,Option.isNone_iff_eq_none,beq_iff_eq,Nat.beq_eq]at i;obtain⟨⟨⟨⟨⟨⟨⟨o1,o2⟩,o3⟩,o4⟩,o5⟩,o6⟩,o7⟩,U⟩:=i;have o5:=Nat.le_of_ble_eq_true o5;split at o7
 case h_2=>cases o7
 rename_i body j;unfold AFn.run at h;split at h
 case isFalse=>cases h
 rename_i u;split at h
 · cases h
 · rename_i ex M W y l;obtain⟨N,R⟩:=a9j (bxs:=bxs) o2 o3 o4 o5 o6 u t F E z;refine⟨body,j,?_⟩;refine b6a N hm S O B _ _ o7 R l ?_ fun Z w' g' V J Y hd C T=>?_
   · cases ex with
     | normal=>exact .inl rfl
     | ret=>exact .inr rfl
     | exit id=>exact(y id rfl).elim
   · exact b5T C T U h
 · cases h
theorem b6j {P:Program} {gt:List (Nat×List AV)} {D S:List Nat} {tbl:Nat→Option AFn} (C:ProgD P gt D S tbl):∀ n,F9 P gt (j0 tbl n)∧DOK P gt D (j0 tbl n):=by
 intro n;induction n with
 | zero=>exact⟨fun f args st res st' h=>by simp[j0]at h,fun f args st res st' _ h=>by simp[j0]at h⟩
 | succ n J =>
  obtain⟨J,R⟩:=J;refine⟨fun f args st res st' h j=>?_,fun f args st res st' N h j=>?_⟩
  · simp only[j0]at h;cases i:tbl f with
    | none=>simp[i]at h
    | some B =>
     simp only[i]at h;obtain⟨M,O⟩:=C.fn f B i;refine⟨M,fun g w vs y x t=>?_⟩;rcases O with⟨slots,bxs,fn,I,l⟩|⟨slots,bxs,fn,I,l⟩|⟨e,E,G⟩
     · have E:B.ext=none:=by
        have:=l fun _=>True
        simp only[a1p,AA,Option.isNone_iff_eq_none]at this;exact this.1.1.1.1.1.1.1
       simp only[E]at h;obtain⟨body,F,z⟩:=b2M C.mixed J l h j y x t;exact calls_of_wp I F z
     · have E:B.ext=none:=by
        have:=l fun _=>True
        simp only[a0Z,AA,Option.isNone_iff_eq_none]at this;exact this.1.1.1.1.1.1.1
       simp only[E]at h;obtain⟨body,F,z⟩:=c9i C.mixed J R C.dfr0 l h j y x t;exact calls_of_wp_defers I F z
     · simp only[E]at h;exact G args st res st' h j g w vs y x t
  · simp only[j0]at h;cases i:tbl f with
    | none=>simp[i]at h
    | some B =>
     simp only[i]at h;refine⟨(C.fn f B i).1,fun g w vs y x t=>?_⟩;obtain⟨slots,bxs,fn,I,l⟩:=C.dfr f N B i;have E:B.ext=none:=by
      have:=l fun _=>True
      simp only[a1p,AA,Option.isNone_iff_eq_none]at this;exact this.1.1.1.1.1.1.1
     simp only[E]at h;obtain⟨body,F,z⟩:=b2M C.mixed J l h j y x t;exact(callsD_of_wp I F z).mono fun e u w' T=>T
end Go.Cb
namespace Go.Cb
open Classical
theorem c1u {P:Program} {gt:List (Nat×List AV)} {D y:List Nat} {tbl:Nat→Option AFn} (z:ProgD P gt D y tbl) {n f:Nat} {args:List AV} {b:Bool} {st':St} (h:j0 tbl n f args []=some (.bool b,st')) (I:∀ x∈args,x.weak=x)
 {W:World} {vs:List Value} (F:Globs gt (gh0 W) W) (G:RelL (gh0 W) W args vs):Calls P f vs.toArray W (fun e u=>e=.returned (.bool b)∧Kept W u):=by
 refine(((b6j z n).1 f args [] _ _ h I).2 (gh0 W) W vs (b98 W) F G).mono fun e u E=>?_
 obtain⟨v,g',rfl,_,l,t⟩:=E;have t:=t.rel;simp only[Rel]at t;subst t;have j:∀ b,b < W.heap.size→u.heap[b]?=W.heap[b]?:=fun b C=>(l.keep b C rfl fun x=>x).1.1
 refine⟨rfl,⟨l.env.os,l.env.out,fun i hi=>?_⟩,fun a B=>by unfold World.frozen?; rw[j a.block B],l.size,j⟩;rw[j i hi];cases J:W.heap[i]? with
 | none=>simp
 | some o=>cases o<;>simp
theorem XC.sh {tbl:Nat→Option AFn} (j:a3u tbl) {code:ACode} (hs:code.shut=true) {fr:List AV} {st:St} {out:Out} {L:Nat} (ext:St) (i:L≤st.length) (h:XC tbl code fr st out):XC tbl code (fr.map (AV.sh L ext.length)) (shS L ext st) (Y7 L ext out):=by obtain⟨n,hn⟩:=h;exact⟨n,(N2 (a1i j n) n hs i hn).1⟩
theorem Ev.sh {tbl:Nat→Option AFn} (j:a3u tbl) {f:Nat} {as:List AV} {st:St} {r:AV} {st':St} {L:Nat} (ext:St) (i:L≤st.length) (h:Ev tbl f as st r st'):Ev tbl f (as.map (AV.sh L ext.length)) (shS L ext st) (r.sh L ext.length) (shS L ext st'):=by obtain⟨n,hn⟩:=h;exact⟨n,(a1i j n _ _ _ _ _ i hn).1⟩
end Go.Cb
namespace Go.Cb.G
open Go Go.Cb
theorem FX.sh {tbl:Nat→Option AFn} (B:a3u tbl) {rs:List ResK} {code:ACode} (hs:code.shut=true) {fr:List AV} {st:St} {v:AV} {L:Nat} (ext:St) (z:L≤st.length) (h:FX tbl rs code fr st v):FX tbl rs code (fr.map (AV.sh L ext.length)) (shS L ext st) (v.sh L ext.length):=by
 obtain⟨⟨e,l,st'⟩,s,⟨n,x⟩,j⟩:=h;obtain⟨y,u⟩:=N2 (a1i B n) n hs z x;refine⟨_,shS L ext s,⟨n,y⟩,?_⟩
 · have u:L≤st'.length:=u;cases e with
   | exit i=>cases j
   | normal =>
    simp only[fin,Y7,a0N u]at j ⊢;cases t:B3 rs l st' with
    | none=>rw[t]at j; cases j
    | some vs =>
     rw[t]at j;match vs,j with
     | [],j=>cases j; rfl
     | [v],j=>cases j; rfl
     | v::w::vs,j=>cases j; simp only[AN,AG,AV.sh,m0,I2]
   | ret =>
    simp only[fin,Y7,a0N u]at j ⊢;cases t:B3 rs l st' with
    | none=>rw[t]at j; cases j
    | some vs =>
     rw[t]at j;match vs,j with
     | [],j=>cases j; rfl
     | [v],j=>cases j; rfl
     | v::w::vs,j=>cases j; simp only[AN,AG,AV.sh,m0,I2]
end Go.Cb.G
namespace Go.Cb
open Classical
theorem W3 {P:Program} (w:World) (G M ty elem:TypeId) (F g o u y:Nat) (a:Addr) (x C:Nat) (l:Array Value) (t:TypeId) (cs:List Value)
 (hu:P.underlying G=some (.slice elem)) (hs:(P.info? elem).map (·.size)=some F)
 (J:w.heap[g]?=some (.cells l t (0,0))) (hn:cs.length=Nat.min x u*F)
 (B:∀ j v,cs[j]?=some v→w.cell? (a.add j)=some v) (z:o+cs.length≤l.size) (I:∀ v∈cs,v.oneCell'=true) :
 (Builtin.copy_ #[G,M] ty #[.slice (some ⟨g,o,none⟩) u y,.slice (some a) x C]).run P w =
  .ok (goInt (Nat.min x u)) (w.setRow g (l.toList.take o++cs++l.toList.drop (o+cs.length)).toArray):=by
 have hl:=run_loadCells_list (P:=P) w a cs B;have E:=run_storeCells_at P g o t cs 0 l w J (by simpa using z) I;cases D:P.info? elem with
 | none=>simp[D]at hs
 | some i =>
  have hi:i.size=F:=by simpa[D]using hs
  simp[Builtin.copy_,run_underlying hu,Builtin.lenOf,Builtin.firstCells,sizeOf,typeInfo,D,hi,← hn,hl,E]
theorem a3x {P:Program} (w:World) (O tR e:TypeId) (M:P.underlying O=some (.slice e)) (size:Nat) (N:∀ w,(Go.sizeOf e).run P w=.ok size w)
 (a b:Addr) (T V U W:Nat) (E:a.block≠b.block) {j i:Array Value} {R TB:TypeId} {zA:Nat×Nat}
 (Y:w.heap[a.block]?=some (.cells j R zA)) (S:w.heap[b.block]?=some (.cells i TB (0,0))) (I:j.size≠0) (J:i.size≠0) :
 (Extern.SlicesOverlaps.overlaps #[O,O] #[tR] #[.slice (some a) T V,.slice (some b) U W]).run P w=.ok (.bool false) w:=by
 have D:(a.block != b.block)=true:=by simpa using E
 have l:(a.block == b.block)=false:=by simpa using E
 have u:w.shape? a.block=some (R,j.size):=by simp[World.shape?,Y]
 have y:w.shape? b.block=some (TB,i.size):=by simp[World.shape?,S]
 have C:∀ x:Addr,x.block=b.block→w.frozen? x=false:=fun x Z=>by simp[World.frozen?,Z,S]
 have z:=C b rfl;have t:=C { block:=b.block,off:=i.size } rfl;delta Extern.SlicesOverlaps.overlaps;dsimp only;delta Extern.SlicesOverlaps.overlaps.match_4;dsimp only[Array.size,List.length];simp only[dif_pos,Nat.reduceAdd,Nat.zero_add];dsimp only[Array.getLit,getElem,Array.getInternal,List.get];by_cases F:T=0∨U=0∨size=0
 · simp[run_underlying M,N,F]
 · cases hn:i.size with
   | zero=>exact absurd hn J
   | succ kB =>
    rw[hn]at y t;cases hm:j.size with
    | zero=>exact absurd hm I
    | succ kA =>
    rw[hm]at u;cases B:w.frozen? a with
    | true=>simp[run_underlying M,N,F,D,l,frozen,noView,viewAt,mayBeOne,stringish,shape,Sem.run,u,y,B,z,t]
    | false =>
     cases G:w.frozen? { block:=a.block,off:=kA+1 } <;>
     simp[run_underlying M,N,F,D,l,frozen,noView,viewAt,mayBeOne,stringish,shape,Sem.run,u,y,B,z,t,G]
end Go.Cb
namespace Go.Cb
open Classical
def WC {α:Type} (c:Nat→Option α) (Q:α→Prop):Prop:=∃ i a,(∀ n,i≤n→c n=some a)∧Q a
def EvQ (tbl:Nat→Option AFn) (f:Nat) (as:List AV) (st:St) (Q:AV→St→Prop):Prop:=∃ r st',Ev tbl f as st r st'∧Q r st'
theorem wb {α:Type} {a:α} {Q:α→Prop} (h:Q a):WC (fun _=>some a) Q:=⟨0,a,fun _ _=>rfl,h⟩
theorem WC.mono {α:Type} {c:Nat→Option α} {P Q:α→Prop} (h:WC c P) (i:∀ a,P a→Q a):WC c Q :=
 let ⟨n,a,ha,hp⟩:=h; ⟨n,a,ha,i a hp⟩
theorem WC.obind {α β:Type} {c:Nat→Option α} {k:Nat→α→Option β} {P:α→Prop} {Q:β→Prop} (h:WC c P) (u:∀ a,P a→WC (fun n=>k n a) Q):WC (fun n=>Go.Cb.obind (c n) (k n)) Q:=by obtain⟨n,a,i,x⟩:=h;obtain⟨m,b,l,y⟩:=u a x;refine⟨max n m,b,fun j t=>?_,y⟩;show Go.Cb.obind (c j) (k j)=some b;rw[i j (by omega),n9];exact l j (Nat.le_trans (Nat.le_max_right n m) t)
theorem EvQ.mono {tbl:Nat→Option AFn} {f:Nat} {as:List AV} {st:St} {P Q:AV→St→Prop} (h:EvQ tbl f as st P) (i:∀ r st',P r st'→Q r st'):EvQ tbl f as st Q :=
 let ⟨r,st',he,hp⟩:=h; ⟨r,st',he,i r st' hp⟩
section
variable {tbl:Nat→Option AFn}
theorem wa {β:Type} {f:Nat} {as i:List AV} {bx:AV} {st:St} {k:Nat→AV×St→Option β} {P:AV→St→Prop} {Q:β→Prop}
 (h:EvQ tbl f i st P) (y:m4 as=true) (B:as.map AV.weak=i) (u:∀ r st',P r st'→WC (fun n=>k n (r,st')) Q):WC (fun n=>Go.Cb.obind (p2 (n4 f (j0 tbl n) as bx st)) (k n)) Q:=by
 obtain⟨r,st',t,z⟩:=h;obtain⟨C,j⟩:=t.ge;refine WC.obind (P:=fun x=>x=(r,st')) ⟨C,(r,st'),fun n hn=>?_,rfl⟩ (fun a l=>l ▸ u r st' z);simp only[n4,y,if_true,B,j n hn,AN,a7v]
theorem wi {β:Type} {f:Nat} {first i as j:List AV} {bx:AV} {st:St} {k:Nat→AV×St→Option β} {P:AV→St→Prop} {Q:β→Prop}
 (h:EvQ tbl f j st P) (z:m4 as=true) (C:(first++as++i).map AV.weak=j) (y:∀ r st',P r st'→WC (fun n=>k n (r,st')) Q):WC (fun n=>Go.Cb.obind (p2 (D6 (j0 tbl n) (.func f first i::as) bx st)) (k n)) Q:=by
 obtain⟨r,st',u,B⟩:=h;obtain⟨D,l⟩:=u.ge;refine WC.obind (P:=fun x=>x=(r,st')) ⟨D,(r,st'),fun n hn=>?_,rfl⟩ (fun a t=>t ▸ y r st' B);simp only[D6,z,if_true,C,l n hn,AN,a7v]
def a1t (id:Nat) (o:Out):Out:=match o with
 | (.exit i,fr,st)=>if i=id then(.normal,fr,st)else(.exit i,fr,st)
 | o=>o
def blkK (id:Nat) (x:Option Out):Option Out:=match x with
 | some o=>some (a1t id o)
 | none=>none
theorem a7C (id:Nat) (o:Out):blkK id (some o)=some (a1t id o):=b9 rfl
theorem a8a (id:Nat) (fr:List AV) (st:St):a1t id (.normal,fr,st)=(.normal,fr,st):=b9 rfl
theorem b2N (id:Nat) (fr:List AV) (st:St):a1t id (.ret,fr,st)=(.ret,fr,st):=b9 rfl
theorem b1e (id i:Nat) (fr:List AV) (st:St):a1t id (.exit i,fr,st)=if i=id then(.normal,fr,st)else(.exit i,fr,st):=b9 rfl
theorem H1 {id:Nat} {x i:Option Out} (h:x=i):blkK id x=blkK id i:=by rw[h]
theorem b6i (call:d8) (n id:Nat) (a:ACode) (fr:List AV) (st:St):exec call n (.blk id a) fr st=blkK id (exec call n a fr st):=by
 simp only[exec,blkK];cases exec call n a fr st with
 | none=>rfl
 | some o =>
  obtain⟨e,j,st'⟩:=o;cases e with
  | normal=>rfl
  | ret=>rfl
  | exit i=>by_cases h:i=id<;>simp[a1t,h]
theorem WC.seqK {c:Nat→Option Out} {g:Nat→List AV→St→Option Out} {P Q:Out→Prop} (h:WC c P) (t:∀ o,P o→WC (fun n=>Go.Cb.seqK (some o) (g n)) Q):WC (fun n=>Go.Cb.seqK (c n) (g n)) Q:=by obtain⟨n,a,i,u⟩:=h;obtain⟨m,b,l,x⟩:=t a u;exact⟨max n m,b,fun j y=>by dsimp only; rw[i j (by omega)]; exact l j (by omega),x⟩
theorem WC.blkK {id:Nat} {c:Nat→Option Out} {Q:Out→Prop} (h:WC c (fun o=>Q (a1t id o))):WC (fun n=>Go.Cb.blkK id (c n)) Q:=by obtain⟨n,a,i,t⟩:=h;exact⟨n,_,fun j l=>by dsimp only; rw[i j l,a7C],t⟩
theorem WC.finK {rs:List ResK} {c:Nat→Option Out} {P:Out→Prop} {Q:AV×St→Prop} (h:WC c P) (t:∀ o,P o→WC (fun n=>Go.Cb.finK rs (some o)) Q):WC (fun n=>Go.Cb.finK rs (c n)) Q:=by obtain⟨n,a,i,u⟩:=h;obtain⟨m,b,l,x⟩:=t a u;exact⟨max n m,b,fun j y=>by dsimp only; rw[i j (by omega)]; exact l j (by omega),x⟩
theorem WC.of_xc {x:ACode} {fr:List AV} {st:St} {out:Out} {Q:Out→Prop} (h:XC tbl x fr st out) (i:Q out):WC (fun n=>exec (j0 tbl n) n x fr st) Q:=by obtain⟨n,hn⟩:=h.ge;exact⟨n,out,hn,i⟩
theorem WC.xc {x:ACode} {fr:List AV} {st:St} {Q:Out→Prop} (h:WC (fun n=>exec (j0 tbl n) n x fr st) Q):∃ out,XC tbl x fr st out∧Q out:=by obtain⟨n,a,i,j⟩:=h;exact⟨a,⟨n,i n (AJ n)⟩,j⟩
theorem WC.loop {x:ACode} {Q:Out→Prop} (I:Nat→List AV→St→Prop) {m:Nat} {fr:List AV} {st:St} (y:I m fr st)
 (z:∀ m fr st,I m fr st→WC (fun n=>exec (j0 tbl n) n x fr st) (fun o=>(∃ m' i st',o=(.normal,i,st')∧m' < m∧I m' i st')∨(o.1≠.normal∧Q o))) :
 WC (fun n=>exec (j0 tbl n) n (.loop x) fr st) Q:=by
 have key:∀ m fr st,I m fr st→∃ out,LX tbl x fr st out∧Q out:=by
  intro m;induction m using Nat.strongRecOn with
  | ind m C =>
   intro fr st h;obtain⟨out,u,B⟩:=(z m fr st h).xc;rcases B with⟨m',i,st',rfl,l,hi⟩|⟨t,j⟩
   · obtain⟨out,hl,j⟩:=C m' l i st' hi;exact⟨out,LX.step u hl,j⟩
   · obtain⟨e,i,st'⟩:=out;exact⟨_,LX.done u t,j⟩
 obtain⟨out,hl,j⟩:=key m fr st y;exact WC.of_xc (XC.loop hl) j
theorem EvQ.of_body {f:Nat} {fn:AFn} {as:List AV} {st:St} {Q:AV→St→Prop} (i:tbl f=some fn) (l:fn.ext=none) (hl:as.length=fn.np)
 (h:WC (fun n=>Go.Cb.finK fn.results (exec (j0 tbl n) n fn.code (as++List.replicate (fn.nv - fn.np) .undef) st)) (fun r=>Q r.1 r.2)):EvQ tbl f as st Q:=by
 obtain⟨n,a,j,t⟩:=h;refine⟨a.1,a.2,⟨n+1,?_⟩,t⟩;simp only[j0,i,l];rw[R6 _ _ _ _ _ hl];exact j n (AJ n)
theorem EvQ.of_ext {f:Nat} {fn:AFn} {as:List AV} {st:St} {e:List AV→St→Option (AV×St)} {r:AV×St} {Q:AV→St→Prop} (i:tbl f=some fn) (j:fn.ext=some e) (h:e as st=some r) (l:Q r.1 r.2):EvQ tbl f as st Q :=
 ⟨_,_,Ev.of_ext i j h,l⟩
theorem EvQ.of_ev {f:Nat} {as:List AV} {st:St} {r:AV} {st':St} {Q:AV→St→Prop} (h:Ev tbl f as st r st') (i:Q r st'):EvQ tbl f as st Q:=⟨r,st',h,i⟩
theorem EvQ.to_ev {f:Nat} {as:List AV} {st:St} {r:AV} {st':St} (h:EvQ tbl f as st (fun a b=>a=r∧b=st')):Ev tbl f as st r st':=by obtain⟨a,b,i,rfl,rfl⟩:=h;exact i
end
end Go.Cb
namespace Go.Cb
open Classical
section
variable {tbl:Nat→Option AFn}
theorem wc {I:Nat→List AV→St→Prop} {m m':Nat} {i:List AV} {st':St} {R:Out→Prop} (hm:m' < m) (hi:I m' i st') :
 WC (fun _=>some (Ex.normal,i,st')) (fun o=>(∃ m' i st',o=(.normal,i,st')∧m' < m∧I m' i st')∨(o.1≠.normal∧R o)):=wb (Or.inl ⟨m',i,st',rfl,hm,hi⟩)
theorem wd {I:Nat→List AV→St→Prop} {m id:Nat} {i:List AV} {st':St} {R:Out→Prop} (h:R (.exit id,i,st')) :
 WC (fun _=>some (Ex.exit id,i,st')) (fun o=>(∃ m' i st',o=(.normal,i,st')∧m' < m∧I m' i st')∨(o.1≠.normal∧R o)):=wb (Or.inr ⟨fun h=>by simp at h,h⟩)
theorem wh {f:Nat} {fn:AFn} {as:List AV} {st:St} {Q:AV→St→Prop} (i:tbl f=some fn) (j:fn.ext=none) (hl:as.length=fn.np)
 (h:WC (fun n=>exec (j0 tbl n) n fn.code (as++List.replicate (fn.nv - fn.np) .undef) st) (fun o=>∃ r st',Go.Cb.finK fn.results (some o)=some (r,st')∧Q r st')):EvQ tbl f as st Q :=
 EvQ.of_body i j hl (WC.finK h fun o ⟨r,st',t,l⟩=>⟨0,(r,st'),fun _ _=>t,l⟩)
end
end Go.Cb
namespace Go.Cb
open Classical
theorem a3F {n:Int} (i:-9223372036854775808≤n) (j:n < 9223372036854775808):B2 .i64 n=n:=by
 rw[R5];simp only[IntKind.wrap,IntKind.signed,IntKind.bits,Bool.true_and];split
 · rename_i h; have h:=of_decide_eq_true h; omega
 · rename_i h; have h:¬ (n % 2 ^ 64 ≥ 2 ^ (64 - 1)):=fun x=>h (decide_eq_true x); omega
theorem a0z {i:Nat} (h:i+1 < 2 ^ 63):B2 .i64 (a6K (i:Int) 1)=((i+1:Nat):Int):=by rw[addI_eq,a3F (by omega) (by omega)];omega
theorem ltN (i j:Nat):ltI (i:Int) (j:Int)=decide (i < j):=by
 rw[ltI_eq];by_cases h:i < j
 · simp[h]
 · simp[h]
theorem d7o (i j:Nat):eqI (i:Int) (j:Int)=decide (i=j):=by
 rw[eqI_eq];by_cases h:i=j
 · simp[h]
 · simp[h]; omega
theorem s9 (b:Bool):b=true∨b=false:=by cases b<;>simp
theorem a2P {i:Nat} {xs:List (List AV)} (h:∀ r∈xs,r.length=i):m2 i xs=true:=by
 cases xs with
 | nil=>rfl
 | cons r rs=>simp[m2,h r (by simp)]
def gV (x:AV) (want:Bool) (v:AV):AV:=match x with
 | .bool b=>if b == want then v else .tuple []
 | _=>.tuple []
theorem d2R (v:AV):gV (.bool true) true v=v:=b9 rfl
theorem d43 (v:AV):gV (.bool false) false v=v:=b9 rfl
theorem d3g (v:AV):gV (.bool true) false v=.tuple []:=b9 rfl
theorem d5h (v:AV):gV (.bool false) true v=.tuple []:=b9 rfl
theorem c4H (want:Bool) (v:AV):gV (.tuple []) want v=.tuple []:=b9 rfl
theorem b1L (c want:Bool) (v:AV):gv (.bool c) want (some v)=some (gV (.bool c) want v):=by cases c<;>cases want<;>rfl
theorem a8Y (x:AV) (w b want:Bool) (v:AV):gv (gV x w (.bool b)) want (some v)=some (gV (gV x w (.bool b)) want v):=by
 unfold gV;cases x with
 | bool c=>cases c<;>cases w<;>cases b<;>cases want<;>rfl
 | _=>rfl
theorem H7 {x i:AV} {want:Bool} {e e':Option AV} (l:x=i) (t:i=.bool want→e=e'):gv x want e=gv i want e':=by
 subst l;unfold gv;split
 · rename_i b;by_cases j:b=want
   · rw[t (by rw[j])]
   · simp[j]
 · rfl
 · rfl
theorem c31 (x:AV) (w:Bool) (v:AV):(gV x w v).weak=gV x w v.weak:=by
 unfold gV;cases x with
 | bool c=>dsimp only; split<;>rfl
 | _=>rfl
theorem b9u (x:AV) (w:Bool) (v:AV):(gV x w v).strip=gV x w v.strip:=by
 unfold gV;cases x with
 | bool c=>dsimp only; split<;>rfl
 | _=>rfl
theorem b6Z (x:AV) (w:Bool) (v:AV):(gV x w v).stripB=gV x w v.stripB:=by
 unfold gV;cases x with
 | bool c=>dsimp only; split<;>rfl
 | _=>rfl
theorem c7r (call:d8) (a b bx:AV) (st:St):p1 (A9 call [.bool true,a,b] bx st)=if a.plain then some a else none:=by unfold A9; dsimp only; by_cases h:a.plain=true<;>simp[h,p1]
theorem c8L (call:d8) (a b bx:AV) (st:St):p1 (A9 call [.bool false,a,b] bx st)=if b.plain then some b else none:=by unfold A9; dsimp only; by_cases h:b.plain=true<;>simp[h,p1]
theorem c2C (call:d8) (c d:Bool) (bx:AV) (st:St):p1 (A9 call [.bool c,.bool true,gV (.bool c) false (.bool d)] bx st)=some (.bool (c || d)):=by cases c<;>rfl
theorem b9B (call:d8) (c d:Bool) (bx:AV) (st:St):p1 (A9 call [.bool c,gV (.bool c) true (.bool d),.bool false] bx st)=some (.bool (c && d)):=by cases c<;>rfl
theorem b5t (b:Bool):(AV.bool b).weak=.bool b:=b9 rfl
theorem b9J (k:IntKind) (n:Int):(AV.int k n).weak=.int k n:=b9 rfl
theorem b9l (s:List Nat):(AV.str s).weak=.str s:=b9 rfl
theorem b6r (o:Bool) (xs:List (List AV)):(AV.list o xs).weak=.list false xs:=b9 rfl
theorem b7n (o f:Nat):(AV.ptr o f).weak=.ptr o f:=b9 rfl
theorem b6S:AV.nilp.weak=.nilp:=b9 rfl
theorem b62:AV.nils.weak=.nils:=b9 rfl
theorem c3r (cs:List AV):(AV.ro cs).weak=.ro cs:=b9 rfl
theorem b7d (i f:Nat):(AV.loc i f).weak=.loc i f:=b9 rfl
theorem b8s (o:Nat):(AV.map o).weak=.map o:=b9 rfl
theorem b6w:AV.nilm.weak=.nilm:=b9 rfl
theorem b5V (f:Nat) (a b:List AV):(AV.func f a b).weak=.func f a b:=b9 rfl
theorem b5R:AV.nilf.weak=.nilf:=b9 rfl
theorem a0c (cs:List AV):(AV.agg cs).weak=.agg (cs.map AV.weak1):=b9 rfl
theorem c1C (o f n s:Nat):(AV.sl o f n s).weak=.sl o f n s:=b9 rfl
theorem b4O (t:Nat) (v:AV):(AV.iface t v).weak=.iface t v:=b9 rfl
theorem b6C:AV.nili.weak=.nili:=b9 rfl
theorem b4s (vs:List AV):(AV.tuple vs).weak=.tuple vs:=b9 rfl
theorem b2F:AV.undef.weak=.undef:=b9 rfl
theorem b9L (cs:List AV):(AV.box cs).weak=.box cs:=b9 rfl
theorem b3r (b:Bool):(AV.bool b).weak1=.bool b:=b9 rfl
theorem b5g (k:IntKind) (n:Int):(AV.int k n).weak1=.int k n:=b9 rfl
theorem b6v (s:List Nat):(AV.str s).weak1=.str s:=b9 rfl
theorem b3D (o:Bool) (xs:List (List AV)):(AV.list o xs).weak1=.list false xs:=b9 rfl
theorem b8Q (o f n s:Nat):(AV.sl o f n s).weak1=.sl o f n s:=b9 rfl
theorem b3c (f:Nat) (a b:List AV):(AV.func f a b).weak1=.func f a b:=b9 rfl
theorem b47 (o f:Nat):(AV.ptr o f).weak1=.ptr o f:=b9 rfl
theorem b3f:AV.nilp.weak1=.nilp:=b9 rfl
theorem b4J:AV.nils.weak1=.nils:=b9 rfl
theorem X7 (o:Nat):(AV.map o).weak1=.map o:=b9 rfl
theorem b4b:AV.nilm.weak1=.nilm:=b9 rfl
theorem b2R (b:Bool):(AV.bool b).strip=.bool b:=b9 rfl
theorem b57 (k:IntKind) (n:Int):(AV.int k n).strip=.int k n:=b9 rfl
theorem b6T (s:List Nat):(AV.str s).strip=.str s:=b9 rfl
theorem b26 (o:Bool) (xs:List (List AV)):(AV.list o xs).strip=.list o xs:=b9 rfl
theorem b5d (o f:Nat):(AV.ptr o f).strip=.ptr o f:=b9 rfl
theorem b3T:AV.nilp.strip=.nilp:=b9 rfl
theorem b3J:AV.nils.strip=.nils:=b9 rfl
theorem b9k (cs:List AV):(AV.ro cs).strip=.ro cs:=b9 rfl
theorem b5O (i f:Nat):(AV.loc i f).strip=.undef:=b9 rfl
theorem b5W (o:Nat):(AV.map o).strip=.map o:=b9 rfl
theorem b2I:AV.nilm.strip=.nilm:=b9 rfl
theorem b33 (f:Nat) (a b:List AV):(AV.func f a b).strip=.func f a b:=b9 rfl
theorem b3q:AV.nilf.strip=.nilf:=b9 rfl
theorem b6n (cs:List AV):(AV.agg cs).strip=.agg cs:=b9 rfl
theorem b8d (o f n s:Nat):(AV.sl o f n s).strip=.sl o f n s:=b9 rfl
theorem b1p (vs:List AV):(AV.tuple vs).strip=.tuple vs:=b9 rfl
theorem b1o:AV.undef.strip=.undef:=b9 rfl
theorem b02 (b:Bool):(AV.bool b).stripB=.bool b:=b9 rfl
theorem b3u (k:IntKind) (n:Int):(AV.int k n).stripB=.int k n:=b9 rfl
theorem b4d (s:List Nat):(AV.str s).stripB=.str s:=b9 rfl
theorem b0Z (o:Bool) (xs:List (List AV)):(AV.list o xs).stripB=.list o xs:=b9 rfl
theorem b4Z (o f:Nat):(AV.ptr o f).stripB=.ptr o f:=b9 rfl
theorem b1s:AV.nilp.stripB=.nilp:=b9 rfl
theorem b1w:AV.nils.stripB=.nils:=b9 rfl
theorem b6d (cs:List AV):(AV.ro cs).stripB=.ro cs:=b9 rfl
theorem b4a (i f:Nat):(AV.loc i f).stripB=.loc i f:=b9 rfl
theorem b4P (o:Nat):(AV.map o).stripB=.map o:=b9 rfl
theorem b0Q:AV.nilm.stripB=.nilm:=b9 rfl
theorem b04 (f:Nat) (a b:List AV):(AV.func f a b).stripB=.func f a b:=b9 rfl
theorem b1y:AV.nilf.stripB=.nilf:=b9 rfl
theorem b4q (cs:List AV):(AV.agg cs).stripB=.agg cs:=b9 rfl
theorem b4Q (xs:List (List AV)):(AV.fresh xs).weak=.fresh xs:=b9 rfl
theorem b1j (xs:List (List AV)):(AV.fresh xs).strip=.fresh xs:=b9 rfl
theorem a8F (xs:List (List AV)):(AV.fresh xs).stripB=.fresh xs:=b9 rfl
theorem b6e (o f n s:Nat):(AV.sl o f n s).stripB=.sl o f n s:=b9 rfl
theorem a8L (vs:List AV):(AV.tuple vs).stripB=.tuple vs:=b9 rfl
theorem a9f:AV.undef.stripB=.undef:=b9 rfl
def d0A {α:Type} (K:α→Option Out) (g:List AV→St→Option Out) (a:α):Option Out:=Go.Cb.seqK (K a) g
def d1l {α:Type} (id:Nat) (K:α→Option Out) (a:α):Option Out:=Go.Cb.blkK id (K a)
theorem c6w {α:Type} (K:α→Option Out) (g:List AV→St→Option Out) (a:α):d0A K g a=Go.Cb.seqK (K a) g:=b9 rfl
theorem c53 {α:Type} (id:Nat) (K:α→Option Out) (a:α):d1l id K a=Go.Cb.blkK id (K a):=b9 rfl
theorem b0P {α:Type} (x:Option α) (f:α→Option Out) (g:List AV→St→Option Out):Go.Cb.seqK (Go.Cb.obind x f) g=Go.Cb.obind x (d0A f g):=by cases x<;>rfl
theorem b1k {α:Type} (id:Nat) (x:Option α) (f:α→Option Out):Go.Cb.blkK id (Go.Cb.obind x f)=Go.Cb.obind x (d1l id f):=by cases x<;>rfl
def a3p (call:d8) (n:Nat) (a:ACode) (fr:List AV) (st:St) (_:Unit):Option Out:=exec call n a fr st
def b8Y (A:Unit→Option Out) (g:List AV→St→Option Out) (u:Unit):Option Out:=Go.Cb.seqK (A u) g
def b9W (id:Nat) (A:Unit→Option Out) (u:Unit):Option Out:=Go.Cb.blkK id (A u)
theorem c6j (call:d8) (n:Nat) (a:ACode) (fr:List AV) (st:St) (u:Unit):a3p call n a fr st u=exec call n a fr st:=b9 rfl
theorem d1O (A:Unit→Option Out) (g:List AV→St→Option Out) (u:Unit):b8Y A g u=Go.Cb.seqK (A u) g:=b9 rfl
theorem c8n (id:Nat) (A:Unit→Option Out) (u:Unit):b9W id A u=Go.Cb.blkK id (A u):=b9 rfl
def brT (c:AV) (A B:Unit→Option Out):Option Out:=match c with
 | .bool true=>A ()
 | .bool false=>B ()
 | _=>none
theorem b9N (A B:Unit→Option Out):brT (.bool true) A B=A ():=b9 rfl
theorem b6R (A B:Unit→Option Out):brT (.bool false) A B=B ():=b9 rfl
theorem K5 {c i:AV} {A B:Unit→Option Out} (h:c=i):brT c A B=brT i A B:=by rw[h]
theorem b91 (c:AV) (A B:Unit→Option Out) (g:List AV→St→Option Out):Go.Cb.seqK (brT c A B) g=brT c (b8Y A g) (b8Y B g):=by
 cases c<;>try rfl
 rename_i b; cases b<;>rfl
theorem b7R (id:Nat) (c:AV) (A B:Unit→Option Out):Go.Cb.blkK id (brT c A B)=brT c (b9W id A) (b9W id B):=by
 cases c<;>try rfl
 rename_i b; cases b<;>rfl
theorem c6P (call:d8) (n:Nat) (c:AV) (a b:ACode) (fr:List AV) (st:St):Go.Cb.br c (exec call n a fr st) (exec call n b fr st)=brT c (a3p call n a fr st) (a3p call n b fr st):=by cases c<;>try rfl
theorem b2p (call:d8) (n:Nat) (kill:List Nat) (i:List AOper) (c:Opd) (a b:ACode) (fr:List AV) (st:St) :
 exec call n (.test kill i c a b) fr st=a7s call i ⟨i6 kill fr,fun _=>.undef,st⟩ fun σ=>brT (c.read σ) (a3p call n a σ.fr σ.st) (a3p call n b σ.fr σ.st):=by
 rw[a4r];simp only[c6P]
def b4j (call:d8) (n:Nat) (x:ACode) (fr:List AV) (st:St):Option Out:=exec call n (.loop x) fr st
theorem b4r (call:d8) (n:Nat) (x:ACode) (fr:List AV) (st:St):exec call n (.loop x) fr st=Go.Cb.obind (b4j call n x fr st) some:=by unfold b4j; cases exec call n (.loop x) fr st<;>rfl
theorem wg {c:Bool} {A B:Nat→Unit→Option Out} {Q:Out→Prop} (j:c=true→WC (fun n=>A n ()) Q) (i:c=false→WC (fun n=>B n ()) Q):WC (fun n=>brT (.bool c) (A n) (B n)) Q:=by
 cases c with
 | true=>exact j rfl
 | false=>exact i rfl
theorem we {tbl:Nat→Option AFn} {β:Type} {x:ACode} {K:Nat→Out→Option β} {Q:β→Prop} (I:Nat→List AV→St→Prop) {m:Nat} {fr:List AV} {st:St} (j:I m fr st)
 (l:∀ m fr st,I m fr st→WC (fun n=>exec (j0 tbl n) n x fr st) (fun o=>(∃ m' i st',o=(.normal,i,st')∧m' < m∧I m' i st')∨(o.1≠.normal∧WC (fun n=>K n o) Q))) :
 WC (fun n=>Go.Cb.obind (b4j (j0 tbl n) n x fr st) (K n)) Q:=WC.obind (WC.loop I j l) fun _ t=>t
theorem wj {β:Type} {c want:Bool} {st:St} {E:Nat→Option (AV×St)} {k:Nat→AV×St→Option β} {Q:β→Prop} (l:c=want→WC (fun n=>Go.Cb.obind (E n) (k n)) Q) (j:c=!want→WC (fun n=>k n (.tuple [],st)) Q) :
 WC (fun n=>Go.Cb.obind (gv2 (.bool c) want st (E n)) (k n)) Q:=by
 by_cases h:c=want
 · subst h;have e:∀ n,gv2 (.bool c) c st (E n)=E n:=fun n=>by cases c<;>rfl
   simp only[e];exact l rfl
 · have i:c=!want:=by cases c<;>cases want<;>simp_all
   have e:∀ n,gv2 (.bool c) want st (E n)=some (.tuple [],st):=fun n=>by subst i; cases want<;>rfl
   simp only[e,n9];exact j i
end Go.Cb
namespace Go.Cb
def W (a:AV):AV:=AV.weak (AV.stripB a)
def brE (c:AV) (call:d8) (n:Nat) (a b:ACode) (fr:List AV) (st:St):Option Out:=brT c (a3p call n a fr st) (a3p call n b fr st)
def m1 {β:Type} (a:AV) (f:AV→Option β):Option β:=obind (p1 (some (a,AV.undef,([]:St)))) f
def gm {β:Type} (x:AV) (w:Bool) (a:AV) (f:AV→Option β):Option β:=obind (gv x w (some a)) f
theorem O7 {β:Type} {a i:AV} {f:AV→Option β} (h:a=i):m1 a f=m1 i f:=by rw[h]
theorem N7 {β:Type} {x j a i:AV} {w:Bool} {f:AV→Option β} (l:x=j) (t:j=.bool w→a=i):gm x w a f=gm j w i f:=by unfold gm;rw[H7 (e:=some a) (e':=some i) l (fun h=>by rw[t h])]
end Go.Cb
namespace Go.Cb.R
open Go.Cb
theorem d8v (call:d8) (bx:AV) (st:St) (a:AV):a0u call [a] bx st=some (a,bx,st):=b9 rfl
theorem b2n (call:d8) (bx:AV) (st:St) (o f:Nat):B8 call [.ptr o f] bx st=some (.ptr o f,bx,st):=b9 rfl
theorem b4v (call:d8) (bx:AV) (st:St) (o f:Nat):B8 call [.loc o f] bx st=some (.loc o f,bx,st):=b9 rfl
theorem b5G (call:d8) (bx:AV) (st:St) (cs:List AV):B8 call [.ro cs] bx st=some (.ro cs,bx,st):=b9 rfl
theorem b09 (call:d8) (bx:AV) (st:St) (f:Nat) (a b:List AV):B8 call [.func f a b] bx st=some (.func f a b,bx,st):=b9 rfl
theorem c1V (call:d8) (st:St) (zero:List AV):O0 zero call [] .undef st=some (.undef,.box zero,st):=b9 rfl
theorem d11 (call:d8) (st:St) (a:AV):Q5 call [a] .undef st=if a.plain then some (.undef,.box a.cellsW,st)else none:=b9 rfl
theorem b8h (call:d8) (bx:AV) (st:St) (zero:List AV):E1 zero call [] bx st=some (.ptr st.length 0,bx,st++[.cells zero]):=b9 rfl
theorem c5s (call:d8) (bx:AV) (st:St) (a:AV):J3 call [a] bx st=if a.plain then some (.ptr st.length 0,bx,st++[.cells a.cellsW])else none:=b9 rfl
theorem c0l (call:d8) (bx:AV) (st:St) (zero:List AV) (i:List (Nat×Nat)) (as:List AV):I3 zero i call as bx st=(u9 i as zero).map fun cs=>(.agg cs,bx,st):=b9 rfl
theorem b7Z (call:d8) (bx:AV) (st:St) (i:Nat) (zero:List (List AV)) (at_:List Nat) (as:List AV):H8 i zero at_ call as bx st=(r9 i at_ as zero).map fun rs=>(.list true rs,bx,st):=b9 rfl
theorem d1Y (call:d8) (st:St) (i off n:Nat) (agg:Bool) (cs:List AV):G6 i agg n call [.loc i off] (.box cs) st=(i8 agg n (cs.drop off)).map (fun v=>(v,.box cs,st)):=by unfold G6; simp only[if_true]
theorem c9N (call:d8) (bx:AV) (st:St) (o off n:Nat) (agg:Bool):B1 agg n call [.ptr o off] bx st=match st[o]? with|some (.cells cs)=>(i8 agg n (cs.drop off)).map (fun v=>(v,bx,st))|_=>none:=b9 rfl
theorem c7s (call:d8) (bx:AV) (st:St) (n:Nat) (agg:Bool) (cs:List AV):J8 agg n call [.ro cs] bx st=(i8 agg n cs).map (fun v=>(v,bx,st)):=b9 rfl
theorem c2V (call:d8) (bx:AV) (st:St) (n:Nat) (agg:Bool) (cs:List AV):D2 agg n call [.ro cs] bx st=(i8 agg n cs).map (fun v=>(v,bx,st)):=b9 rfl
theorem ldAn_ptr (call:d8) (bx:AV) (st:St) (o off n:Nat) (agg:Bool):D2 agg n call [.ptr o off] bx st=match st[o]? with|some (.cells cs)=>(i8 agg n (cs.drop off)).map (fun v=>(v,bx,st))|_=>none:=b9 rfl
theorem c42 (call:d8) (st:St) (i off:Nat) (cs:List AV):I5 i call [.loc i off] (.box cs) st=match cs[off]? with|some c=>some (c,.box (cs.set off c.weak1),st)|none=>none:=by unfold I5; simp only[if_true]; rfl
theorem c4h (call:d8) (bx:AV) (st:St) (o off:Nat):B6 call [.ptr o off] bx st=match st[o]? with|some (.cells cs)=>(match cs[off]? with|some c=>some (c,bx,st.set o (.cells (cs.set off c.weak1)))|none=>none)|_=>none:=b9 rfl
theorem d2b (call:d8) (st:St) (i n off:Nat) (x:AV) (cs:List AV):J2 i n call [.loc i off,x] (.box cs) st=if x.plain=true∧x.cells.length=n∧off+n≤cs.length then some (.tuple [],.box (n6 cs off x.cells),st)else none:=by unfold J2; simp only[true_and]
theorem c6B (call:d8) (bx:AV) (st:St) (o off n:Nat) (x:AV):D5 n call [.ptr o off,x] bx st=match st[o]? with|some (.cells cs)=>(if x.plain=true∧x.cells.length=n∧off+n≤cs.length then some (.tuple [],bx,st.set o (.cells (n6 cs off x.cells)))else none)|_=>none:=by unfold D5; simp only[fL_eq]; rfl
theorem c38 (call:d8) (bx:AV) (st:St) (off o f:Nat):K0 off call [.ptr o f] bx st=some (.ptr o (f+off),bx,st):=b9 rfl
theorem c4J (call:d8) (bx:AV) (st:St) (off o f:Nat):K0 off call [.loc o f] bx st=some (.loc o (f+off),bx,st):=b9 rfl
theorem d0L (call:d8) (bx:AV) (st:St) (off:Nat) (cs:List AV):K0 off call [.ro cs] bx st=some (.ro (cs.drop off),bx,st):=b9 rfl
theorem d4d (call:d8) (bx:AV) (st:St) (off n:Nat) (agg:Bool) (cs:List AV):O9 off n agg call [.agg cs] bx st=if off+n≤cs.length then(i8 agg n (cs.drop off)).map (fun v=>(v,bx,st))else none:=b9 rfl
theorem d5m (call:d8) (bx:AV) (st:St) (j:Nat) (w:Bool) (xs:List (List AV)) (k:IntKind) (i:Int):I7 j call [.list w xs,.int k i] bx st=if 0≤i then(match xs[i.toNat]? with|some r=>if r.length=j then some (.ro r,bx,st)else none|none=>none)else none:=b9 rfl
theorem d1e (call:d8) (bx:AV) (st:St) (j o f n s:Nat) (k:IntKind) (i:Int):I7 j call [.sl o f n s,.int k i] bx st=if 0≤i∧i < (n:Int)∧s=j then some (.ptr o (f+i.toNat*j),bx,st)else none:=b9 rfl
theorem b6P (call:d8) (bx:AV) (st:St):G5 call [.nils] bx st=some (.int .i64 0,bx,st):=b9 rfl
theorem c0v (call:d8) (bx:AV) (st:St) (o f n s:Nat):G5 call [.sl o f n s] bx st=some (.int .i64 n,bx,st):=b9 rfl
theorem b5r (call:d8) (bx:AV) (st:St) (i:Nat) (zero:List (List AV)) (at_:List Nat) (as:List AV):F0 i zero at_ call as bx st=(m7 i at_ as zero).map fun rs=>(.fresh rs,bx,st):=b9 rfl
theorem b6O (call:d8) (bx:AV) (st:St) (i:Nat) (zero:List (List AV)) (at_:List Nat) (as:List AV):E9 i zero at_ call as bx st=(m7 i at_ as zero).map fun rs=>(.sl st.length 0 zero.length i,bx,st++[.cells rs.flatten]):=b9 rfl
theorem d1A (call:d8) (bx:AV) (st:St) (k i:IntKind) (a b:Int):P8 call [.int k a,.int i b] bx st=if k=i then some (.int k (b2o a b),bx,st)else none:=b9 rfl
theorem c8u (call:d8) (bx:AV) (st:St) (neg:Bool) (k i:IntKind) (a b:Int) (s t:List Nat):Q2 neg call [.agg [.int k a,.str s],.agg [.int i b,.str t]] bx st=if k=i then some (.bool (a6B neg a b s t),bx,st)else none:=b9 rfl
theorem b1h (i:Nat) (rs:List (List AV)):m7 i [] [] rs=some rs:=b9 rfl
theorem b1B (j i:Nat) (is:List Nat) (p:AV) (l:List AV) (rs:List (List AV)):m7 j (i::is) (p::l) rs=if p.plain=true∧p.cells.length=j∧i < rs.length then m7 j is l (rs.set i (p.cells.map AV.cellW1))else none:=b9 rfl
theorem b63 (call:d8) (bx:AV) (st:St) (i bytes:Nat) (ys:List (List AV)) (gs:List AV):C0 i bytes call (.list true []::.fresh ys::gs) bx st=if ys.isEmpty=false∧m2 i ys=true∧ys.length*bytes≤2 ^ 47∧I9 none st.length gs=true then some (.sl st.length 0 ys.length i,bx,st++[.cells ys.flatten])else none:=b9 rfl
theorem b5S (call:d8) (bx:AV) (st:St) (i bytes:Nat) (ys:List (List AV)) (gs:List AV):C0 i bytes call (.nils::.fresh ys::gs) bx st=if ys.isEmpty=false∧m2 i ys=true∧ys.length*bytes≤2 ^ 47∧I9 none st.length gs=true then some (.sl st.length 0 ys.length i,bx,st++[.cells ys.flatten])else none:=b9 rfl
theorem c2w (call:d8) (bx:AV) (st:St) (i bytes o n s:Nat) (ys:List (List AV)) (gs:List AV):C0 i bytes call (.sl o 0 n s::.fresh ys::gs) bx st=match st[o]? with|some (.cells xs)=>(if s=i∧ys.isEmpty=false∧m2 i ys=true∧xs.length=n*i∧(n+ys.length)*bytes≤2 ^ 47∧I9 (some o) st.length gs=true then some (.sl st.length 0 (n+ys.length) i,bx,st.set o .dead++[.cells (xs++ys.flatten)])else none)|_=>none:=b9 rfl
theorem c3U (o:Option Nat) (n:Nat):I9 o n []=true:=b9 rfl
theorem c4o (o:Option Nat) (n p f:Nat) (gs:List AV):I9 o n (.ptr p f::gs)=(Nat.blt p n && (match o with|some o=>!Nat.beq p o|none=>true) && I9 o n gs):=b9 rfl
theorem c9F {α:Type}:([]:List (List α)).flatten=[]:=b9 rfl
theorem d0p {α:Type} (a:List α) (l:List (List α)):(a::l).flatten=a++l.flatten:=b9 rfl
theorem d3o (call:d8) (bx:AV) (st:St) (w:Bool) (xs:List (List AV)):P4 call [.list w xs] bx st=(D9 xs).map fun s=>(.str s,bx,st):=b9 rfl
theorem b6Q:D9 []=some []:=b9 rfl
theorem b5i (n:Int) (rs:List (List AV)):D9 ([.int .u8 n]::rs)=if 0≤n∧n < 256 then(D9 rs).map (n.toNat::·)else none:=b9 rfl
theorem c4w (call:d8) (bx:AV) (st:St) (len j:Nat) (cs:List AV) (k:IntKind) (i:Int):E0 len j call [.ro cs,.int k i] bx st=if 0≤i∧i < (len:Int)then some (.ro (cs.drop (i.toNat*j)),bx,st)else none:=b9 rfl
theorem b8w (call:d8) (bx:AV) (st:St) (len j o f:Nat) (k:IntKind) (i:Int):E0 len j call [.ptr o f,.int k i] bx st=if 0≤i∧i < (len:Int)then some (.ptr o (f+i.toNat*j),bx,st)else none:=b9 rfl
theorem b9w (call:d8) (bx:AV) (st:St) (len j o f:Nat) (k:IntKind) (i:Int):E0 len j call [.loc o f,.int k i] bx st=if 0≤i∧i < (len:Int)then some (.loc o (f+i.toNat*j),bx,st)else none:=b9 rfl
theorem c9u (call:d8) (bx:AV) (st:St) (s:List Nat) (k:IntKind) (i:Int):I0 call [.str s,.int k i] bx st=if 0≤i then(match s[i.toNat]? with|some b=>some (.int .u8 b,bx,st)|none=>none)else none:=b9 rfl
theorem d5g (call:d8) (bx:AV) (st:St) (i hi:Bool) (s:List Nat) (r:List AV):M9 i hi call (.str s::r) bx st=(D4 i hi r s.length).map fun p=>(.str ((s.take p.2).drop p.1),bx,st):=b9 rfl
theorem d0B (call:d8) (bx:AV) (st:St) (i:Nat) (j hi:Bool) (o f n s:Nat) (r:List AV):K8 i j hi call (.sl o f n s::r) bx st=if s=i then(slB j hi r n).map fun p=>(.sl o (f+p.1*i) (p.2 - p.1) s,bx,st)else none:=b9 rfl
theorem d4a (call:d8) (bx:AV) (st:St) (j:Nat) (i hi:Bool) (w:Bool) (xs:List (List AV)) (r:List AV):K8 j i hi call (.list w xs::r) bx st=if m2 j xs then(D4 i hi r xs.length).map fun p=>(.list false ((xs.take p.2).drop p.1),bx,st)else none:=b9 rfl
theorem d2W (call:d8) (bx:AV) (st:St) (w:Bool) (xs:List (List AV)):S6 call [.list w xs] bx st=some (.list true [],bx,st):=b9 rfl
theorem d36 (call:d8) (bx:AV) (st:St) (len i:Nat) (j hi:Bool) (cs r:List AV):P0 len i j hi call (.ro cs::r) bx st=if cs.length=len*i then(D4 j hi r len).map fun p=>(.list false (((P6 i len cs).take p.2).drop p.1),bx,st)else none:=b9 rfl
theorem d2w (call:d8) (bx:AV) (st:St) (op:BinOp) (a b:AV):A0 op call [a,b] bx st=(l7 op a b).map (fun v=>(v,bx,st)):=b9 rfl
theorem c8h (call:d8) (bx:AV) (st:St) (op:BinOp) (a b:AV):N5 op call [a,b] bx st=(a4L op a b).map (fun v=>(v,bx,st)):=b9 rfl
theorem d0e (call:d8) (bx:AV) (st:St) (op:BinOp) (a b:AV):I1 op call [a,b] bx st=(Z4 op a b).map (fun v=>(v,bx,st)):=b9 rfl
theorem c7V (k:IntKind) (a b:Int):l7 .add (.int k a) (.int k b)=some (.int k (B2 k (a6K a b))):=by simp only[l7,if_true]
theorem d0C (k:IntKind) (a b:Int):l7 .sub (.int k a) (.int k b)=some (.int k (B2 k (b0A a b))):=by simp only[l7,if_true]
theorem c88 (k:IntKind) (a b:Int):l7 .mul (.int k a) (.int k b)=some (.int k (B2 k (a*b))):=by simp only[l7,if_true]
theorem c5z (k:IntKind) (a b:Int):l7 .quo (.int k a) (.int k b)=if b=0 then none else some (.int k (k.wrap (a.tdiv b))):=by simp only[l7,if_true]
theorem c6a (k:IntKind) (a b:Int):l7 .rem (.int k a) (.int k b)=if b=0 then none else some (.int k (a.tmod b)):=by simp only[l7,if_true]
theorem c7u (k:IntKind) (a b:Int):l7 .eql (.int k a) (.int k b)=some (.bool (eqI a b)):=by simp only[l7,if_true]
theorem d0E (k:IntKind) (a b:Int):l7 .neq (.int k a) (.int k b)=some (.bool !(eqI a b)):=by simp only[l7,if_true]
theorem c6f (k:IntKind) (a b:Int):l7 .lss (.int k a) (.int k b)=some (.bool (ltI a b)):=by simp only[l7,if_true]
theorem d1W (k:IntKind) (a b:Int):l7 .leq (.int k a) (.int k b)=some (.bool !(ltI b a)):=by simp only[l7,if_true]
theorem c9L (k:IntKind) (a b:Int):l7 .gtr (.int k a) (.int k b)=some (.bool (ltI b a)):=by simp only[l7,if_true]
theorem c90 (k:IntKind) (a b:Int):l7 .geq (.int k a) (.int k b)=some (.bool !(ltI a b)):=by simp only[l7,if_true]
theorem c5B (a b:List Nat):l7 .add (.str a) (.str b)=if a.length+b.length≤2 ^ 62 then some (.str (a++b))else none:=b9 rfl
theorem c81 (a b:List Nat):l7 .eql (.str a) (.str b)=some (.bool (eqN a b)):=b9 rfl
theorem c5n (a b:List Nat):l7 .neq (.str a) (.str b)=some (.bool !(eqN a b)):=b9 rfl
theorem d1h (a b:List Nat):l7 .lss (.str a) (.str b)=some (.bool (l6 a b)):=b9 rfl
theorem c5e (a b:Bool):a4L .eql (.bool a) (.bool b)=some (.bool (a == b)):=b9 rfl
theorem c7d (a b:Bool):a4L .neq (.bool a) (.bool b)=some (.bool !(a == b)):=b9 rfl
theorem c4i (o f:Nat):Z4 .eql (.ptr o f) .nilp=some (.bool false):=b9 rfl
theorem c0u (o f:Nat):Z4 .eql .nilp (.ptr o f)=some (.bool false):=b9 rfl
theorem c0X:Z4 .eql .nilp .nilp=some (.bool true):=b9 rfl
theorem c0q (o f:Nat):Z4 .neq (.ptr o f) .nilp=some (.bool true):=b9 rfl
theorem c0E (o f:Nat):Z4 .neq .nilp (.ptr o f)=some (.bool true):=b9 rfl
theorem c1O:Z4 .neq .nilp .nilp=some (.bool false):=b9 rfl
theorem c8r (call:d8) (bx:AV) (st:St) (b:Bool):W4 .not call [.bool b] bx st=some (.bool !b,bx,st):=b9 rfl
theorem d0Q (call:d8) (bx:AV) (st:St) (k:IntKind) (n:Int):W4 .neg call [.int k n] bx st=some (.int k (B2 k (0 - n)),bx,st):=b9 rfl
theorem c80 (call:d8) (bx:AV) (st:St) (k i:IntKind) (n:Int):M0 k call [.int i n] bx st=some (.int k (B2 k n),bx,st):=b9 rfl
theorem d30 (call:d8) (bx:AV) (st:St) (f n:Nat) (as:List AV):R8 f n call as bx st=if m4 as then some (.func f ((as.map AV.weak).take n) ((as.map AV.weak).drop n),bx,st)else none:=b9 rfl
theorem d3j (call:d8) (bx:AV) (st:St):S7 call [] bx st=some (.map st.length,bx,st++[.map []]):=b9 rfl
theorem d4b (call:d8) (bx:AV) (st:St) (i:Nat) (vs:List AV):L9 i call [.tuple vs] bx st=match vs[i]? with|some v=>some (v.weak,bx,st)|none=>none:=b9 rfl
theorem c98 (call:d8) (bx:AV) (st:St) (s:List Nat):M4 call [.str s] bx st=some (.int .i64 s.length,bx,st):=b9 rfl
theorem c9W (call:d8) (bx:AV) (st:St) (w:Bool) (xs:List (List AV)):G5 call [.list w xs] bx st=some (.int .i64 xs.length,bx,st):=b9 rfl
theorem d23 (call:d8) (bx:AV) (st:St) (i bytes:Nat) (w:Bool) (xs ys:List (List AV)):P5 i bytes call [.list true xs,.list w ys] bx st=if m2 i xs && m2 i ys && decide ((xs.length+ys.length)*bytes≤2 ^ 47)then some (.list true (xs++ys),bx,st)else none:=b9 rfl
theorem takeVal_t (n:Nat) (cs:List AV):i8 true n cs=if n≤cs.length then some (.agg ((cs.take n).map AV.weak1))else none:=b9 rfl
theorem b48 (n:Nat) (c:AV) (cs:List AV):i8 false n (c::cs)=some c.weak1:=b9 rfl
theorem b3s (cs:List AV):u9 [] [] cs=some cs:=b9 rfl
theorem b3h (off n:Nat) (i:List (Nat×Nat)) (p:AV) (j cs:List AV):u9 ((off,n)::i) (p::j) cs=if p.plain=true∧p.cells.length=n∧off+n≤cs.length then u9 i j (n6 cs off p.cells)else none:=b9 rfl
theorem b2Q (i:Nat) (rs:List (List AV)):r9 i [] [] rs=some rs:=b9 rfl
theorem b3H (j i:Nat) (is:List Nat) (p:AV) (l:List AV) (rs:List (List AV)):r9 j (i::is) (p::l) rs=if p.plain=true∧p.cells.length=j∧i < rs.length then r9 j is l (rs.set i (p.cells.map AV.weak1))else none:=b9 rfl
theorem b8J (cs:List AV) (off:Nat) (new:List AV):n6 cs off new=cs.take off++new++cs.drop (off+new.length):=b9 rfl
theorem b5q (n:Nat):D4 false false [] n=some (0,n):=b9 rfl
theorem b5B (l:AV) (n:Nat):D4 true false [l] n=(L8 l n).map fun l=>(l,n):=b9 rfl
theorem b45 (h:AV) (n:Nat):D4 false true [h] n=(L8 h n).map fun h=>(0,h):=b9 rfl
theorem b6h (l h:AV) (n:Nat):D4 true true [l,h] n=match L8 h n with|some h=>(L8 l h).map (fun l=>(l,h))|none=>none:=b9 rfl
theorem c0U (k:IntKind) (i:Int) (j:Nat):L8 (.int k i) j=if 0≤i∧i≤(j:Int)then some i.toNat else none:=b9 rfl
theorem b9E (i:Nat):m2 i []=true:=b9 rfl
theorem b7J (i:Nat) (r:List AV) (rs:List (List AV)):m2 i (r::rs)=(r.length == i):=b9 rfl
theorem c1s (i:Nat) (cs:List AV):b94 i (.box cs)=.loc i 0:=b9 rfl
theorem b37 (b:Bool):AV.plain (.bool b)=true:=b9 rfl
theorem b2Z (b:Bool):AV.cells (.bool b)=[.bool b]:=b9 rfl
theorem b1q (b:Bool):AV.cellW1 (.bool b)=.bool b:=b9 rfl
theorem b07 (b:Bool):AV.cellsW (.bool b)=[.bool b]:=b9 rfl
theorem b5N (k:IntKind) (n:Int):AV.plain (.int k n)=true:=b9 rfl
theorem b6l (k:IntKind) (n:Int):AV.cells (.int k n)=[.int k n]:=b9 rfl
theorem b4l (k:IntKind) (n:Int):AV.cellW1 (.int k n)=.int k n:=b9 rfl
theorem b3Q (k:IntKind) (n:Int):AV.cellsW (.int k n)=[.int k n]:=b9 rfl
theorem b53 (s:List Nat):AV.plain (.str s)=true:=b9 rfl
theorem b5C (s:List Nat):AV.cells (.str s)=[.str s]:=b9 rfl
theorem b3w (s:List Nat):AV.cellW1 (.str s)=.str s:=b9 rfl
theorem b3n (s:List Nat):AV.cellsW (.str s)=[.str s]:=b9 rfl
theorem b4R (w:Bool) (xs:List (List AV)):AV.plain (.list w xs)=true:=b9 rfl
theorem b2L (w:Bool) (xs:List (List AV)):AV.cells (.list w xs)=[.list w xs]:=b9 rfl
theorem b6q (o f:Nat):AV.plain (.ptr o f)=true:=b9 rfl
theorem b6M (o f:Nat):AV.cells (.ptr o f)=[.ptr o f]:=b9 rfl
theorem b4W (o f:Nat):AV.cellW1 (.ptr o f)=.ptr o f:=b9 rfl
theorem b3z (o f:Nat):AV.cellsW (.ptr o f)=[.ptr o f]:=b9 rfl
theorem b2D :AV.plain (.nilp)=true:=b9 rfl
theorem b3B :AV.cells (.nilp)=[.nilp]:=b9 rfl
theorem b01 :AV.cellW1 (.nilp)=.nilp:=b9 rfl
theorem b05 :AV.cellsW (.nilp)=[.nilp]:=b9 rfl
theorem b9a (cs:List AV):AV.plain (.ro cs)=true:=b9 rfl
theorem b9I (cs:List AV):AV.cells (.ro cs)=[.ro cs]:=b9 rfl
theorem b5x (cs:List AV):AV.cellW1 (.ro cs)=.ro cs:=b9 rfl
theorem b6E (cs:List AV):AV.cellsW (.ro cs)=[.ro cs]:=b9 rfl
theorem b5y (o:Nat):AV.plain (.map o)=true:=b9 rfl
theorem b6F (o:Nat):AV.cells (.map o)=[.map o]:=b9 rfl
theorem b3U (o:Nat):AV.cellW1 (.map o)=.map o:=b9 rfl
theorem b3v (o:Nat):AV.cellsW (.map o)=[.map o]:=b9 rfl
theorem b4V :AV.plain (.nilm)=true:=b9 rfl
theorem b4F :AV.cells (.nilm)=[.nilm]:=b9 rfl
theorem b0W :AV.cellW1 (.nilm)=.nilm:=b9 rfl
theorem b1v :AV.cellsW (.nilm)=[.nilm]:=b9 rfl
theorem b21 (f:Nat) (a b:List AV):AV.plain (.func f a b)=true:=b9 rfl
theorem b4K (f:Nat) (a b:List AV):AV.cells (.func f a b)=[.func f a b]:=b9 rfl
theorem b1a (f:Nat) (a b:List AV):AV.cellW1 (.func f a b)=.func f a b:=b9 rfl
theorem b00 (f:Nat) (a b:List AV):AV.cellsW (.func f a b)=[.func f a b]:=b9 rfl
theorem b4e :AV.plain (.nilf)=true:=b9 rfl
theorem b4E :AV.cells (.nilf)=[.nilf]:=b9 rfl
theorem b1c :AV.cellW1 (.nilf)=.nilf:=b9 rfl
theorem b1d :AV.cellsW (.nilf)=[.nilf]:=b9 rfl
theorem b9G (o f n s:Nat):AV.plain (.sl o f n s)=true:=b9 rfl
theorem b87 (o f n s:Nat):AV.cells (.sl o f n s)=[.sl o f n s]:=b9 rfl
theorem b5z (o f n s:Nat):AV.cellW1 (.sl o f n s)=.sl o f n s:=b9 rfl
theorem b51 (o f n s:Nat):AV.cellsW (.sl o f n s)=[.sl o f n s]:=b9 rfl
theorem b1m (t:Nat) (v:AV):AV.plain (.iface t v)=true:=b9 rfl
theorem b0U (t:Nat) (v:AV):AV.cells (.iface t v)=[.iface t v]:=b9 rfl
theorem a9u (t:Nat) (v:AV):AV.cellW1 (.iface t v)=.iface t v:=b9 rfl
theorem a9z (t:Nat) (v:AV):AV.cellsW (.iface t v)=[.iface t v]:=b9 rfl
theorem b27 :AV.plain (.nili)=true:=b9 rfl
theorem b2t :AV.cells (.nili)=[.nili]:=b9 rfl
theorem b1x :AV.cellW1 (.nili)=.nili:=b9 rfl
theorem b0R :AV.cellsW (.nili)=[.nili]:=b9 rfl
theorem b2w :AV.plain (.nils)=true:=b9 rfl
theorem b4Y :AV.cells (.nils)=[.nils]:=b9 rfl
theorem b1C :AV.cellW1 (.nils)=.nils:=b9 rfl
theorem b0X :AV.cellsW (.nils)=[.nils]:=b9 rfl
theorem b0T (w:Bool) (xs:List (List AV)):AV.cellW1 (.list w xs)=.list (w && xs.isEmpty) xs:=b9 rfl
theorem plain_agg (cs:List AV):AV.plain (.agg cs)=true:=b9 rfl
theorem b6H (cs:List AV):AV.cells (.agg cs)=cs:=b9 rfl
theorem b3a (cs:List AV):AV.cellsW (.agg cs)=cs:=b9 rfl
theorem b1A (w:Bool) (xs:List (List AV)):AV.cellsW (.list w xs)=[.list (w && xs.isEmpty) xs]:=b9 rfl
theorem allPlain_n:m4 []=true:=b9 rfl
theorem allPlain_c (a:AV) (as:List AV):m4 (a::as)=(a.plain && m4 as):=b9 rfl
theorem d4e {α β:Type} (f:α→β):List.map f []=[]:=b9 rfl
theorem d4F {α β:Type} (f:α→β) (a:α) (l:List α):List.map f (a::l)=f a::l.map f:=b9 rfl
theorem d1H {α:Type} (l:List α):List.drop 0 l=l:=b9 rfl
theorem c47 {α:Type} (n:Nat) (a:α) (l:List α):List.drop (n+1) (a::l)=l.drop n:=b9 rfl
theorem c8k {α:Type} (n:Nat):List.drop n ([]:List α)=[]:=by cases n<;>rfl
theorem c5Q {α:Type} (l:List α):List.take 0 l=[]:=b9 rfl
theorem c8w {α:Type} (n:Nat) (a:α) (l:List α):List.take (n+1) (a::l)=a::l.take n:=b9 rfl
theorem c7m {α:Type} (n:Nat):List.take n ([]:List α)=[]:=by cases n<;>rfl
theorem d2J {α:Type}:([]:List α).length=0:=b9 rfl
theorem d38 {α:Type} (a:α) (l:List α):(a::l).length=l.length+1:=b9 rfl
theorem d2U {α:Type} (a:α) (l m:List α):(a::l)++m=a::(l++m):=b9 rfl
theorem d4h {α:Type} (l:List α):[]++l=l:=b9 rfl
theorem c2U {α:Type} (l:List α):l++[]=l:=List.append_nil l
theorem d5k {α:Type} (a:α) (l:List α):(a::l)[0]?=some a:=b9 rfl
theorem d4Q {α:Type} (n:Nat) (a:α) (l:List α):(a::l)[n+1]?=l[n]?:=b9 rfl
theorem d3y {α:Type} (a b:α) (l:List α):(a::l).set 0 b=b::l:=b9 rfl
theorem d47 {α:Type} (n:Nat) (a b:α) (l:List α):(a::l).set (n+1) b=a::l.set n b:=b9 rfl
theorem d44 {α:Type} (a:α):List.replicate 0 a=[]:=b9 rfl
theorem d20 {α:Type} (n:Nat) (a:α):List.replicate (n+1) a=a::List.replicate n a:=b9 rfl
theorem d0d {α β:Type} (f:α→β) (a:α):Option.map f (some a)=some (f a):=b9 rfl
theorem d1g {α β:Type} (f:α→β):Option.map f none=none:=b9 rfl
theorem d4E {α:Type}:([]:List α).isEmpty=true:=b9 rfl
theorem d3b {α:Type} (a:α) (l:List α):(a::l).isEmpty=false:=b9 rfl
theorem d5c {α:Type} (a b:α):(if True then a else b)=a:=if_pos trivial
theorem d4Y {α:Type} (a b:α):(if False then a else b)=b:=if_neg (fun h=>h)
theorem d3s {α:Type} (a b:α):(if true=true then a else b)=a:=if_pos rfl
theorem d4L {α:Type} (a b:α):(if false=true then a else b)=b:=if_neg (fun h=>by cases h)
theorem c8a:(true=false)=False:=by simp
theorem c6S:(false=true)=False:=by simp
theorem d3u:(!true)=false:=b9 rfl
theorem d3V:(!false)=true:=b9 rfl
theorem d4u (b:Bool):(true && b)=b:=b9 rfl
theorem d3Q (b:Bool):(b && true)=b:=by cases b<;>rfl
theorem d48 (b:Bool):(false && b)=false:=b9 rfl
theorem d2B (b:Bool):(b && false)=false:=by cases b<;>rfl
theorem d6l (b:Bool):(true || b)=true:=b9 rfl
theorem e0z (b:Bool):(b || true)=true:=by cases b<;>rfl
theorem d8I (b:Bool):(false || b)=b:=b9 rfl
theorem d7f (b:Bool):(b || false)=b:=by cases b<;>rfl
theorem d3F (p:Prop):(p∧True)=p:=by simp
theorem d2m (p:Prop):(True∧p)=p:=by simp
theorem d2H:decide True=true:=b9 rfl
theorem d2E:decide False=false:=b9 rfl
theorem eqs {α:Type} (a:α):(a=a)=True:=by simp
theorem nn (n:Nat):(0≤(n:Int))=True:=by simp
theorem tn (n:Nat):(n:Int).toNat=n:=Int.toNat_natCast n
theorem d1x (m n:Nat):((m:Int)≤(n:Int))=(m≤n):=by simp
theorem d1w (n:Nat):(n≤n)=True:=by simp
theorem d9A (i j:Nat):ltI (i:Int) (j:Int)=decide (i < j):=ltN i j
theorem d7t (i j:Nat):eqI (i:Int) (j:Int)=decide (i=j):=d7o i j
theorem d4H (c:AV) (call:d8) (n:Nat) (a b:ACode) (fr:List AV) (st:St):brE c call n a b fr st=brT c (a3p call n a fr st) (a3p call n b fr st):=b9 rfl
theorem e1s:(0 < (1:Nat))=True:=by simp
theorem d8i:(0 < (3:Nat))=True:=by simp
theorem d6f:(1 < (3:Nat))=True:=by simp
theorem d9k:(2 < (3:Nat))=True:=by simp
theorem il0:(0≤(0:Int))=True:=by simp
theorem it0:(0:Int).toNat=0:=b9 rfl
theorem il1:(0≤(1:Int))=True:=by simp
theorem it1:(1:Int).toNat=1:=b9 rfl
theorem il2:(0≤(2:Int))=True:=by simp
theorem it2:(2:Int).toNat=2:=b9 rfl
theorem m41:4*1=(4:Nat):=b9 rfl
theorem W_e (a:AV):W a=AV.weak (AV.stripB a):=b9 rfl
theorem d7y {β:Type} (a:AV) (f:AV→Option β):m1 a f=f a:=b9 rfl
theorem c3y {β:Type} (c w:Bool) (a:AV) (f:AV→Option β):gm (.bool c) w a f=f (gV (.bool c) w a):=by unfold gm; rw[b1L,n9]
theorem b7E {β:Type} (x:AV) (w b want:Bool) (a:AV) (f:AV→Option β):gm (gV x w (.bool b)) want a f=f (gV (gV x w (.bool b)) want a):=by unfold gm; rw[a8Y,n9]
theorem c2P {β:Type} (w:Bool) (a:AV) (f:AV→Option β):gm (.tuple []) w a f=f (.tuple []):=by unfold gm; rw[b15,n9]
theorem d4y (n:Nat):0+n=n:=Nat.zero_add n
theorem d3w (n:Nat):n+0=n:=b9 rfl
theorem d6x (n:Nat):(n == n)=true:=by simp
end Go.Cb.R
namespace Go.Cb
open Go.Cb.R
def SS:=AX (AX (AX (AX (AX (AX (AX (AX (@exec_seqK) (@b6i)) (AX (@b80) (AX (@b52) (@b5b)))) (AX (AX (@a2l) (AX (@b5J) (@b8K))) (AX (@a7C) (AX (@a8a) (@b2N))))) (AX (AX (AX (@b1e) (@c6w)) (AX (@c53) (AX (@b0P) (@b1k)))) (AX (AX (@c6j) (AX (@d1O) (@c8n))) (AX (@b9N) (AX (@b6R) (@b91)))))) (AX (AX (AX (AX (@b7R) (@b4r)) (AX (@c0z) (AX (@a7v) (@n9)))) (AX (AX (@d3T) (AX (@d2r) (@d2s))) (AX (@d3J) (AX (@b15) (@d0u))))) (AX (AX (AX (@c9R) (@c5r)) (AX (@d0S) (AX (@b8y) (@d2R)))) (AX (AX (@d43) (AX (@d3g) (@d5h))) (AX (@c4H) (AX (@b1L) (@a8Y))))))) (AX (AX (AX (AX (AX (@c31) (@b9u)) (AX (@b6Z) (AX (@c7r) (@c8L)))) (AX (AX (@c2C) (AX (@b9B) (@b5t))) (AX (@b9J) (AX (@b9l) (@b6r))))) (AX (AX (AX (@b7n) (@b6S)) (AX (@b62) (AX (@c3r) (@b7d)))) (AX (AX (@b8s) (AX (@b6w) (@b5V))) (AX (@b5R) (AX (@a0c) (@c1C)))))) (AX (AX (AX (AX (@b4O) (@b6C)) (AX (@b4s) (AX (@b2F) (@b9L)))) (AX (AX (@b3r) (AX (@b5g) (@b6v))) (AX (@b3D) (AX (@b8Q) (@b3c))))) (AX (AX (AX (@b47) (AX (@b3f) (@b4J))) (AX (@X7) (AX (@b4b) (@b2R)))) (AX (AX (@b57) (AX (@b6T) (@b26))) (AX (@b5d) (AX (@b3T) (@b3J)))))))) (AX (AX (AX (AX (AX (AX (@b9k) (@b5O)) (AX (@b5W) (AX (@b2I) (@b33)))) (AX (AX (@b3q) (AX (@b6n) (@b8d))) (AX (@b1p) (AX (@b1o) (@b02))))) (AX (AX (AX (@b3u) (@b4d)) (AX (@b0Z) (AX (@b4Z) (@b1s)))) (AX (AX (@b1w) (AX (@b6d) (@b4a))) (AX (@b4P) (AX (@b0Q) (@b04)))))) (AX (AX (AX (AX (@b1y) (@b4q)) (AX (@b4Q) (AX (@b1j) (@a8F)))) (AX (AX (@b6e) (AX (@a8L) (@a9f))) (AX (@d8v) (AX (@b2n) (@b4v))))) (AX (AX (AX (@b5G) (@b09)) (AX (@c1V) (AX (@d11) (@b8h)))) (AX (AX (@c5s) (AX (@c0l) (@b7Z))) (AX (@d1Y) (AX (@c9N) (@c7s))))))) (AX (AX (AX (AX (AX (@c2V) (@ldAn_ptr)) (AX (@c42) (AX (@c4h) (@d2b)))) (AX (AX (@c6B) (AX (@c38) (@c4J))) (AX (@d0L) (AX (@d4d) (@d5m))))) (AX (AX (AX (@d1e) (@b6P)) (AX (@c0v) (AX (@b5r) (@b6O)))) (AX (AX (@d1A) (AX (@c8u) (@b1h))) (AX (@b1B) (AX (@b63) (@b5S)))))) (AX (AX (AX (AX (@c2w) (@c3U)) (AX (@c4o) (AX (@c9F) (@d0p)))) (AX (AX (@d3o) (AX (@b6Q) (@b5i))) (AX (@c4w) (AX (@b8w) (@b9w))))) (AX (AX (AX (@c9u) (AX (@d5g) (@d0B))) (AX (@d4a) (AX (@d2W) (@d36)))) (AX (AX (@d2w) (AX (@c8h) (@d0e))) (AX (@c7V) (AX (@d0C) (@c88))))))))) (AX (AX (AX (AX (AX (AX (AX (@c5z) (@c6a)) (AX (@c7u) (AX (@d0E) (@c6f)))) (AX (AX (@d1W) (AX (@c9L) (@c90))) (AX (@c5B) (AX (@c81) (@c5n))))) (AX (AX (AX (@d1h) (@c5e)) (AX (@c7d) (AX (@c4i) (@c0u)))) (AX (AX (@c0X) (AX (@c0q) (@c0E))) (AX (@c1O) (AX (@c8r) (@d0Q)))))) (AX (AX (AX (AX (@c80) (@d30)) (AX (@d3j) (AX (@d4b) (@c98)))) (AX (AX (@c9W) (AX (@d23) (@takeVal_t))) (AX (@b48) (AX (@b3s) (@b3h))))) (AX (AX (AX (@b2Q) (@b3H)) (AX (@b8J) (AX (@b5q) (@b5B)))) (AX (AX (@b45) (AX (@b6h) (@c0U))) (AX (@b9E) (AX (@b7J) (@c1s))))))) (AX (AX (AX (AX (AX (@b37) (@b2Z)) (AX (@b1q) (AX (@b07) (@b5N)))) (AX (AX (@b6l) (AX (@b4l) (@b3Q))) (AX (@b53) (AX (@b5C) (@b3w))))) (AX (AX (AX (@b3n) (@b4R)) (AX (@b2L) (AX (@b6q) (@b6M)))) (AX (AX (@b4W) (AX (@b3z) (@b2D))) (AX (@b3B) (AX (@b01) (@b05)))))) (AX (AX (AX (AX (@b9a) (@b9I)) (AX (@b5x) (AX (@b6E) (@b5y)))) (AX (AX (@b6F) (AX (@b3U) (@b3v))) (AX (@b4V) (AX (@b4F) (@b0W))))) (AX (AX (AX (@b1v) (AX (@b21) (@b4K))) (AX (@b1a) (AX (@b00) (@b4e)))) (AX (AX (@b4E) (AX (@b1c) (@b1d))) (AX (@b9G) (AX (@b87) (@b5z)))))))) (AX (AX (AX (AX (AX (AX (@b51) (@b1m)) (AX (@b0U) (AX (@a9u) (@a9z)))) (AX (AX (@b27) (AX (@b2t) (@b1x))) (AX (@b0R) (AX (@b2w) (@b4Y))))) (AX (AX (AX (@b1C) (@b0X)) (AX (@b0T) (AX (@plain_agg) (@b6H)))) (AX (AX (@b3a) (AX (@b1A) (@allPlain_n))) (AX (@allPlain_c) (AX (@d4e) (@d4F)))))) (AX (AX (AX (AX (@d1H) (@c47)) (AX (@c8k) (AX (@c5Q) (@c8w)))) (AX (AX (@c7m) (AX (@d2J) (@d38))) (AX (@d2U) (AX (@d4h) (@c2U))))) (AX (AX (AX (@d5k) (AX (@d4Q) (@d3y))) (AX (@d47) (AX (@d44) (@d20)))) (AX (AX (@d0d) (AX (@d1g) (@d4E))) (AX (@d3b) (AX (@d5c) (@d4Y))))))) (AX (AX (AX (AX (AX (@d3s) (@d4L)) (AX (@c8a) (AX (@c6S) (@d3u)))) (AX (AX (@d3V) (AX (@d4u) (@d3Q))) (AX (@d48) (AX (@d2B) (@d6l))))) (AX (AX (AX (@e0z) (@d8I)) (AX (@d7f) (AX (@d3F) (@d2m)))) (AX (AX (@d2H) (AX (@d2E) (@eqs))) (AX (@nn) (AX (@tn) (@d1x)))))) (AX (AX (AX (AX (@d1w) (@d9A)) (AX (@d7t) (AX (@d4H) (@e1s)))) (AX (AX (@d8i) (AX (@d6f) (@d9k))) (AX (@il0) (AX (@it0) (@il1))))) (AX (AX (AX (@it1) (AX (@il2) (@it2))) (AX (@m41) (AX (@W_e) (@d7y)))) (AX (AX (@c3y) (AX (@b7E) (@c2P))) (AX (@d4y) (AX (@d3w) (@d6x)))))))))
end Go.Cb
namespace Go.Cb.V
open Go Go.Cb
def e8 (call:d8) (ops:List AOper) (σ:Sig) (k:Sig→Option Out):Option Out:=obind (g9 call ops σ) k
theorem runR_congr {call:d8} {ops:List AOper} {σ σ':Sig} {k:Sig→Option Out} (h:σ=σ'):e8 call ops σ k=e8 call ops σ' k:=by rw[h]
theorem c6b (call:d8) (σ:Sig) (k:Sig→Option Out):e8 call [] σ k=k σ:=b9 rfl
theorem a09 (call:d8) (o:AOper) (os:List AOper) (σ:Sig) (k:Sig→Option Out):e8 call (o::os) σ k=obind (i7 call o σ) fun σ=>e8 call os σ k:=by unfold e8;simp only[g9];cases i7 call o σ<;>rfl
theorem a0w:∀ (as:List Opd) (σ:Sig),(d9 as σ).st=σ.st
 | [],_=>rfl
 | x::xs,σ=>by rw[d9,a0w xs]; cases x<;>rfl
section
variable (call:d8) (d:Dst) (as:List Opd) (os:List AOper) (σ:Sig) (k:Sig→Option Out)
theorem n7 {K:Kind} (i:K.setSt=false):e8 call (⟨d,K,as,none,none⟩::os) σ k=obind (p1 (sem K call (as.map (·.read σ)) .undef σ.st)) fun x=>e8 call os (d.put x (d9 as σ)) k:=by
 rw[a09];simp only[i7];rw[J5];dsimp only;cases hs:sem K call (as.map (·.read σ)) .undef σ.st with
 | none=>rfl
 | some x =>
  obtain⟨r,b,st⟩:=x;obtain rfl:=a1q i hs;simp only[p1,n9];have e:({ d9 as σ with st:=σ.st }:Sig)=d9 as σ:=by have:=a0w as σ;cases h:d9 as σ;rw[h]at this;simp only at this;rw[this]
  rw[e]
theorem T0 {K:Kind}:e8 call (⟨d,K,as,none,none⟩::os) σ k=obind (p2 (sem K call (as.map (·.read σ)) .undef σ.st)) fun x=>e8 call os (d.put x.1 { d9 as σ with st:=x.2 }) k:=by
 rw[a09];simp only[i7];rw[J5];dsimp only;cases hs:sem K call (as.map (·.read σ)) .undef σ.st with
 | none=>rfl
 | some x =>obtain⟨r,b,st⟩:=x;simp only[p2,n9]
theorem a8e {K:Kind} (i:Nat):e8 call (⟨d,K,as,some i,none⟩::os) σ k=obind (sem K call (as.map (·.read σ)) (σ.fr.getD i .undef) σ.st) fun x=>e8 call os (d.put x.1 { d9 as σ with fr:=(d9 as σ).fr.set i x.2.1,st:=x.2.2 }) k:=by
 rw[a09];simp only[i7];rw[J5];dsimp only;cases hs:sem K call (as.map (·.read σ)) (σ.fr.getD i .undef) σ.st with
 | none=>rfl
 | some x =>obtain⟨r,b,st⟩:=x;simp only[n9]
end
theorem d4I {call:d8} {d:Dst} {as:List Opd} {os:List AOper} {σ:Sig} {k:Sig→Option Out} {K:Kind} {box:Option Nat} (h:(K.setSt || K.alters || e9 as)=false) :
 e8 call (⟨d,K,as,box,none⟩::os) σ k=obind (p1 (sem K call (as.map (·.read σ)) (goK.boxOf' box σ) σ.st)) fun r=>e8 call os (d.put r σ) k:=by
 rw[a09,← a3e];simp only[a4E,goK,h]
theorem m8 {call:d8} {d:Dst} {as:List Opd} {os:List AOper} {σ:Sig} {k:Sig→Option Out} {K:Kind} {box:Option Nat} {x:Opd} {w:Bool} (h:(K.setSt || K.alters || e9 as)=false) :
 e8 call (⟨d,K,as,box,some (x,w)⟩::os) σ k=obind (gv (x.read σ) w (p1 (sem K call (as.map (·.read σ)) (goK.boxOf' box σ) σ.st))) fun r=>e8 call os (d.put r σ) k:=by
 rw[a09,← a3e];simp only[a4E,h]
theorem M7 {call:d8} {d:Dst} {as:List Opd} {os:List AOper} {σ:Sig} {k:Sig→Option Out} {K:Kind} {box:Option Nat} {x:Opd} {w:Bool} (i:K.setSt=true) (j:K.alters=false) (h:e9 as=false) :
 e8 call (⟨d,K,as,box,some (x,w)⟩::os) σ k=obind (gv2 (x.read σ) w σ.st (p2 (sem K call (as.map (·.read σ)) (goK.boxOf' box σ) σ.st))) fun r=>e8 call os (d.put r.1 { σ with st:=r.2 }) k:=by
 rw[a09,← a3e];simp only[a4E,i,j,h,Bool.true_or,Bool.or_false]
theorem e0N:e9 []=false:=b9 rfl
theorem d9K (s:Nat) (xs:List Opd):e9 (.t s::xs)=e9 xs:=b9 rfl
theorem d5J (s:Nat) (xs:List Opd):e9 (.v s::xs)=e9 xs:=b9 rfl
theorem e0X (s:Nat) (xs:List Opd):e9 (.l s::xs)=e9 xs:=b9 rfl
theorem d7n (a:AV) (xs:List Opd):e9 (.c a::xs)=e9 xs:=b9 rfl
theorem b5a (call:d8) (n:Nat) (kill:List Nat) (i:List AOper) (fr:List AV) (st:St) :
 exec call n (.reg kill i) fr st=e8 call i ⟨i6 kill fr,fun _=>.undef,st⟩ fun σ=>some (.normal,σ.fr,σ.st):=by
 rw[b7a,a0f]; rfl
theorem b4p (call:d8) (n:Nat) (kill:List Nat) (i:List AOper) (c:Opd) (a b:ACode) (fr:List AV) (st:St) :
 exec call n (.test kill i c a b) fr st=e8 call i ⟨i6 kill fr,fun _=>.undef,st⟩ fun σ=>brE (c.read σ) call n a b σ.fr σ.st:=by
 rw[b2p,a0f]; rfl
theorem d9a (s:Nat) (fr:List AV) (τ:Nat→AV) (st:St):Opd.read (.t s) ⟨fr,τ,st⟩=(τ s).weak:=b9 rfl
theorem d5u (s:Nat) (fr:List AV) (τ:Nat→AV) (st:St):Opd.read (.ts s) ⟨fr,τ,st⟩=τ s:=b9 rfl
theorem d80 (s:Nat) (fr:List AV) (τ:Nat→AV) (st:St):Opd.read (.v s) ⟨fr,τ,st⟩=(fr.getD s .undef).weak:=b9 rfl
theorem d2X (s:Nat) (fr:List AV) (τ:Nat→AV) (st:St):Opd.read (.vs s) ⟨fr,τ,st⟩=fr.getD s .undef:=b9 rfl
theorem e0e (s:Nat) (fr:List AV) (τ:Nat→AV) (st:St):Opd.read (.l s) ⟨fr,τ,st⟩=b94 s (fr.getD s .undef):=b9 rfl
theorem d8z (a:AV) (σ:Sig):Opd.read (.c a) σ=a:=b9 rfl
theorem d3U (τ:Nat→AV) (s:Nat) (a:AV) (j:Nat):q8 τ s a j=if j=s then a else τ j:=by
 unfold q8;by_cases h:j=s
 · subst h; simp
 · rw[if_neg h,if_neg]; intro e; exact h (Nat.eq_of_beq_eq_true e)
theorem put_t (s:Nat) (a:AV) (fr:List AV) (τ:Nat→AV) (st:St):Dst.put (.t s) a ⟨fr,τ,st⟩=⟨fr,q8 τ s a.stripB,st⟩:=b9 rfl
theorem put_v (s:Nat) (a:AV) (fr:List AV) (τ:Nat→AV) (st:St):Dst.put (.v s) a ⟨fr,τ,st⟩=⟨fr.set s a.strip,τ,st⟩:=b9 rfl
theorem d4C (a:AV) (σ:Sig):Dst.put .none a σ=σ:=b9 rfl
theorem d3x (a:AV) (σ:Sig):Dst.put .bx a σ=σ:=b9 rfl
theorem d9w (σ:Sig):d9 [] σ=σ:=b9 rfl
theorem d88 (x:Opd) (xs:List Opd) (σ:Sig):d9 (x::xs) σ=d9 xs (x.spend σ):=b9 rfl
theorem d6R (s:Nat) (σ:Sig):Opd.spend (.t s) σ=σ:=b9 rfl
theorem d9C (s:Nat) (σ:Sig):Opd.spend (.v s) σ=σ:=b9 rfl
theorem d97 (s:Nat) (σ:Sig):Opd.spend (.l s) σ=σ:=b9 rfl
theorem d8d (a:AV) (σ:Sig):Opd.spend (.c a) σ=σ:=b9 rfl
theorem d3k (s:Nat) (fr:List AV) (τ:Nat→AV) (st:St):Opd.spend (.ts s) ⟨fr,τ,st⟩=⟨fr,q8 τ s (τ s).weak,st⟩:=b9 rfl
theorem d3D (s:Nat) (fr:List AV) (τ:Nat→AV) (st:St):Opd.spend (.vs s) ⟨fr,τ,st⟩=⟨fr.set s (fr.getD s .undef).weak,τ,st⟩:=b9 rfl
theorem d9b (a d:AV) (l:List AV):(a::l).getD 0 d=a:=b9 rfl
theorem d7e (a d:AV) (l:List AV) (n:Nat):(a::l).getD (n+1) d=l.getD n d:=b9 rfl
theorem d7k (fr:List AV):i6 [] fr=fr:=b9 rfl
theorem d7O (i:Nat) (is:List Nat) (fr:List AV):i6 (i::is) fr=i6 is (fr.set i .undef):=b9 rfl
section
variable (call:d8) (d:Dst) (as:List Opd) (os:List AOper) (fr:List AV) (τ:Nat→AV) (s:St) (k:Sig→Option Out)
theorem d9D :e8 call (⟨d,.mv,as,none,none⟩::os) ⟨fr,τ,s⟩ k=obind (p1 (a0u call (as.map (·.read ⟨fr,τ,s⟩)) .undef s)) fun x=>e8 call os (d.put x (d9 as ⟨fr,τ,s⟩)) k:=n7 call d as os ⟨fr,τ,s⟩ k rfl
theorem c8J :e8 call (⟨d,.pick,as,none,none⟩::os) ⟨fr,τ,s⟩ k=obind (p1 (A9 call (as.map (·.read ⟨fr,τ,s⟩)) .undef s)) fun x=>e8 call os (d.put x (d9 as ⟨fr,τ,s⟩)) k:=n7 call d as os ⟨fr,τ,s⟩ k rfl
theorem b8I :e8 call (⟨d,.nilchk,as,none,none⟩::os) ⟨fr,τ,s⟩ k=obind (p1 (B8 call (as.map (·.read ⟨fr,τ,s⟩)) .undef s)) fun x=>e8 call os (d.put x (d9 as ⟨fr,τ,s⟩)) k:=n7 call d as os ⟨fr,τ,s⟩ k rfl
theorem c2k (z:List AV) (o:List (Nat×Nat)):e8 call (⟨d,.build z o,as,none,none⟩::os) ⟨fr,τ,s⟩ k=obind (p1 (I3 z o call (as.map (·.read ⟨fr,τ,s⟩)) .undef s)) fun x=>e8 call os (d.put x (d9 as ⟨fr,τ,s⟩)) k:=n7 call d as os ⟨fr,τ,s⟩ k rfl
theorem b7M (q:Nat) (z:List (List AV)) (t:List Nat):e8 call (⟨d,.bslice q z t,as,none,none⟩::os) ⟨fr,τ,s⟩ k=obind (p1 (H8 q z t call (as.map (·.read ⟨fr,τ,s⟩)) .undef s)) fun x=>e8 call os (d.put x (d9 as ⟨fr,τ,s⟩)) k:=n7 call d as os ⟨fr,τ,s⟩ k rfl
theorem b5f (q:Nat) (z:List (List AV)) (t:List Nat):e8 call (⟨d,.bsliceM q z t,as,none,none⟩::os) ⟨fr,τ,s⟩ k=obind (p1 (F0 q z t call (as.map (·.read ⟨fr,τ,s⟩)) .undef s)) fun x=>e8 call os (d.put x (d9 as ⟨fr,τ,s⟩)) k:=n7 call d as os ⟨fr,τ,s⟩ k rfl
theorem c5M (g:Bool) (n:Nat):e8 call (⟨d,.ldSt g n,as,none,none⟩::os) ⟨fr,τ,s⟩ k=obind (p1 (B1 g n call (as.map (·.read ⟨fr,τ,s⟩)) .undef s)) fun x=>e8 call os (d.put x (d9 as ⟨fr,τ,s⟩)) k:=n7 call d as os ⟨fr,τ,s⟩ k rfl
theorem c91 (g:Bool) (n:Nat):e8 call (⟨d,.ldRo g n,as,none,none⟩::os) ⟨fr,τ,s⟩ k=obind (p1 (J8 g n call (as.map (·.read ⟨fr,τ,s⟩)) .undef s)) fun x=>e8 call os (d.put x (d9 as ⟨fr,τ,s⟩)) k:=n7 call d as os ⟨fr,τ,s⟩ k rfl
theorem c9q (g:Bool) (n:Nat):e8 call (⟨d,.ldAn g n,as,none,none⟩::os) ⟨fr,τ,s⟩ k=obind (p1 (D2 g n call (as.map (·.read ⟨fr,τ,s⟩)) .undef s)) fun x=>e8 call os (d.put x (d9 as ⟨fr,τ,s⟩)) k:=n7 call d as os ⟨fr,τ,s⟩ k rfl
theorem c1E (g:Bool) (n:Nat):e8 call (⟨d,.ldStR g n,as,none,none⟩::os) ⟨fr,τ,s⟩ k=obind (p1 (C7 g n call (as.map (·.read ⟨fr,τ,s⟩)) .undef s)) fun x=>e8 call os (d.put x (d9 as ⟨fr,τ,s⟩)) k:=n7 call d as os ⟨fr,τ,s⟩ k rfl
theorem d4D (n:Nat):e8 call (⟨d,.fad n,as,none,none⟩::os) ⟨fr,τ,s⟩ k=obind (p1 (K0 n call (as.map (·.read ⟨fr,τ,s⟩)) .undef s)) fun x=>e8 call os (d.put x (d9 as ⟨fr,τ,s⟩)) k:=n7 call d as os ⟨fr,τ,s⟩ k rfl
theorem d2D (o n:Nat) (g:Bool):e8 call (⟨d,.fld o n g,as,none,none⟩::os) ⟨fr,τ,s⟩ k=obind (p1 (O9 o n g call (as.map (·.read ⟨fr,τ,s⟩)) .undef s)) fun x=>e8 call os (d.put x (d9 as ⟨fr,τ,s⟩)) k:=n7 call d as os ⟨fr,τ,s⟩ k rfl
theorem d42 (n:Nat):e8 call (⟨d,.iad n,as,none,none⟩::os) ⟨fr,τ,s⟩ k=obind (p1 (I7 n call (as.map (·.read ⟨fr,τ,s⟩)) .undef s)) fun x=>e8 call os (d.put x (d9 as ⟨fr,τ,s⟩)) k:=n7 call d as os ⟨fr,τ,s⟩ k rfl
theorem c7g (l n:Nat):e8 call (⟨d,.iadA l n,as,none,none⟩::os) ⟨fr,τ,s⟩ k=obind (p1 (E0 l n call (as.map (·.read ⟨fr,τ,s⟩)) .undef s)) fun x=>e8 call os (d.put x (d9 as ⟨fr,τ,s⟩)) k:=n7 call d as os ⟨fr,τ,s⟩ k rfl
theorem c7z :e8 call (⟨d,.idxS,as,none,none⟩::os) ⟨fr,τ,s⟩ k=obind (p1 (I0 call (as.map (·.read ⟨fr,τ,s⟩)) .undef s)) fun x=>e8 call os (d.put x (d9 as ⟨fr,τ,s⟩)) k:=n7 call d as os ⟨fr,τ,s⟩ k rfl
theorem d4i (a b:Bool):e8 call (⟨d,.slS a b,as,none,none⟩::os) ⟨fr,τ,s⟩ k=obind (p1 (M9 a b call (as.map (·.read ⟨fr,τ,s⟩)) .undef s)) fun x=>e8 call os (d.put x (d9 as ⟨fr,τ,s⟩)) k:=n7 call d as os ⟨fr,τ,s⟩ k rfl
theorem d2z (n:Nat) (a b:Bool):e8 call (⟨d,.slL n a b,as,none,none⟩::os) ⟨fr,τ,s⟩ k=obind (p1 (K8 n a b call (as.map (·.read ⟨fr,τ,s⟩)) .undef s)) fun x=>e8 call os (d.put x (d9 as ⟨fr,τ,s⟩)) k:=n7 call d as os ⟨fr,τ,s⟩ k rfl
theorem d39 :e8 call (⟨d,.slZ,as,none,none⟩::os) ⟨fr,τ,s⟩ k=obind (p1 (S6 call (as.map (·.read ⟨fr,τ,s⟩)) .undef s)) fun x=>e8 call os (d.put x (d9 as ⟨fr,τ,s⟩)) k:=n7 call d as os ⟨fr,τ,s⟩ k rfl
theorem d2g (l n:Nat) (a b:Bool):e8 call (⟨d,.slA l n a b,as,none,none⟩::os) ⟨fr,τ,s⟩ k=obind (p1 (P0 l n a b call (as.map (·.read ⟨fr,τ,s⟩)) .undef s)) fun x=>e8 call os (d.put x (d9 as ⟨fr,τ,s⟩)) k:=n7 call d as os ⟨fr,τ,s⟩ k rfl
theorem d2x (o:BinOp):e8 call (⟨d,.bin o,as,none,none⟩::os) ⟨fr,τ,s⟩ k=obind (p1 (A0 o call (as.map (·.read ⟨fr,τ,s⟩)) .undef s)) fun x=>e8 call os (d.put x (d9 as ⟨fr,τ,s⟩)) k:=n7 call d as os ⟨fr,τ,s⟩ k rfl
theorem d1F (o:BinOp):e8 call (⟨d,.binB o,as,none,none⟩::os) ⟨fr,τ,s⟩ k=obind (p1 (N5 o call (as.map (·.read ⟨fr,τ,s⟩)) .undef s)) fun x=>e8 call os (d.put x (d9 as ⟨fr,τ,s⟩)) k:=n7 call d as os ⟨fr,τ,s⟩ k rfl
theorem c6u (o:BinOp):e8 call (⟨d,.binP o,as,none,none⟩::os) ⟨fr,τ,s⟩ k=obind (p1 (I1 o call (as.map (·.read ⟨fr,τ,s⟩)) .undef s)) fun x=>e8 call os (d.put x (d9 as ⟨fr,τ,s⟩)) k:=n7 call d as os ⟨fr,τ,s⟩ k rfl
theorem d5H (o:UnOp):e8 call (⟨d,.un o,as,none,none⟩::os) ⟨fr,τ,s⟩ k=obind (p1 (W4 o call (as.map (·.read ⟨fr,τ,s⟩)) .undef s)) fun x=>e8 call os (d.put x (d9 as ⟨fr,τ,s⟩)) k:=n7 call d as os ⟨fr,τ,s⟩ k rfl
theorem c6I (t:IntKind):e8 call (⟨d,.conv t,as,none,none⟩::os) ⟨fr,τ,s⟩ k=obind (p1 (M0 t call (as.map (·.read ⟨fr,τ,s⟩)) .undef s)) fun x=>e8 call os (d.put x (d9 as ⟨fr,τ,s⟩)) k:=n7 call d as os ⟨fr,τ,s⟩ k rfl
theorem d4A (f n:Nat):e8 call (⟨d,.mkF f n,as,none,none⟩::os) ⟨fr,τ,s⟩ k=obind (p1 (R8 f n call (as.map (·.read ⟨fr,τ,s⟩)) .undef s)) fun x=>e8 call os (d.put x (d9 as ⟨fr,τ,s⟩)) k:=n7 call d as os ⟨fr,τ,s⟩ k rfl
theorem c8C (a:Nat) (z:List AV) (b c:Bool):e8 call (⟨d,.mget a z b c,as,none,none⟩::os) ⟨fr,τ,s⟩ k=obind (p1 (Q1 a z b c call (as.map (·.read ⟨fr,τ,s⟩)) .undef s)) fun x=>e8 call os (d.put x (d9 as ⟨fr,τ,s⟩)) k:=n7 call d as os ⟨fr,τ,s⟩ k rfl
theorem d4s (n:Nat):e8 call (⟨d,.ext n,as,none,none⟩::os) ⟨fr,τ,s⟩ k=obind (p1 (L9 n call (as.map (·.read ⟨fr,τ,s⟩)) .undef s)) fun x=>e8 call os (d.put x (d9 as ⟨fr,τ,s⟩)) k:=n7 call d as os ⟨fr,τ,s⟩ k rfl
theorem d0Z :e8 call (⟨d,.lenS,as,none,none⟩::os) ⟨fr,τ,s⟩ k=obind (p1 (M4 call (as.map (·.read ⟨fr,τ,s⟩)) .undef s)) fun x=>e8 call os (d.put x (d9 as ⟨fr,τ,s⟩)) k:=n7 call d as os ⟨fr,τ,s⟩ k rfl
theorem c9X :e8 call (⟨d,.lenL,as,none,none⟩::os) ⟨fr,τ,s⟩ k=obind (p1 (G5 call (as.map (·.read ⟨fr,τ,s⟩)) .undef s)) fun x=>e8 call os (d.put x (d9 as ⟨fr,τ,s⟩)) k:=n7 call d as os ⟨fr,τ,s⟩ k rfl
theorem d2V (n b:Nat):e8 call (⟨d,.app n b,as,none,none⟩::os) ⟨fr,τ,s⟩ k=obind (p1 (P5 n b call (as.map (·.read ⟨fr,τ,s⟩)) .undef s)) fun x=>e8 call os (d.put x (d9 as ⟨fr,τ,s⟩)) k:=n7 call d as os ⟨fr,τ,s⟩ k rfl
theorem d4x :e8 call (⟨d,.b2s,as,none,none⟩::os) ⟨fr,τ,s⟩ k=obind (p1 (P4 call (as.map (·.read ⟨fr,τ,s⟩)) .undef s)) fun x=>e8 call os (d.put x (d9 as ⟨fr,τ,s⟩)) k:=n7 call d as os ⟨fr,τ,s⟩ k rfl
theorem c4S (z:List AV) (o:List (Nat×Nat)) (x:Opd) (w:Bool) (h:e9 as=false):e8 call (⟨d,.build z o,as,none,some (x,w)⟩::os) ⟨fr,τ,s⟩ k=obind (gv (x.read ⟨fr,τ,s⟩) w (p1 (I3 z o call (as.map (·.read ⟨fr,τ,s⟩)) .undef s))) fun r=>e8 call os (d.put r ⟨fr,τ,s⟩) k:=m8 (by rw[h]; rfl)
theorem b8V (q:Nat) (z:List (List AV)) (t:List Nat) (x:Opd) (w:Bool) (h:e9 as=false):e8 call (⟨d,.bslice q z t,as,none,some (x,w)⟩::os) ⟨fr,τ,s⟩ k=obind (gv (x.read ⟨fr,τ,s⟩) w (p1 (H8 q z t call (as.map (·.read ⟨fr,τ,s⟩)) .undef s))) fun r=>e8 call os (d.put r ⟨fr,τ,s⟩) k:=m8 (by rw[h]; rfl)
theorem b5e (q:Nat) (z:List (List AV)) (t:List Nat) (x:Opd) (w:Bool) (h:e9 as=false):e8 call (⟨d,.bsliceM q z t,as,none,some (x,w)⟩::os) ⟨fr,τ,s⟩ k=obind (gv (x.read ⟨fr,τ,s⟩) w (p1 (F0 q z t call (as.map (·.read ⟨fr,τ,s⟩)) .undef s))) fun r=>e8 call os (d.put r ⟨fr,τ,s⟩) k:=m8 (by rw[h]; rfl)
theorem c62 (g:Bool) (n:Nat) (x:Opd) (w:Bool) (h:e9 as=false):e8 call (⟨d,.ldSt g n,as,none,some (x,w)⟩::os) ⟨fr,τ,s⟩ k=obind (gv (x.read ⟨fr,τ,s⟩) w (p1 (B1 g n call (as.map (·.read ⟨fr,τ,s⟩)) .undef s))) fun r=>e8 call os (d.put r ⟨fr,τ,s⟩) k:=m8 (by rw[h]; rfl)
theorem d1v (g:Bool) (n:Nat) (x:Opd) (w:Bool) (h:e9 as=false):e8 call (⟨d,.ldRo g n,as,none,some (x,w)⟩::os) ⟨fr,τ,s⟩ k=obind (gv (x.read ⟨fr,τ,s⟩) w (p1 (J8 g n call (as.map (·.read ⟨fr,τ,s⟩)) .undef s))) fun r=>e8 call os (d.put r ⟨fr,τ,s⟩) k:=m8 (by rw[h]; rfl)
theorem d16 (g:Bool) (n:Nat) (x:Opd) (w:Bool) (h:e9 as=false):e8 call (⟨d,.ldAn g n,as,none,some (x,w)⟩::os) ⟨fr,τ,s⟩ k=obind (gv (x.read ⟨fr,τ,s⟩) w (p1 (D2 g n call (as.map (·.read ⟨fr,τ,s⟩)) .undef s))) fun r=>e8 call os (d.put r ⟨fr,τ,s⟩) k:=m8 (by rw[h]; rfl)
theorem c3n (g:Bool) (n:Nat) (x:Opd) (w:Bool) (h:e9 as=false):e8 call (⟨d,.ldStR g n,as,none,some (x,w)⟩::os) ⟨fr,τ,s⟩ k=obind (gv (x.read ⟨fr,τ,s⟩) w (p1 (C7 g n call (as.map (·.read ⟨fr,τ,s⟩)) .undef s))) fun r=>e8 call os (d.put r ⟨fr,τ,s⟩) k:=m8 (by rw[h]; rfl)
theorem d3a (n:Nat) (x:Opd) (w:Bool) (h:e9 as=false):e8 call (⟨d,.fad n,as,none,some (x,w)⟩::os) ⟨fr,τ,s⟩ k=obind (gv (x.read ⟨fr,τ,s⟩) w (p1 (K0 n call (as.map (·.read ⟨fr,τ,s⟩)) .undef s))) fun r=>e8 call os (d.put r ⟨fr,τ,s⟩) k:=m8 (by rw[h]; rfl)
theorem d3q (o n:Nat) (g:Bool) (x:Opd) (w:Bool) (h:e9 as=false):e8 call (⟨d,.fld o n g,as,none,some (x,w)⟩::os) ⟨fr,τ,s⟩ k=obind (gv (x.read ⟨fr,τ,s⟩) w (p1 (O9 o n g call (as.map (·.read ⟨fr,τ,s⟩)) .undef s))) fun r=>e8 call os (d.put r ⟨fr,τ,s⟩) k:=m8 (by rw[h]; rfl)
theorem d5q (n:Nat) (x:Opd) (w:Bool) (h:e9 as=false):e8 call (⟨d,.iad n,as,none,some (x,w)⟩::os) ⟨fr,τ,s⟩ k=obind (gv (x.read ⟨fr,τ,s⟩) w (p1 (I7 n call (as.map (·.read ⟨fr,τ,s⟩)) .undef s))) fun r=>e8 call os (d.put r ⟨fr,τ,s⟩) k:=m8 (by rw[h]; rfl)
theorem d02 (l n:Nat) (x:Opd) (w:Bool) (h:e9 as=false):e8 call (⟨d,.iadA l n,as,none,some (x,w)⟩::os) ⟨fr,τ,s⟩ k=obind (gv (x.read ⟨fr,τ,s⟩) w (p1 (E0 l n call (as.map (·.read ⟨fr,τ,s⟩)) .undef s))) fun r=>e8 call os (d.put r ⟨fr,τ,s⟩) k:=m8 (by rw[h]; rfl)
theorem d34 (a b:Bool) (x:Opd) (w:Bool) (h:e9 as=false):e8 call (⟨d,.slS a b,as,none,some (x,w)⟩::os) ⟨fr,τ,s⟩ k=obind (gv (x.read ⟨fr,τ,s⟩) w (p1 (M9 a b call (as.map (·.read ⟨fr,τ,s⟩)) .undef s))) fun r=>e8 call os (d.put r ⟨fr,τ,s⟩) k:=m8 (by rw[h]; rfl)
theorem d2G (n:Nat) (a b:Bool) (x:Opd) (w:Bool) (h:e9 as=false):e8 call (⟨d,.slL n a b,as,none,some (x,w)⟩::os) ⟨fr,τ,s⟩ k=obind (gv (x.read ⟨fr,τ,s⟩) w (p1 (K8 n a b call (as.map (·.read ⟨fr,τ,s⟩)) .undef s))) fun r=>e8 call os (d.put r ⟨fr,τ,s⟩) k:=m8 (by rw[h]; rfl)
theorem d28 (l n:Nat) (a b:Bool) (x:Opd) (w:Bool) (h:e9 as=false):e8 call (⟨d,.slA l n a b,as,none,some (x,w)⟩::os) ⟨fr,τ,s⟩ k=obind (gv (x.read ⟨fr,τ,s⟩) w (p1 (P0 l n a b call (as.map (·.read ⟨fr,τ,s⟩)) .undef s))) fun r=>e8 call os (d.put r ⟨fr,τ,s⟩) k:=m8 (by rw[h]; rfl)
theorem d4c (o:BinOp) (x:Opd) (w:Bool) (h:e9 as=false):e8 call (⟨d,.bin o,as,none,some (x,w)⟩::os) ⟨fr,τ,s⟩ k=obind (gv (x.read ⟨fr,τ,s⟩) w (p1 (A0 o call (as.map (·.read ⟨fr,τ,s⟩)) .undef s))) fun r=>e8 call os (d.put r ⟨fr,τ,s⟩) k:=m8 (by rw[h]; rfl)
theorem c5T (o:BinOp) (x:Opd) (w:Bool) (h:e9 as=false):e8 call (⟨d,.binB o,as,none,some (x,w)⟩::os) ⟨fr,τ,s⟩ k=obind (gv (x.read ⟨fr,τ,s⟩) w (p1 (N5 o call (as.map (·.read ⟨fr,τ,s⟩)) .undef s))) fun r=>e8 call os (d.put r ⟨fr,τ,s⟩) k:=m8 (by rw[h]; rfl)
theorem d1B (o:BinOp) (x:Opd) (w:Bool) (h:e9 as=false):e8 call (⟨d,.binP o,as,none,some (x,w)⟩::os) ⟨fr,τ,s⟩ k=obind (gv (x.read ⟨fr,τ,s⟩) w (p1 (I1 o call (as.map (·.read ⟨fr,τ,s⟩)) .undef s))) fun r=>e8 call os (d.put r ⟨fr,τ,s⟩) k:=m8 (by rw[h]; rfl)
theorem d6s (o:UnOp) (x:Opd) (w:Bool) (h:e9 as=false):e8 call (⟨d,.un o,as,none,some (x,w)⟩::os) ⟨fr,τ,s⟩ k=obind (gv (x.read ⟨fr,τ,s⟩) w (p1 (W4 o call (as.map (·.read ⟨fr,τ,s⟩)) .undef s))) fun r=>e8 call os (d.put r ⟨fr,τ,s⟩) k:=m8 (by rw[h]; rfl)
theorem c7U (t:IntKind) (x:Opd) (w:Bool) (h:e9 as=false):e8 call (⟨d,.conv t,as,none,some (x,w)⟩::os) ⟨fr,τ,s⟩ k=obind (gv (x.read ⟨fr,τ,s⟩) w (p1 (M0 t call (as.map (·.read ⟨fr,τ,s⟩)) .undef s))) fun r=>e8 call os (d.put r ⟨fr,τ,s⟩) k:=m8 (by rw[h]; rfl)
theorem d49 (f n:Nat) (x:Opd) (w:Bool) (h:e9 as=false):e8 call (⟨d,.mkF f n,as,none,some (x,w)⟩::os) ⟨fr,τ,s⟩ k=obind (gv (x.read ⟨fr,τ,s⟩) w (p1 (R8 f n call (as.map (·.read ⟨fr,τ,s⟩)) .undef s))) fun r=>e8 call os (d.put r ⟨fr,τ,s⟩) k:=m8 (by rw[h]; rfl)
theorem c8q (a:Nat) (z:List AV) (b c:Bool) (x:Opd) (w:Bool) (h:e9 as=false):e8 call (⟨d,.mget a z b c,as,none,some (x,w)⟩::os) ⟨fr,τ,s⟩ k=obind (gv (x.read ⟨fr,τ,s⟩) w (p1 (Q1 a z b c call (as.map (·.read ⟨fr,τ,s⟩)) .undef s))) fun r=>e8 call os (d.put r ⟨fr,τ,s⟩) k:=m8 (by rw[h]; rfl)
theorem d4N (n:Nat) (x:Opd) (w:Bool) (h:e9 as=false):e8 call (⟨d,.ext n,as,none,some (x,w)⟩::os) ⟨fr,τ,s⟩ k=obind (gv (x.read ⟨fr,τ,s⟩) w (p1 (L9 n call (as.map (·.read ⟨fr,τ,s⟩)) .undef s))) fun r=>e8 call os (d.put r ⟨fr,τ,s⟩) k:=m8 (by rw[h]; rfl)
theorem d3X (n b:Nat) (x:Opd) (w:Bool) (h:e9 as=false):e8 call (⟨d,.app n b,as,none,some (x,w)⟩::os) ⟨fr,τ,s⟩ k=obind (gv (x.read ⟨fr,τ,s⟩) w (p1 (P5 n b call (as.map (·.read ⟨fr,τ,s⟩)) .undef s))) fun r=>e8 call os (d.put r ⟨fr,τ,s⟩) k:=m8 (by rw[h]; rfl)
theorem d17 (i:Nat) (g:Bool) (n:Nat) (j:Nat) (h:e9 as=false):e8 call (⟨d,.ldLc i g n,as,some j,none⟩::os) ⟨fr,τ,s⟩ k=obind (p1 (G6 i g n call (as.map (·.read ⟨fr,τ,s⟩)) (fr.getD j .undef) s)) fun r=>e8 call os (d.put r ⟨fr,τ,s⟩) k:=d4I (by rw[h]; rfl)
theorem c3a (i:Nat) (g:Bool) (n:Nat) (j:Nat) (x:Opd) (w:Bool) (h:e9 as=false):e8 call (⟨d,.ldLc i g n,as,some j,some (x,w)⟩::os) ⟨fr,τ,s⟩ k=obind (gv (x.read ⟨fr,τ,s⟩) w (p1 (G6 i g n call (as.map (·.read ⟨fr,τ,s⟩)) (fr.getD j .undef) s))) fun r=>e8 call os (d.put r ⟨fr,τ,s⟩) k:=m8 (by rw[h]; rfl)
theorem b78 (z:List AV):e8 call (⟨d,.allocO z,as,none,none⟩::os) ⟨fr,τ,s⟩ k=obind (p2 (E1 z call (as.map (·.read ⟨fr,τ,s⟩)) .undef s)) fun x=>e8 call os (d.put x.1 { d9 as ⟨fr,τ,s⟩with st:=x.2 }) k:=T0 call d as os ⟨fr,τ,s⟩ k
theorem b5u (z:List AV) (x:Opd) (w:Bool) (h:e9 as=false):e8 call (⟨d,.allocO z,as,none,some (x,w)⟩::os) ⟨fr,τ,s⟩ k=obind (gv2 (x.read ⟨fr,τ,s⟩) w s (p2 (E1 z call (as.map (·.read ⟨fr,τ,s⟩)) .undef s))) fun r=>e8 call os (d.put r.1 ⟨fr,τ,r.2⟩) k:=M7 rfl rfl h
theorem c6H:e8 call (⟨d,.boxO,as,none,none⟩::os) ⟨fr,τ,s⟩ k=obind (p2 (J3 call (as.map (·.read ⟨fr,τ,s⟩)) .undef s)) fun x=>e8 call os (d.put x.1 { d9 as ⟨fr,τ,s⟩with st:=x.2 }) k:=T0 call d as os ⟨fr,τ,s⟩ k
theorem c4Y (x:Opd) (w:Bool) (h:e9 as=false):e8 call (⟨d,.boxO,as,none,some (x,w)⟩::os) ⟨fr,τ,s⟩ k=obind (gv2 (x.read ⟨fr,τ,s⟩) w s (p2 (J3 call (as.map (·.read ⟨fr,τ,s⟩)) .undef s))) fun r=>e8 call os (d.put r.1 ⟨fr,τ,r.2⟩) k:=M7 rfl rfl h
theorem b5L (q:Nat) (z:List (List AV)) (t:List Nat):e8 call (⟨d,.bsliceO q z t,as,none,none⟩::os) ⟨fr,τ,s⟩ k=obind (p2 (E9 q z t call (as.map (·.read ⟨fr,τ,s⟩)) .undef s)) fun x=>e8 call os (d.put x.1 { d9 as ⟨fr,τ,s⟩with st:=x.2 }) k:=T0 call d as os ⟨fr,τ,s⟩ k
theorem b29 (q:Nat) (z:List (List AV)) (t:List Nat) (x:Opd) (w:Bool) (h:e9 as=false):e8 call (⟨d,.bsliceO q z t,as,none,some (x,w)⟩::os) ⟨fr,τ,s⟩ k=obind (gv2 (x.read ⟨fr,τ,s⟩) w s (p2 (E9 q z t call (as.map (·.read ⟨fr,τ,s⟩)) .undef s))) fun r=>e8 call os (d.put r.1 ⟨fr,τ,r.2⟩) k:=M7 rfl rfl h
theorem d0M (n b:Nat):e8 call (⟨d,.appM n b,as,none,none⟩::os) ⟨fr,τ,s⟩ k=obind (p2 (C0 n b call (as.map (·.read ⟨fr,τ,s⟩)) .undef s)) fun x=>e8 call os (d.put x.1 { d9 as ⟨fr,τ,s⟩with st:=x.2 }) k:=T0 call d as os ⟨fr,τ,s⟩ k
theorem c1b (n b:Nat) (x:Opd) (w:Bool) (h:e9 as=false):e8 call (⟨d,.appM n b,as,none,some (x,w)⟩::os) ⟨fr,τ,s⟩ k=obind (gv2 (x.read ⟨fr,τ,s⟩) w s (p2 (C0 n b call (as.map (·.read ⟨fr,τ,s⟩)) .undef s))) fun r=>e8 call os (d.put r.1 ⟨fr,τ,r.2⟩) k:=M7 rfl rfl h
theorem b7k (n:Nat):e8 call (⟨d,.ldStSR n,as,none,none⟩::os) ⟨fr,τ,s⟩ k=obind (p2 (D3 n call (as.map (·.read ⟨fr,τ,s⟩)) .undef s)) fun x=>e8 call os (d.put x.1 { d9 as ⟨fr,τ,s⟩with st:=x.2 }) k:=T0 call d as os ⟨fr,τ,s⟩ k
theorem b5Z (n:Nat) (x:Opd) (w:Bool) (h:e9 as=false):e8 call (⟨d,.ldStSR n,as,none,some (x,w)⟩::os) ⟨fr,τ,s⟩ k=obind (gv2 (x.read ⟨fr,τ,s⟩) w s (p2 (D3 n call (as.map (·.read ⟨fr,τ,s⟩)) .undef s))) fun r=>e8 call os (d.put r.1 ⟨fr,τ,r.2⟩) k:=M7 rfl rfl h
theorem c0s (n:Nat):e8 call (⟨d,.stStA n,as,none,none⟩::os) ⟨fr,τ,s⟩ k=obind (p2 (C6 n call (as.map (·.read ⟨fr,τ,s⟩)) .undef s)) fun x=>e8 call os (d.put x.1 { d9 as ⟨fr,τ,s⟩with st:=x.2 }) k:=T0 call d as os ⟨fr,τ,s⟩ k
theorem b7S (n:Nat) (x:Opd) (w:Bool) (h:e9 as=false):e8 call (⟨d,.stStA n,as,none,some (x,w)⟩::os) ⟨fr,τ,s⟩ k=obind (gv2 (x.read ⟨fr,τ,s⟩) w s (p2 (C6 n call (as.map (·.read ⟨fr,τ,s⟩)) .undef s))) fun r=>e8 call os (d.put r.1 ⟨fr,τ,r.2⟩) k:=M7 rfl rfl h
theorem c3W (f m:Nat):e8 call (⟨d,.callA f m,as,none,none⟩::os) ⟨fr,τ,s⟩ k=obind (p2 (C9 f m call (as.map (·.read ⟨fr,τ,s⟩)) .undef s)) fun x=>e8 call os (d.put x.1 { d9 as ⟨fr,τ,s⟩with st:=x.2 }) k:=T0 call d as os ⟨fr,τ,s⟩ k
theorem b7U (f m:Nat) (x:Opd) (w:Bool) (h:e9 as=false):e8 call (⟨d,.callA f m,as,none,some (x,w)⟩::os) ⟨fr,τ,s⟩ k=obind (gv2 (x.read ⟨fr,τ,s⟩) w s (p2 (C9 f m call (as.map (·.read ⟨fr,τ,s⟩)) .undef s))) fun r=>e8 call os (d.put r.1 ⟨fr,τ,r.2⟩) k:=M7 rfl rfl h
theorem c33:e8 call (⟨d,.ldStS,as,none,none⟩::os) ⟨fr,τ,s⟩ k=obind (p2 (B6 call (as.map (·.read ⟨fr,τ,s⟩)) .undef s)) fun x=>e8 call os (d.put x.1 { d9 as ⟨fr,τ,s⟩with st:=x.2 }) k:=T0 call d as os ⟨fr,τ,s⟩ k
theorem b8X (x:Opd) (w:Bool) (h:e9 as=false):e8 call (⟨d,.ldStS,as,none,some (x,w)⟩::os) ⟨fr,τ,s⟩ k=obind (gv2 (x.read ⟨fr,τ,s⟩) w s (p2 (B6 call (as.map (·.read ⟨fr,τ,s⟩)) .undef s))) fun r=>e8 call os (d.put r.1 ⟨fr,τ,r.2⟩) k:=M7 rfl rfl h
theorem d2d (n:Nat):e8 call (⟨d,.stSt n,as,none,none⟩::os) ⟨fr,τ,s⟩ k=obind (p2 (D5 n call (as.map (·.read ⟨fr,τ,s⟩)) .undef s)) fun x=>e8 call os (d.put x.1 { d9 as ⟨fr,τ,s⟩with st:=x.2 }) k:=T0 call d as os ⟨fr,τ,s⟩ k
theorem c0D (n:Nat) (x:Opd) (w:Bool) (h:e9 as=false):e8 call (⟨d,.stSt n,as,none,some (x,w)⟩::os) ⟨fr,τ,s⟩ k=obind (gv2 (x.read ⟨fr,τ,s⟩) w s (p2 (D5 n call (as.map (·.read ⟨fr,τ,s⟩)) .undef s))) fun r=>e8 call os (d.put r.1 ⟨fr,τ,r.2⟩) k:=M7 rfl rfl h
theorem d3d:e8 call (⟨d,.mkM,as,none,none⟩::os) ⟨fr,τ,s⟩ k=obind (p2 (S7 call (as.map (·.read ⟨fr,τ,s⟩)) .undef s)) fun x=>e8 call os (d.put x.1 { d9 as ⟨fr,τ,s⟩with st:=x.2 }) k:=T0 call d as os ⟨fr,τ,s⟩ k
theorem c69 (x:Opd) (w:Bool) (h:e9 as=false):e8 call (⟨d,.mkM,as,none,some (x,w)⟩::os) ⟨fr,τ,s⟩ k=obind (gv2 (x.read ⟨fr,τ,s⟩) w s (p2 (S7 call (as.map (·.read ⟨fr,τ,s⟩)) .undef s))) fun r=>e8 call os (d.put r.1 ⟨fr,τ,r.2⟩) k:=M7 rfl rfl h
theorem c7Z (n:Nat):e8 call (⟨d,.mset n,as,none,none⟩::os) ⟨fr,τ,s⟩ k=obind (p2 (P9 n call (as.map (·.read ⟨fr,τ,s⟩)) .undef s)) fun x=>e8 call os (d.put x.1 { d9 as ⟨fr,τ,s⟩with st:=x.2 }) k:=T0 call d as os ⟨fr,τ,s⟩ k
theorem c0R (n:Nat) (x:Opd) (w:Bool) (h:e9 as=false):e8 call (⟨d,.mset n,as,none,some (x,w)⟩::os) ⟨fr,τ,s⟩ k=obind (gv2 (x.read ⟨fr,τ,s⟩) w s (p2 (P9 n call (as.map (·.read ⟨fr,τ,s⟩)) .undef s))) fun r=>e8 call os (d.put r.1 ⟨fr,τ,r.2⟩) k:=M7 rfl rfl h
theorem c9z (f:Nat):e8 call (⟨d,.call f,as,none,none⟩::os) ⟨fr,τ,s⟩ k=obind (p2 (n4 f call (as.map (·.read ⟨fr,τ,s⟩)) .undef s)) fun x=>e8 call os (d.put x.1 { d9 as ⟨fr,τ,s⟩with st:=x.2 }) k:=T0 call d as os ⟨fr,τ,s⟩ k
theorem c4k (f:Nat) (x:Opd) (w:Bool) (h:e9 as=false):e8 call (⟨d,.call f,as,none,some (x,w)⟩::os) ⟨fr,τ,s⟩ k=obind (gv2 (x.read ⟨fr,τ,s⟩) w s (p2 (n4 f call (as.map (·.read ⟨fr,τ,s⟩)) .undef s))) fun r=>e8 call os (d.put r.1 ⟨fr,τ,r.2⟩) k:=M7 rfl rfl h
theorem c01:e8 call (⟨d,.callV,as,none,none⟩::os) ⟨fr,τ,s⟩ k=obind (p2 (D6 call (as.map (·.read ⟨fr,τ,s⟩)) .undef s)) fun x=>e8 call os (d.put x.1 { d9 as ⟨fr,τ,s⟩with st:=x.2 }) k:=T0 call d as os ⟨fr,τ,s⟩ k
theorem b9c (x:Opd) (w:Bool) (h:e9 as=false):e8 call (⟨d,.callV,as,none,some (x,w)⟩::os) ⟨fr,τ,s⟩ k=obind (gv2 (x.read ⟨fr,τ,s⟩) w s (p2 (D6 call (as.map (·.read ⟨fr,τ,s⟩)) .undef s))) fun r=>e8 call os (d.put r.1 ⟨fr,τ,r.2⟩) k:=M7 rfl rfl h
theorem c4u (z:List AV) (j:Nat):e8 call (⟨d,.alloc z,as,some j,none⟩::os) ⟨fr,τ,s⟩ k=obind (O0 z call (as.map (·.read ⟨fr,τ,s⟩)) (fr.getD j .undef) s) fun x=>e8 call os (d.put x.1 { d9 as ⟨fr,τ,s⟩with fr:=(d9 as ⟨fr,τ,s⟩).fr.set j x.2.1,st:=x.2.2 }) k:=a8e call d as os ⟨fr,τ,s⟩ k j
theorem c8G (j:Nat):e8 call (⟨d,.boxV,as,some j,none⟩::os) ⟨fr,τ,s⟩ k=obind (Q5 call (as.map (·.read ⟨fr,τ,s⟩)) (fr.getD j .undef) s) fun x=>e8 call os (d.put x.1 { d9 as ⟨fr,τ,s⟩with fr:=(d9 as ⟨fr,τ,s⟩).fr.set j x.2.1,st:=x.2.2 }) k:=a8e call d as os ⟨fr,τ,s⟩ k j
theorem c4T (i:Nat) (j:Nat):e8 call (⟨d,.ldLcS i,as,some j,none⟩::os) ⟨fr,τ,s⟩ k=obind (I5 i call (as.map (·.read ⟨fr,τ,s⟩)) (fr.getD j .undef) s) fun x=>e8 call os (d.put x.1 { d9 as ⟨fr,τ,s⟩with fr:=(d9 as ⟨fr,τ,s⟩).fr.set j x.2.1,st:=x.2.2 }) k:=a8e call d as os ⟨fr,τ,s⟩ k j
theorem c6C (i n:Nat) (j:Nat):e8 call (⟨d,.stLc i n,as,some j,none⟩::os) ⟨fr,τ,s⟩ k=obind (J2 i n call (as.map (·.read ⟨fr,τ,s⟩)) (fr.getD j .undef) s) fun x=>e8 call os (d.put x.1 { d9 as ⟨fr,τ,s⟩with fr:=(d9 as ⟨fr,τ,s⟩).fr.set j x.2.1,st:=x.2.2 }) k:=a8e call d as os ⟨fr,τ,s⟩ k j
theorem d8c (x:Opd) (w:Bool) (h:e9 as=false):e8 call (⟨d,.mv,as,none,some (x,w)⟩::os) ⟨fr,τ,s⟩ k=obind (gv (x.read ⟨fr,τ,s⟩) w (p1 (a0u call (as.map (·.read ⟨fr,τ,s⟩)) .undef s))) fun r=>e8 call os (d.put r ⟨fr,τ,s⟩) k:=m8 (by rw[h]; rfl)
theorem c6s (x:Opd) (w:Bool) (h:e9 as=false):e8 call (⟨d,.pick,as,none,some (x,w)⟩::os) ⟨fr,τ,s⟩ k=obind (gv (x.read ⟨fr,τ,s⟩) w (p1 (A9 call (as.map (·.read ⟨fr,τ,s⟩)) .undef s))) fun r=>e8 call os (d.put r ⟨fr,τ,s⟩) k:=m8 (by rw[h]; rfl)
theorem b9X (x:Opd) (w:Bool) (h:e9 as=false):e8 call (⟨d,.nilchk,as,none,some (x,w)⟩::os) ⟨fr,τ,s⟩ k=obind (gv (x.read ⟨fr,τ,s⟩) w (p1 (B8 call (as.map (·.read ⟨fr,τ,s⟩)) .undef s))) fun r=>e8 call os (d.put r ⟨fr,τ,s⟩) k:=m8 (by rw[h]; rfl)
theorem c6m (x:Opd) (w:Bool) (h:e9 as=false):e8 call (⟨d,.idxS,as,none,some (x,w)⟩::os) ⟨fr,τ,s⟩ k=obind (gv (x.read ⟨fr,τ,s⟩) w (p1 (I0 call (as.map (·.read ⟨fr,τ,s⟩)) .undef s))) fun r=>e8 call os (d.put r ⟨fr,τ,s⟩) k:=m8 (by rw[h]; rfl)
theorem d4B (x:Opd) (w:Bool) (h:e9 as=false):e8 call (⟨d,.slZ,as,none,some (x,w)⟩::os) ⟨fr,τ,s⟩ k=obind (gv (x.read ⟨fr,τ,s⟩) w (p1 (S6 call (as.map (·.read ⟨fr,τ,s⟩)) .undef s))) fun r=>e8 call os (d.put r ⟨fr,τ,s⟩) k:=m8 (by rw[h]; rfl)
theorem c5b (x:Opd) (w:Bool) (h:e9 as=false):e8 call (⟨d,.lenS,as,none,some (x,w)⟩::os) ⟨fr,τ,s⟩ k=obind (gv (x.read ⟨fr,τ,s⟩) w (p1 (M4 call (as.map (·.read ⟨fr,τ,s⟩)) .undef s))) fun r=>e8 call os (d.put r ⟨fr,τ,s⟩) k:=m8 (by rw[h]; rfl)
theorem d0D (x:Opd) (w:Bool) (h:e9 as=false):e8 call (⟨d,.lenL,as,none,some (x,w)⟩::os) ⟨fr,τ,s⟩ k=obind (gv (x.read ⟨fr,τ,s⟩) w (p1 (G5 call (as.map (·.read ⟨fr,τ,s⟩)) .undef s))) fun r=>e8 call os (d.put r ⟨fr,τ,s⟩) k:=m8 (by rw[h]; rfl)
theorem d3W (x:Opd) (w:Bool) (h:e9 as=false):e8 call (⟨d,.b2s,as,none,some (x,w)⟩::os) ⟨fr,τ,s⟩ k=obind (gv (x.read ⟨fr,τ,s⟩) w (p1 (P4 call (as.map (·.read ⟨fr,τ,s⟩)) .undef s))) fun r=>e8 call os (d.put r ⟨fr,τ,s⟩) k:=m8 (by rw[h]; rfl)
end
def VV:=(AX (AX (AX (AX (AX (AX @c6b (AX @b5a @b4p)) (AX (AX @d9a @d5u) (AX @d80 @d2X))) (AX (AX (AX @e0e @d8z) (AX @d3U @put_t)) (AX (AX @put_v @d4C) (AX @d3x @d9w)))) (AX (AX (AX (AX @d88 @d6R) (AX @d9C @d97)) (AX (AX @d8d @d3k) (AX @d3D @d9b))) (AX (AX (AX @d7e @d7k) (AX @d7O @d9D)) (AX (AX @c8J @b8I) (AX @c2k @b7M))))) (AX (AX (AX (AX @b5f (AX @c5M @c91)) (AX (AX @c9q @c1E) (AX @d4D @d2D))) (AX (AX (AX @d42 @c7g) (AX @c7z @d4i)) (AX (AX @d2z @d39) (AX @d2g @d2x)))) (AX (AX (AX (AX @d1F @c6u) (AX @d5H @c6I)) (AX (AX @d4A @c8C) (AX @d4s @d0Z))) (AX (AX (AX @c9X @d2V) (AX @d4x @c4S)) (AX (AX @b8V @b5e) (AX @c62 @d1v)))))) (AX (AX (AX (AX (AX @d16 (AX @c3n @d3a)) (AX (AX @d3q @d5q) (AX @d02 @d34))) (AX (AX (AX @d2G @d28) (AX @d4c @c5T)) (AX (AX @d1B @d6s) (AX @c7U @d49)))) (AX (AX (AX (AX @c8q @d4N) (AX @d3X @d17)) (AX (AX @c3a @b78) (AX @b5u @c6H))) (AX (AX (AX @c4Y @b5L) (AX @b29 @d0M)) (AX (AX @c1b @b7k) (AX @b5Z @c0s))))) (AX (AX (AX (AX (AX @b7S @c3W) (AX @b7U @c33)) (AX (AX @b8X @d2d) (AX @c0D @d3d))) (AX (AX (AX @c69 @c7Z) (AX @c0R @c9z)) (AX (AX @c4k @c01) (AX @b9c @c4u)))) (AX (AX (AX (AX @c8G @c4T) (AX @c6C @e0N)) (AX (AX @d9K @d5J) (AX @e0X @d7n))) (AX (AX (AX @d8c @c6s) (AX @b9X @c6m)) (AX (AX @d4B @c5b) (AX @d0D @d3W)))))))
end Go.Cb.V
namespace Go.Cb.G
open Go Go.Cb
def spC (j:d8) (kill:List Nat) (ops:List AOper) (i:Nat) (fr:List AV) (st:St):Option (Sig×AOper×List AOper):=match g9 j (ops.take i) ⟨i6 kill fr,fun _=>.undef,st⟩,ops.drop i with
 | some σ,o::os=>some (σ,o,os)
 | _,_=>none
def a4x (j:d8) (kill:List Nat) (ops:List AOper) (i:Nat) (fr:List AV) (st:St):Option (Nat×List AV×St):=match spC j kill ops i fr st with
 | some (σ,⟨_,.call f,args,none,none⟩,_)=>if m4 (args.map (·.read σ))then some (f,(args.map (·.read σ)).map AV.weak,σ.st)else none
 | _=>none
def a2p (l:d8) (kill:List Nat) (ops:List AOper) (i:Nat) (x:Opd) (fr:List AV) (st:St) (r:AV) (j:St):Option (AV×List AV×St):=match spC l kill ops i fr st with
 | some (σ,o,os)=>match g9 l os (o.dst.put r { d9 o.args σ with st:=j })with
  | some σ=>some (x.read σ,σ.fr,σ.st)
  | none=>none
 | none=>none
theorem a7N {c u:d8} (z:P1 u c) {kill:List Nat} {ops:List AOper} {i f:Nat} {as:List AV} {B:St} {r:AV} {l:St} {fr:List AV} {st:St} {x:Opd} {v:AV} {y:List AV} {st':St}
 (t:a4x u kill ops i fr st=some (f,as,B)) (F:c f as B=some (r,l)) (j:a2p u kill ops i x fr st r l=some (v,y,st')) :
 ∃ σ,g9 c ops ⟨i6 kill fr,fun _=>.undef,st⟩=some σ∧x.read σ=v∧σ.fr=y∧σ.st=st':=by
 unfold a4x at t;unfold a2p at j;cases hs:spC u kill ops i fr st with
 | none=>rw[hs]at j; cases j
 | some p =>
  obtain⟨σ,o,os⟩:=p;rw[hs]at t j;dsimp only at t j;unfold spC at hs;split at hs<;>try (cases hs; done)
  rename_i N o0 M J G;cases hs;split at t<;>try (cases t; done)
  rename_i D;obtain⟨⟩:=Prod.mk.inj (Option.some.inj D);rename_i dst O args _ e1 e2;obtain⟨rfl,rfl⟩:=Prod.mk.inj e2;subst e1;split at t<;>try (cases t; done)
  rename_i I;cases t;cases C:g9 u os ((Dst.put dst r { d9 args σ with st:=l }))with
  | none=>rw[C]at j; cases j
  | some σ2 =>
   rw[C]at j;cases j;refine⟨σ2,?_,rfl,rfl,rfl⟩;rw[← List.take_append_drop i ops,a6b,R9 z J,G];dsimp only;rw[g9];have E:i7 c ⟨dst,.call f,args,none,none⟩ σ=some (Dst.put dst r { d9 args σ with st:=l }):=by show y9 c _ σ=_;rw[J5];simp only[sem,n4,I,if_true,F,AN]
   rw[E];exact R9 z C
section
variable {tbl:Nat→Option AFn}
theorem gle (k m:Nat) (h:k≤m):P1 (callG tbl k) (j0 tbl m):=fun f as st r i=>E8 h _ _ _ _ (W9 k _ _ _ _ i)
theorem c0n {k:Nat} {kill:List Nat} {ops:List AOper} {i f:Nat} {as:List AV} {l:St} {r:AV} {t:St} {fr:List AV} {st:St} {v:AV} {j:List AV} {st':St}
 (u:a4x (callG tbl k) kill ops i fr st=some (f,as,l)) (y:Ev tbl f as l r t) (x:a2p (callG tbl k) kill ops i (.c .undef) fr st r t=some (v,j,st')):XC tbl (.reg kill ops) fr st (.normal,j,st'):=by
 obtain⟨m,hm⟩:=y;obtain⟨σ,g1,g2,g3,g4⟩:=a7N (gle k (max m k) (Nat.le_max_right m k)) u (E8 (Nat.le_max_left m k) _ _ _ _ hm) x;exact⟨max m k,by rw[exec,g1]; simp only[fL_eq,g3,g4]⟩
theorem b7x {k:Nat} {kill:List Nat} {ops:List AOper} {i f:Nat} {as:List AV} {u:St} {r:AV} {z:St} {fr:List AV} {st:St} {x:Opd} {a b:ACode} {y:Bool} {l:List AV} {st':St} {out:Out}
 (B:a4x (callG tbl k) kill ops i fr st=some (f,as,u)) (E:Ev tbl f as u r z) (C:a2p (callG tbl k) kill ops i x fr st r z=some (.bool y,l,st')) (D:XC tbl (bif y then a else b) l st' out):XC tbl (.test kill ops x a b) fr st out:=by
 obtain⟨m,hm⟩:=E;obtain⟨j,F⟩:=D;obtain⟨σ,g1,g2,g3,g4⟩:=a7N (gle k (max (max m k) j) (Nat.le_trans (Nat.le_max_right m k) (Nat.le_max_left _ _))) B (E8 (Nat.le_trans (Nat.le_max_left m k) (Nat.le_max_left _ _)) _ _ _ _ hm) C;refine⟨max (max m k) j,?_⟩;have t:=r8 (E8 (tbl:=tbl) (Nat.le_max_right (max m k) j)) (Nat.le_max_right (max m k) j) F;rw[exec,g1];dsimp only;rw[g2];cases y
 · simpa only [fL_eq,g3,g4,cond_true,cond_false]using t
 · simpa only [fL_eq,g3,g4,cond_true,cond_false]using t
def tst (i:d8) (kill:List Nat) (ops:List AOper) (x:Opd) (fr:List AV) (st:St):Option (AV×List AV×St):=match g9 i ops ⟨i6 kill fr,fun _=>.undef,st⟩with
 | some σ=>some (x.read σ,σ.fr,σ.st)
 | none=>none
theorem b0F {k:Nat} {kill:List Nat} {ops:List AOper} {fr:List AV} {st:St} {x:Opd} {a b:ACode} {y:Bool} {l:List AV} {st':St} {out:Out} (i:tst (callG tbl k) kill ops x fr st=some (.bool y,l,st')) (z:XC tbl (bif y then a else b) l st' out):XC tbl (.test kill ops x a b) fr st out:=by
 obtain⟨j,B⟩:=z;unfold tst at i;cases u:g9 (callG tbl k) ops ⟨i6 kill fr,fun _=>.undef,st⟩with
 | none=>rw[u]at i; cases i
 | some σ =>
  rw[u]at i;simp only[AC,AH]at i;obtain⟨g2,g3,g4⟩:=i;refine⟨max k j,?_⟩;have t:=r8 (E8 (tbl:=tbl) (Nat.le_max_right k j)) (Nat.le_max_right k j) B;rw[exec,R9 (gle k (max k j) (Nat.le_max_left k j)) u];dsimp only;rw[g2];cases y
  · simpa only [fL_eq,g3,g4,cond_true,cond_false]using t
  · simpa only [fL_eq,g3,g4,cond_true,cond_false]using t
theorem c1I {id:Nat} {a:ACode} {fr i:List AV} {st j:St} (h:XC tbl a fr st (.exit id,i,j)):XC tbl (.blk id a) fr st (.normal,i,j):=by
 have:=XC.blk (id:=id) h
 rwa [if_pos rfl]at this
theorem c3m {id:Nat} {a:ACode} {fr i:List AV} {st j:St} {e:Ex} (h:XC tbl a fr st (e,i,j)) (l:a7d e (.exit id)=false):XC tbl (.blk id a) fr st (e,i,j):=by
 have:=XC.blk (id:=id) h
 rwa [if_neg (fun e1=>by subst e1; simp[a7d]at l)]at this
def b0M (body:List AV→St→Option Out):Nat→List AV→St→Option (List AV×St)
 | 0,fr,st=>some (fr,st)
 | n+1,fr,st=>match body fr st with
  | some (.normal,fr,st)=>b0M body n fr st
  | _=>none
theorem c2i {k m:Nat} {a:ACode} {fr i:List AV} {st j:St} {out:Out} (h:b0M (exec (callG tbl k) k a) m fr st=some (i,j)) (t:LX tbl a i j out):LX tbl a fr st out:=by
 induction m generalizing fr st with
 | zero=>simp only[b0M,AC,AH]at h; obtain⟨rfl,rfl⟩:=h; exact t
 | succ m x =>
  simp only[b0M]at h;split at h
  · rename_i l st2 u;exact LX.step (a8X u) (x h)
  · cases h
theorem e0Y {k m:Nat} {a:ACode} {fr:List AV} {st:St} {out:Out} (h:E5 (exec (callG tbl k) k a) m fr st=some out):LX tbl a fr st out :=
 ⟨k,m,a2F (fun _ _ _ i=>r8 (W9 k) (AJ k) i) (AJ m) h⟩
theorem FX.of {rs:List ResK} {code:ACode} {fr:List AV} {st:St} {v:AV} {out:Out} {st':St} (h:XC tbl code fr st out) (i:fin rs (some out)=some (v,st')):FX tbl rs code fr st v:=⟨out,st',h,i⟩
end
end Go.Cb.G
