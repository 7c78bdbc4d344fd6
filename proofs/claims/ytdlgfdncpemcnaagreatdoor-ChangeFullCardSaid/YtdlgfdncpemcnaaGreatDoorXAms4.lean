import Derived.Test.YtdlgfdncpemcnaaGreatDoorXAms3
import Derived.Test.YtdlgfdncpemcnaaGreatDoorXAms2
import Derived.Defers
import Derived.Laws.CopyRow
import Derived.Laws.Externs
/-
 THE ABSTRACT MACHINE, part 53: code and calls at a store that has more in it.
-/
set_option maxRecDepth 4000
set_option linter.unusedVariables false
set_option linter.unusedSimpArgs false
namespace Go.Cb
open Classical
section
variable {L:Nat} {ext:St} {call:b5} {as:List AV} {bx:AV} {st:St}
theorem c73 {kc:Nat} {z:List AV} {ag ok:Bool} (hz:B2 z=true) (hL:L≤st.length):SemSh L ext (M7 kc z ag ok call) as bx st:=SemSh.of hL fun r b s h=>by
 have hz':z.map (AV.sh L ext.length)=z:=by rw [← i8,r6 _ _ _ hz]
 have key:∀ (k:AV) (es:List (AV×AV)),(match q6 kc k es 0 with
  | some r=>match (match r with|some (_,v)=>some v|none=>g8 ag z.length z) with
   | some v=>some (if ok then AV.tuple [v,.bool r.isSome] else v,bx,st)
   | none=>none
  | none=>none)=some (r,b,s)→s=st∧(match q6 kc (k.sh L ext.length) (es.map fun e=>(e.1.sh L ext.length,e.2.sh L ext.length)) 0 with
  | some r=>match (match r with|some (_,v)=>some v|none=>g8 ag z.length z) with
   | some v=>some (if ok then AV.tuple [v,.bool r.isSome] else v,bx.sh L ext.length,shS L ext st)
   | none=>none
  | none=>none)=some (r.sh L ext.length,b.sh L ext.length,shS L ext st):=by
  intro k es h
  rw [a3y]
  cases hm:q6 kc k es 0 with
  | none=>rw [hm] at h; cases h
  | some o =>
   rw [hm] at h
   cases o with
   | some p =>
    obtain ⟨i,v⟩:=p
    dsimp only [Option.map_some] at h ⊢
    cases h
    refine ⟨rfl,?_⟩
    cases ok <;> rfl
   | none =>
    dsimp only [Option.map_some,Option.map_none] at h ⊢
    have ht:=A0 (L:=L) (d:=ext.length) ag z.length z
    rw [hz'] at ht
    cases hv:g8 ag z.length z with
    | none=>rw [hv] at h; cases h
    | some v =>
     rw [hv] at h ht
     have e:v.sh L ext.length=v:=by simpa using ht.symm
     dsimp only at h ⊢
     cases h
     refine ⟨rfl,?_⟩
     cases ok
     · simp only [Bool.false_eq_true,if_false,e]
     · simp only [if_true,AV.sh,D7,e]
 unfold M7 at h ⊢
 dsimp only at h ⊢
 split at h
 · rename_i k
   exact key k [] h
 · rename_i o k
   split at h
   · rename_i es ho
     simp only [List.map_cons,List.map_nil,AV.sh,b5E hL ho]
     exact key k es h
   · cases h
 · cases h
theorem e3y {kc:Nat} (hL:L≤st.length):SemSh L ext (N1 kc call) as bx st:=by
 rintro ⟨r,b,s⟩ h
 unfold N1 at h
 split at h
 · rename_i o k v
   split at h
   · rename_i hp
     split at h
     · rename_i es ho
       simp only [N1,List.map_cons,List.map_nil,AV.sh,D6,hp,if_true,b5E hL ho,a3y]
       cases hm:q6 kc k es 0 with
       | none=>rw [hm] at h; cases h
       | some q =>
        rw [hm] at h
        cases q with
        | some p =>
         obtain ⟨i,w⟩:=p
         dsimp only [Option.map_some] at h ⊢
         cases h
         refine ⟨?_,by simpa using hL⟩
         simp only [shR,Q7 hL,Obj.sh,List.map_set,J6]
         rfl
        | none =>
         dsimp only [Option.map_some,Option.map_none] at h ⊢
         rw [a7a]
         cases hk:C3 kc k k with
         | none=>rw [hk] at h; cases h
         | some e =>
          rw [hk] at h
          simp only [Option.bind_some] at h ⊢
          cases h
          refine ⟨?_,by simpa using hL⟩
          simp only [shR,Q7 hL,Obj.sh,List.map_append,List.map_cons,List.map_nil,J6]
          rfl
     · cases h
   · cases h
 · cases h
theorem i5W {i:Nat} (hL:L≤st.length):SemSh L ext (K0 i call) as bx st:=SemSh.of hL fun r b s h=>by
 unfold K0 at h
 split at h
 · split at h
   · rename_i v hv
     cases h
     refine ⟨rfl,?_⟩
     simp only [K0,List.map_cons,List.map_nil,AV.sh,i8,List.getElem?_map,hv,Option.map_some,J6]
   · cases h
 · cases h
theorem a9i {f:Nat} (hc:K5 L ext call) (hL:L≤st.length):SemSh L ext (l3 f call) as bx st:=by
 rintro ⟨r,b,s⟩ h
 unfold l3 at h ⊢
 split at h
 · rename_i hp
   obtain ⟨⟨v,s'⟩,h1,h2⟩:=k9 h
   cases h2
   obtain ⟨h3,h4⟩:=hc _ _ _ _ _ hL h1
   refine ⟨?_,h4⟩
   rw [R6,if_pos hp,← a3z,h3]
   rfl
 · cases h
theorem b4T (hc:K5 L ext call) (hL:L≤st.length):SemSh L ext (D5 call) as bx st:=by
 rintro ⟨r,b,s⟩ h
 unfold D5 at h
 split at h
 · rename_i f first caps as'
   split at h
   · rename_i hp
     obtain ⟨⟨v,s'⟩,h1,h2⟩:=k9 h
     cases h2
     obtain ⟨h3,h4⟩:=hc _ _ _ _ _ hL h1
     refine ⟨?_,h4⟩
     simp only [D5,List.map_cons,AV.sh,i8]
     rw [R6,if_pos hp,← List.map_append,← List.map_append,← a3z,h3]
     rfl
   · cases h
 · cases h
theorem b3G {f m:Nat} (hc:K5 L ext call) (hL:L≤st.length):SemSh L ext (r9 f m call) as bx st:=by
 rintro ⟨r,b,s⟩ h
 unfold r9 at h ⊢
 cases hq:l3 f call (as.take m) bx st with
 | none=>rw [hq] at h; cases h
 | some x =>
  obtain ⟨v,b',s'⟩:=x
  rw [hq] at h
  dsimp only at h
  obtain ⟨h3,h4⟩:=a9i hc hL _ hq
  split at h
  · rename_i hk
    cases h
    refine ⟨?_,h4⟩
    rw [← List.map_take,h3,← List.map_drop]
    have hk':=a8R (L:=L) (ext:=ext) hL h4 _ hk
    simp only [shR]
    exact if_pos hk'
  · cases h
theorem d0K (hL:L≤st.length):SemSh L ext (N2 call) as bx st:=SemSh.of hL fun r b s h=>by
 unfold N2 at h
 split at h <;> first|(cases h; exact ⟨rfl,rfl⟩)|cases h
theorem e9g (hL:L≤st.length):SemSh L ext (J8 call) as bx st:=SemSh.of hL fun r b s h=>by
 unfold J8 at h
 split at h
 · cases h; exact ⟨rfl,by simp only [J8,List.map_cons,List.map_nil,AV.sh,m7,List.length_map]⟩
 · cases h; exact ⟨rfl,rfl⟩
 · cases h; exact ⟨rfl,rfl⟩
 · cases h
theorem h66 {n b':Nat} (hL:L≤st.length):SemSh L ext (O4 n b' call) as bx st:=SemSh.of hL fun r b s h=>by
 unfold O4 at h
 split at h
 · split at h
   · rename_i hc
     cases h
     refine ⟨rfl,?_⟩
     simp only [O4,List.map_cons,List.map_nil,AV.sh,m7,F2,List.length_map]
     rw [if_pos hc,List.map_append]
   · cases h
 · cases h
theorem e7T {n b':Nat} (hL:L≤st.length):SemSh L ext (A9 n b' call) as bx st:=by
 rintro ⟨r,b,s⟩ h
 unfold A9 at h
 split at h
 · split at h
   · rename_i hc
     cases h
     refine ⟨?_,by simp; omega⟩
     have ha:=Q5 (L:=L) (ext:=ext) hL none _ hc.2.2.2
     simp only [Option.map_none] at ha
     simp only [A9,List.map_cons,AV.sh,m7,List.isEmpty_map,F2,List.length_map,List.map_nil]
     rw [if_pos ⟨hc.1,hc.2.1,hc.2.2.1,ha⟩]
     simp only [shR,AV.sh,E9 hL,B9 hL,Obj.sh,U6]
   · cases h
 · split at h
   · rename_i hc
     cases h
     refine ⟨?_,by simp; omega⟩
     have ha:=Q5 (L:=L) (ext:=ext) hL none _ hc.2.2.2
     simp only [Option.map_none] at ha
     simp only [A9,List.map_cons,AV.sh,m7,List.isEmpty_map,F2,List.length_map]
     rw [if_pos ⟨hc.1,hc.2.1,hc.2.2.1,ha⟩]
     simp only [shR,AV.sh,E9 hL,B9 hL,Obj.sh,U6]
   · cases h
 · split at h
   · rename_i hc
     cases h
     refine ⟨?_,hL⟩
     have ha:=Q5 (L:=L) (ext:=ext) hL none _ hc
     simp only [Option.map_none] at ha
     simp only [A9,List.map_cons,AV.sh]
     rw [if_pos ha]
     simp only [shR,AV.sh]
   · cases h
 · rename_i o k sz ys gs
   split at h
   · rename_i xs ho
     split at h
     · rename_i hc
       cases h
       refine ⟨?_,by simp; omega⟩
       have ha:=Q5 (L:=L) (ext:=ext) hL (some o) _ hc.2.2.2.2.2
       simp only [Option.map_some] at ha
       simp only [A9,List.map_cons,AV.sh,m7,List.isEmpty_map,F2,List.length_map,J7 hL ho]
       rw [if_pos ⟨hc.1,hc.2.1,hc.2.2.1,hc.2.2.2.1,hc.2.2.2.2.1,ha⟩]
       simp only [shR,AV.sh,E9 (st:=st.set o .dead) (by simpa using hL),Q7 hL,B9 hL,Obj.sh,U6,List.map_append]
     · cases h
   · cases h
 · cases h
theorem c2e {b':Nat} (hL:L≤st.length):SemSh L ext (I8 b' call) as bx st:=SemSh.of hL fun r b s h=>by
 unfold I8 at h
 split at h
 · rename_i xs
   split at h
   · rename_i hc
     cases h
     refine ⟨rfl,?_⟩
     simp only [I8,List.map_cons,List.map_nil,AV.sh,m7,F2,List.length_map]
     rw [if_pos hc]
   · cases h
 · rename_i xs o n
   split at h
   · rename_i cs ho
     split at h
     · rename_i hc
       cases h
       refine ⟨rfl,?_⟩
       simp only [I8,List.map_cons,List.map_nil,AV.sh,m7,F2,List.length_map,J7 hL ho]
       rw [if_pos hc]
       simp only [shR,AV.sh,m7,List.map_append,List.map_map]
       rfl
     · cases h
   · cases h
 · cases h
theorem i40 (hL:L≤st.length):SemSh L ext (O5 call) as bx st:=SemSh.of hL fun r b s h=>by
 unfold O5 at h
 split at h
 · obtain ⟨a,h1,h2⟩:=k9 h
   cases h2
   refine ⟨rfl,?_⟩
   simp only [O5,List.map_cons,List.map_nil,AV.sh,m7,a4P,h1,Option.map_some]
 · cases h
theorem b4m {n:Nat} {ag:Bool} (hL:L≤st.length):SemSh L ext (s7 ag n call) as bx st:=by
 rintro x h
 unfold s7 at h
 split at h
 · rename_i o off r
   split at h
   · rename_i p hp
     split at h
     · rename_i he
       obtain ⟨h1,h2⟩:=a8S (call:=call) hL _ h
       refine ⟨?_,h2⟩
       have e:o=p:=by simpa using he
       subst e
       simp only [s7,List.map_cons,List.map_nil,AV.sh,Z9,hp,Option.map_some]
       rw [if_pos (by simp)]
       exact h1
     · cases h
   · cases h
 · cases h
theorem b2k {n:Nat} (hL:L≤st.length):SemSh L ext (v8 n call) as bx st:=by
 rintro x h
 unfold v8 at h
 split at h
 · rename_i o off p f
   split at h
   · rename_i he
     obtain ⟨h1,h2⟩:=a7u (call:=call) hL _ h
     refine ⟨?_,h2⟩
     have e:o=p:=by simpa using he.1
     subst e
     simp only [v8,List.map_cons,List.map_nil,AV.sh]
     rw [if_pos ⟨by simp,he.2⟩]
     exact h1
   · cases h
 · cases h
theorem b3K {n:Nat} (hL:L≤st.length):SemSh L ext (s6 n call) as bx st:=by
 rintro x h
 unfold s6 at h
 split at h
 · rename_i o off y r gs
   split at h
   · rename_i p hp
     split at h
     · rename_i he
       obtain ⟨h1,h2⟩:=a9f (call:=call) hL _ h
       refine ⟨?_,h2⟩
       have e:o=p:=by simpa using he.1
       subst e
       have ha:=Q5 (L:=L) (ext:=ext) hL (some o) _ he.2
       simp only [s6,List.map_cons,AV.sh,Z9,hp,Option.map_some] at ha ⊢
       rw [if_pos ⟨by simp,ha⟩]
       exact h1
     · cases h
   · cases h
 · cases h
theorem h1r {k:Kind} (hk:k.shut=true) (hc:K5 L ext call) (hL:L≤st.length):SemSh L ext (sem k call) as bx st:=by
 cases k
 case mv=>exact j16 (call:=call) hL
 case pick=>exact d05 (call:=call) hL
 case nilchk=>exact b1t (call:=call) hL
 case alloc z=>exact b4W (call:=call) hk hL
 case allocO z=>exact b14 (call:=call) hk hL
 case boxV=>exact f0P (call:=call) hL
 case boxO=>exact b9A (call:=call) hL
 case build z o=>exact b4u (call:=call) hk hL
 case bslice n z a=>exact b1U (call:=call) hk hL
 case bsliceM n z a=>exact b0o (call:=call) hk hL
 case bsliceO n z a=>exact b0L (call:=call) hk hL
 case min2=>exact d9L (call:=call) hL
 case stuck=>intro r h; cases h
 case eqIS neg=>exact d62 (call:=call) hL
 case ldLc=>exact e0D (call:=call) hL
 case ldSt=>exact a8S (call:=call) hL
 case ldRo=>exact e4f (call:=call) hL
 case ldAn=>exact e6Y (call:=call) hL
 case ldLcS=>exact b3t (call:=call) hL
 case ldStS=>exact a7u (call:=call) hL
 case ldStR=>exact b4m (call:=call) hL
 case ldStSR=>exact b2k (call:=call) hL
 case stStA=>exact b3K (call:=call) hL
 case callA=>exact b3G (call:=call) hc hL
 case stLc=>exact d5R (call:=call) hL
 case stSt=>exact a9f (call:=call) hL
 case fad=>exact h9k (call:=call) hL
 case fld=>exact g4A (call:=call) hL
 case iad=>exact f8D (call:=call) hL
 case iadA=>exact c5z (call:=call) hL
 case idxS=>exact e0x (call:=call) hL
 case slS=>exact h2J (call:=call) hL
 case slL=>exact f6i (call:=call) hL
 case slZ=>exact f3Q (call:=call) hL
 case slA=>exact g44 (call:=call) hL
 case bin=>exact f2V (call:=call) hL
 case binB=>exact d4x (call:=call) hL
 case binP=>exact e8b (call:=call) hL
 case un=>exact j29 (call:=call) hL
 case conv=>exact d0U (call:=call) hL
 case mkF=>exact i2n (call:=call) hL
 case mkM=>exact h2j (call:=call) hL
 case mget=>exact c73 (call:=call) hk hL
 case mset=>exact e3y (call:=call) hL
 case ext=>exact i5W (call:=call) hL
 case call=>exact a9i (call:=call) hc hL
 case callV=>exact b4T (call:=call) hc hL
 case lenS=>exact d0K (call:=call) hL
 case lenL=>exact e9g (call:=call) hL
 case app=>exact h66 (call:=call) hL
 case appM=>exact e7T (call:=call) hL
 case appA=>exact c2e (call:=call) hL
 case b2s=>exact i40 (call:=call) hL
end
def Opd.shut:Opd→Bool
 | .c a=>a.shut
 | _=>true
def AOper.shut (o:AOper):Bool:=o.kind.shut && o.args.all Opd.shut && (match o.guard with|some (x,_)=>x.shut|none=>true)
def ACode.shut:ACode→Bool
 | .reg _ ops=>ops.all AOper.shut
 | .test _ ops c a b=>ops.all AOper.shut && c.shut && a.shut && b.shut
 | .seq a b=>a.shut && b.shut
 | .blk _ a=>a.shut
 | .loop a=>a.shut
 | .either _ a b=>a.shut && b.shut
 | _=>true
section
variable {L:Nat} {ext:St} {call:b5}
def Sig.sh (L:Nat) (ext:St) (σ:Sig):Sig:=⟨σ.fr.map (AV.sh L ext.length),fun j=>(σ.τ j).sh L ext.length,shS L ext σ.st⟩
theorem J3 {d:Nat} (fr:List AV) (i:Nat):(fr.map (AV.sh L d)).getD i AV.undef=(fr.getD i AV.undef).sh L d:=by
 simp only [List.getD_eq_getElem?_getD,List.getElem?_map]
 cases fr[i]? <;> rfl
theorem a5h {x:Opd} (hx:x.shut=true) (σ:Sig):x.read (σ.sh L ext)=(x.read σ).sh L ext.length:=by
 cases x with
 | t s=>exact (J6 _).symm
 | ts s=>rfl
 | v i=>show ((σ.fr.map _).getD i AV.undef).weak=_; rw [J3,← J6]; rfl
 | vs i=>exact J3 _ _
 | l i =>
  show (match (σ.fr.map _).getD i AV.undef with|.box _=>AV.loc i 0|_=>AV.undef)=(match σ.fr.getD i AV.undef with|.box _=>AV.loc i 0|_=>AV.undef).sh L ext.length
  rw [J3]
  cases σ.fr.getD i AV.undef <;> rfl
 | c a=>exact (a5e _ _ _ hx).symm
theorem b3M (x:Opd) (σ:Sig):x.spend (σ.sh L ext)=(x.spend σ).sh L ext:=by
 cases x with
 | ts s =>
  show Sig.mk _ _ _=Sig.mk _ _ _
  congr 1
  funext j
  show m4 _ _ _ _=(m4 _ _ _ _).sh L ext.length
  unfold m4
  split
  · exact (J6 _).symm
  · rfl
 | vs i =>
  show Sig.mk _ _ _=Sig.mk _ _ _
  congr 1
  show (σ.fr.map _).set i ((σ.fr.map _).getD i AV.undef).weak=(σ.fr.set i (σ.fr.getD i AV.undef).weak).map _
  rw [J3,List.map_set,J6]
 | _=>rfl
theorem a3k:∀ (xs:List Opd) (σ:Sig),b6 xs (σ.sh L ext)=(b6 xs σ).sh L ext
 | [],_=>rfl
 | x::xs,σ=>by rw [b6,b6,b3M,a3k xs]
theorem a7Y (d:Dst) (a:AV) (σ:Sig):d.put (a.sh L ext.length) (σ.sh L ext)=(d.put a σ).sh L ext:=by
 cases d with
 | none=>rfl
 | bx=>rfl
 | t s =>
  show Sig.mk _ _ _=Sig.mk _ _ _
  congr 1
  funext j
  show m4 _ _ _ _=(m4 _ _ _ _).sh L ext.length
  unfold m4
  split
  · exact (b1I _).symm
  · rfl
 | v i =>
  show Sig.mk _ _ _=Sig.mk _ _ _
  congr 1
  show (σ.fr.map _).set i (a.sh L ext.length).strip=(σ.fr.set i a.strip).map _
  rw [List.map_set,b2X]
theorem a6P:∀ {xs:List Opd},xs.all Opd.shut=true→∀ σ:Sig,xs.map (·.read (σ.sh L ext))=(xs.map (·.read σ)).map (AV.sh L ext.length)
 | [],_,_=>rfl
 | x::xs,h,σ=>by
  simp only [List.all_cons,Bool.and_eq_true] at h
  rw [List.map_cons,List.map_cons,List.map_cons,a5h h.1,a6P h.2]
theorem a9h (hc:K5 L ext call) {o:AOper} (ho:o.shut=true) {σ σ':Sig} (hL:L≤σ.st.length) (h:m9 call o σ=some σ'):m9 call o (σ.sh L ext)=some (σ'.sh L ext)∧L≤σ'.st.length:=by
 have hst:∀ (d:Dst) (a:AV) (σ:Sig),(d.put a σ).st=σ.st:=fun d a σ=>by cases d <;> rfl
 unfold AOper.shut at ho
 simp only [Bool.and_eq_true] at ho
 obtain ⟨⟨hk,ha⟩,_⟩:=ho
 obtain ⟨r,b,s,hs,rfl⟩:=e9 h
 have hb:l0 o (σ.sh L ext)=(l0 o σ).sh L ext.length:=by
  unfold l0
  cases o.box with
  | none=>rfl
  | some i=>exact J3 _ _
 obtain ⟨h1,h2⟩:=h1r (L:=L) (ext:=ext) hk hc hL _ hs
 rw [← a6P ha,← hb] at h1
 refine ⟨?_,by rw [hst]; exact h2⟩
 rw [W6 h1,a3k]
 refine congrArg some (Eq.trans ?_ (a7Y (L:=L) (ext:=ext) o.dst r _))
 refine congrArg (o.dst.put _) ?_
 show Sig.mk _ _ _=Sig.mk _ _ _
 congr 1
 cases o.box with
 | none=>rfl
 | some i=>exact List.map_set.symm
theorem b1B (hc:K5 L ext call) {o:AOper} (ho:o.shut=true) {σ σ':Sig} (hL:L≤σ.st.length) (h:d8 call o σ=some σ'):d8 call o (σ.sh L ext)=some (σ'.sh L ext)∧L≤σ'.st.length:=by
 have hst:∀ (d:Dst) (a:AV) (σ:Sig),(d.put a σ).st=σ.st:=fun d a σ=>by cases d <;> rfl
 unfold d8 at h ⊢
 cases hg:o.guard with
 | none=>rw [hg] at h; exact a9h hc ho hL h
 | some xw =>
  obtain ⟨x,w⟩:=xw
  rw [hg] at h
  have hx:x.shut=true:=by
   unfold AOper.shut at ho
   simp only [Bool.and_eq_true,hg] at ho
   exact ho.2
  dsimp only at h ⊢
  rw [a5h hx]
  cases hr:x.read σ <;> rw [hr] at h <;> try cases h
  · dsimp only [AV.sh] at h ⊢
    split at h
    · rename_i hb; rw [if_pos hb]; exact a9h hc ho hL h
    · rename_i hb; rw [if_neg hb]; cases h; exact ⟨congrArg some (a7Y (ext:=ext) o.dst (.tuple []) σ),by rw [hst]; exact hL⟩
  · rename_i vs
    cases vs with
    | nil=>dsimp only at h; cases h; exact ⟨congrArg some (a7Y (ext:=ext) o.dst (.tuple []) σ),by rw [hst]; exact hL⟩
    | cons v vs=>cases h
theorem a1G (hc:K5 L ext call):∀ {os:List AOper},os.all AOper.shut=true→∀ {σ σ':Sig},L≤σ.st.length→b7 call os σ=some σ'→b7 call os (σ.sh L ext)=some (σ'.sh L ext)∧L≤σ'.st.length
 | [],_,σ,σ',hL,h=>by simp only [b7] at h ⊢; cases h; exact ⟨rfl,hL⟩
 | o::os,ho,σ,σ',hL,h=>by
  simp only [List.all_cons,Bool.and_eq_true] at ho
  simp only [b7] at h ⊢
  cases hs:d8 call o σ with
  | none=>rw [hs] at h; cases h
  | some σ1 =>
   rw [hs] at h
   obtain ⟨h1,h2⟩:=b1B hc ho.1 hL hs
   rw [h1]
   exact a1G hc ho.2 h2 h
theorem W2 {d:Nat}:∀ (is:List Nat) (fr:List AV),d9 is (fr.map (AV.sh L d))=(d9 is fr).map (AV.sh L d)
 | [],_=>rfl
 | i::is,fr=>by
  rw [d9,d9,← W2 is,List.map_set]
  rfl
def O7 (L:Nat) (ext:St) (o:Out):Out:=(o.1,o.2.1.map (AV.sh L ext.length),shS L ext o.2.2)
theorem a8Z {body:List AV→St→Option Out} (hb:∀ fr st o,L≤st.length→body fr st=some o→body (fr.map (AV.sh L ext.length)) (shS L ext st)=some (O7 L ext o)∧L≤o.2.2.length) :
 ∀ (n:Nat) {fr:List AV} {st:St} {o:Out},L≤st.length→r7 body n fr st=some o→r7 body n (fr.map (AV.sh L ext.length)) (shS L ext st)=some (O7 L ext o)∧L≤o.2.2.length
 | 0,_,_,_,_,h=>by simp [r7] at h
 | n+1,fr,st,o,hL,h=>by
  simp only [r7] at h ⊢
  cases hq:body fr st with
  | none=>rw [hq] at h; cases h
  | some x =>
   obtain ⟨e,fr1,st1⟩:=x
   rw [hq] at h
   obtain ⟨h1,h2⟩:=hb _ _ _ hL hq
   rw [h1]
   cases e with
   | normal=>exact a8Z hb n h2 h
   | exit id=>cases h; exact ⟨rfl,h2⟩
   | ret=>cases h; exact ⟨rfl,h2⟩
theorem E0 (hc:K5 L ext call) (n:Nat):∀ {x:ACode},x.shut=true→∀ {fr:List AV} {st:St} {o:Out},L≤st.length→exec call n x fr st=some o→exec call n x (fr.map (AV.sh L ext.length)) (shS L ext st)=some (O7 L ext o)∧L≤o.2.2.length
 | .skip,_,_,_,_,hL,h=>by simp only [exec] at h ⊢; cases h; exact ⟨rfl,hL⟩
 | .exit _,_,_,_,_,hL,h=>by simp only [exec] at h ⊢; cases h; exact ⟨rfl,hL⟩
 | .ret,_,_,_,_,hL,h=>by simp only [exec] at h ⊢; cases h; exact ⟨rfl,hL⟩
 | .reg kill ops,hs,fr,st,o,hL,h=>by
  simp only [exec,fL_eq] at h ⊢
  cases hq:b7 call ops ⟨d9 kill fr,fun _=>.undef,st⟩ with
  | none=>simp [hq] at h
  | some σ =>
   obtain ⟨h1,h2⟩:=a1G hc hs hL hq
   simp only [hq] at h
   cases h
   have e:(Sig.sh L ext ⟨d9 kill fr,fun _=>.undef,st⟩)=⟨d9 kill (fr.map (AV.sh L ext.length)),fun _=>.undef,shS L ext st⟩:=by
    rw [W2]; rfl
   rw [e] at h1
   rw [h1]
   exact ⟨rfl,h2⟩
 | .test kill ops c a b,hs,fr,st,o,hL,h=>by
  simp only [ACode.shut,Bool.and_eq_true] at hs
  obtain ⟨⟨⟨h1,h2⟩,h3⟩,h4⟩:=hs
  rw [a5u] at h ⊢
  rw [a0L] at h ⊢
  cases hq:b7 call ops ⟨d9 kill fr,fun _=>.undef,st⟩ with
  | none=>rw [hq] at h; cases h
  | some σ =>
   obtain ⟨k1,k2⟩:=a1G hc h1 hL hq
   have e:(Sig.sh L ext ⟨d9 kill fr,fun _=>.undef,st⟩)=⟨d9 kill (fr.map (AV.sh L ext.length)),fun _=>.undef,shS L ext st⟩:=by
    rw [W2]; rfl
   rw [e] at k1
   rw [hq,z7] at h
   rw [k1,z7,a5h h2]
   unfold br at h ⊢
   cases hr:c.read σ <;> rw [hr] at h <;> try cases h
   rename_i bb
   cases bb
   · exact E0 hc n h4 k2 h
   · exact E0 hc n h3 k2 h
 | .either kill a b,hs,fr,st,o,hL,h=>by
  simp only [ACode.shut,Bool.and_eq_true] at hs
  simp only [exec] at h ⊢
  obtain ⟨oa,ob,ea,eb,ka,kb⟩:=W4 h
  obtain ⟨a1,a2⟩:=E0 hc n hs.1 hL ea
  obtain ⟨b1,b2⟩:=E0 hc n hs.2 hL eb
  have hk:∀ x:Out,n6 kill (O7 L ext x)=O7 L ext (n6 kill x):=fun x=>by
   unfold n6 O7
   rw [W2]
  rw [a1,b1,a1l (by rw [hk,hk,ka,kb]),hk,ka]
  refine ⟨rfl,?_⟩
  rw [← ka]
  exact a2
 | .seq a b,hs,fr,st,o,hL,h=>by
  simp only [ACode.shut,Bool.and_eq_true] at hs
  rw [exec_seqK] at h ⊢
  cases hq:exec call n a fr st with
  | none=>rw [hq] at h; cases h
  | some x =>
   obtain ⟨e,fr1,st1⟩:=x
   obtain ⟨h1,h2⟩:=E0 hc n hs.1 hL hq
   rw [hq] at h
   rw [h1]
   cases e with
   | normal=>exact E0 hc n hs.2 h2 h
   | exit id=>cases h; exact ⟨rfl,h2⟩
   | ret=>cases h; exact ⟨rfl,h2⟩
 | .blk id a,hs,fr,st,o,hL,h=>by
  simp only [exec] at h ⊢
  cases hq:exec call n a fr st with
  | none=>rw [hq] at h; cases h
  | some x =>
   obtain ⟨e,fr1,st1⟩:=x
   obtain ⟨h1,h2⟩:=E0 hc n (x:=a) hs hL hq
   rw [hq] at h
   rw [h1]
   cases e with
   | normal=>cases h; exact ⟨rfl,h2⟩
   | exit id'=>cases h; exact ⟨rfl,h2⟩
   | ret=>cases h; exact ⟨rfl,h2⟩
 | .loop a,hs,fr,st,o,hL,h=>by
  simp only [exec] at h ⊢
  exact a8Z (fun fr st o hL h=>E0 hc n (x:=a) hs hL h) n hL h
def U7 (e:List AV→St→Option (AV×St)):Prop:=∀ (L:Nat) (ext:St) as st r st',L≤st.length→e as st=some (r,st')→e (as.map (AV.sh L ext.length)) (shS L ext st)=some (r.sh L ext.length,shS L ext st')∧L≤st'.length
def a1g (tbl:Nat→Option AFn):Prop:=∀ f fn,tbl f=some fn→fn.code.shut=true∧∀ e,fn.ext=some e→U7 e
theorem b1b (r:ResK) (fr:List AV) {st:St} (hL:L≤st.length):r.get (fr.map (AV.sh L ext.length)) (shS L ext st)=(r.get fr st).map (AV.sh L ext.length):=by
 cases r with
 | po i ag n =>
  simp only [ResK.get]
  rw [J3]
  cases fr.getD i AV.undef <;> try rfl
  rename_i o off
  simp only [AV.sh]
  rw [Q4 hL]
  cases st[o]? with
  | none=>rfl
  | some ob =>
   cases ob with
   | cells cs=>simp only [Option.map_some,Obj.sh,M8,A0]
   | map _=>rfl
   | dead=>rfl
 | v i=>show some _=some _; rw [J3,← J6]
 | vs i=>show some _=some _; rw [J3]
 | bx i ag n =>
  simp only [ResK.get]
  rw [J3]
  cases fr.getD i AV.undef <;> try rfl
  rename_i cs
  simp only [AV.sh,i8,A0]
theorem T3 {st:St} (hL:L≤st.length):∀ (rs:List ResK) (fr:List AV),n4 rs (fr.map (AV.sh L ext.length)) (shS L ext st)=(n4 rs fr st).map (·.map (AV.sh L ext.length))
 | [],_=>rfl
 | r::rs,fr=>by
  rw [n4,n4,b1b r fr hL,T3 hL rs]
  cases r.get fr st <;> cases n4 rs fr st <;> rfl
theorem g3D (hc:K5 L ext call) (n:Nat) {fn:AFn} (hf:fn.code.shut=true) {as:List AV} {st st':St} {r:AV} (hL:L≤st.length) (h:fn.run call n as st=some (r,st')):fn.run call n (as.map (AV.sh L ext.length)) (shS L ext st)=some (r.sh L ext.length,shS L ext st')∧L≤st'.length:=by
 have hl:as.length=fn.np:=by
  unfold AFn.run at h
  split at h
  · assumption
  · cases h
 rw [L9 _ _ _ _ _ hl] at h
 rw [L9 _ _ _ _ _ (by rw [List.length_map]; exact hl)]
 cases hq:exec call n fn.code (as++List.replicate (fn.nv - fn.np) .undef) st with
 | none=>rw [hq] at h; cases h
 | some o =>
  obtain ⟨e,fr,s⟩:=o
  obtain ⟨h1,h2⟩:=E0 hc n hf hL hq
  rw [hq] at h
  rw [List.map_append,List.map_replicate] at h1
  rw [show AV.sh L ext.length .undef=.undef from rfl] at h1
  rw [h1]
  cases e with
  | exit id=>cases h
  | normal =>
   simp only [a1Y,O7,T3 (show L≤s.length from h2)] at h ⊢
   cases hg:n4 fn.results fr s with
   | none=>rw [hg] at h; cases h
   | some vs =>
    rw [hg] at h
    match vs,h with
    | [],h=>cases h; exact ⟨rfl,h2⟩
    | [v],h=>cases h; exact ⟨rfl,h2⟩
    | v::w::vs,h=>cases h; exact ⟨by simp only [Option.map_some,List.map_cons,AV.sh,i8,D7],h2⟩
  | ret =>
   simp only [a1Y,O7,T3 (show L≤s.length from h2)] at h ⊢
   cases hg:n4 fn.results fr s with
   | none=>rw [hg] at h; cases h
   | some vs =>
    rw [hg] at h
    match vs,h with
    | [],h=>cases h; exact ⟨rfl,h2⟩
    | [v],h=>cases h; exact ⟨rfl,h2⟩
    | v::w::vs,h=>cases h; exact ⟨by simp only [Option.map_some,List.map_cons,AV.sh,i8,D7],h2⟩
theorem X9 {tbl:Nat→Option AFn} (ht:a1g tbl):∀ n,K5 L ext (g9 tbl n)
 | 0,_,_,_,_,_,_,h=>by simp [g9] at h
 | n+1,f,as,st,r,st',hL,h=>by
  simp only [g9] at h ⊢
  cases htb:tbl f with
  | none=>simp [htb] at h
  | some fn =>
   simp only [htb] at h ⊢
   obtain ⟨h1,h2⟩:=ht f fn htb
   cases he:fn.ext with
   | some e=>simp only [he] at h ⊢; exact h2 e he L ext _ _ _ _ hL h
   | none =>
    simp only [he] at h ⊢
    exact g3D (X9 ht n) n h1 hL h
theorem Ev.more {tbl:Nat→Option AFn} (ht:a1g tbl) {f:Nat} {as:List AV} {st:St} {r:AV} {st':St} (h:Ev tbl f as st r st') (ext:St):Ev tbl f (as.map (AV.sh st.length ext.length)) (shS st.length ext st) (r.sh st.length ext.length) (shS st.length ext st'):=by
 obtain ⟨n,hn⟩:=h
 exact ⟨n,(X9 ht n _ _ _ _ _ (Nat.le_refl _) hn).1⟩
end
end Go.Cb
/-
 THE ABSTRACT MACHINE, part 56: functions with deferred calls. Such a call stands in the machine's code behind a block whose label stands for return.
-/
set_option maxRecDepth 4000
set_option linter.unusedSimpArgs false
set_option linter.unusedVariables false
namespace Go.Cb
open Classical

/-! labels that stand for return -/
def V4:ACode→Bool
 | .ret=>false
 | .seq a b|.test _ _ _ a b|.either _ a b=>V4 a && V4 b
 | .blk _ a|.loop a=>V4 a
 | _=>true
def R5 (e:Nat):ACode→Bool
 | .seq a b|.test _ _ _ a b=>R5 e a && R5 e b
 | .blk id a=>!Nat.beq id e && R5 e a
 | .loop a=>R5 e a
 | .either ..=>false
 | _=>true
def C9 (e:Nat):ACode→ACode
 | .exit id=>if Nat.beq id e then .ret else .exit id
 | .seq a b=>.seq (C9 e a) (C9 e b)
 | .test k o c a b=>.test k o c (C9 e a) (C9 e b)
 | .blk id a=>.blk id (C9 e a)
 | .loop a=>.loop (C9 e a)
 | y=>y
def I5 (e:Nat):Ex→Ex
 | .exit id=>if Nat.beq id e then .ret else .exit id
 | x=>x
theorem a4u {b:List AV→St→Option Out} (h:∀ fr st out,b fr st=some out→out.1≠.ret):∀ (n:Nat) (fr:List AV) (st:St) (out:Out),r7 b n fr st=some out→out.1≠.ret
 | 0,_,_,_,he=>by cases he
 | n+1,fr,st,out,he=>by
  rw [r7] at he
  split at he
  · exact a4u h n _ _ _ he
  · exact h _ _ _ he
theorem z8 {call:b5} {n:Nat}:∀ (y:ACode) (fr:List AV) (st:St) (out:Out),V4 y=true→exec call n y fr st=some out→out.1≠.ret
 | .skip,fr,st,out,_,he=>by simp only [exec,Option.some.injEq] at he; subst he; simp
 | .exit id,fr,st,out,_,he=>by simp only [exec,Option.some.injEq] at he; subst he; simp
 | .ret,_,_,_,h,_=>by cases h
 | .reg kill ops,fr,st,out,_,he=>by
  simp only [exec] at he
  split at he
  · simp only [fL_eq,Option.some.injEq] at he; subst he; simp
  · cases he
 | .test kill ops c a b,fr,st,out,h,he=>by
  simp only [V4,Bool.and_eq_true] at h
  simp only [exec,fL_eq] at he
  split at he
  · split at he
    · exact z8 a _ _ _ h.1 he
    · exact z8 b _ _ _ h.2 he
    · cases he
  · cases he
 | .seq a b,fr,st,out,h,he=>by
  simp only [V4,Bool.and_eq_true] at h
  rcases y8 he with ⟨fr1,st1,_,e2⟩|⟨e1,_⟩
  · exact z8 b _ _ _ h.2 e2
  · exact z8 a _ _ _ h.1 e1
 | .blk id a,fr,st,out,h,he=>by
  simp only [exec] at he
  split at he
  · simp only [Option.some.injEq] at he
    subst he
    dsimp only
    split <;> simp
  · exact z8 a _ _ _ h he
 | .loop a,fr,st,out,h,he=>by
  simp only [exec] at he
  exact a4u (fun fr st out hh=>z8 a fr st out h hh) _ _ _ _ he
 | .either kill a b,fr,st,out,h,he=>by
  simp only [V4,Bool.and_eq_true] at h
  simp only [exec] at he
  obtain ⟨oa,ob,ea,eb,ka,kb⟩:=W4 he
  subst ka
  exact fun hr=>z8 a fr st oa h.1 ea hr
theorem a4Q {e:Nat} {b b':List AV→St→Option Out} (h:∀ fr st out,b fr st=some out→b' fr st=some (I5 e out.1,out.2)):∀ (n:Nat) (fr:List AV) (st:St) (out:Out),r7 b n fr st=some out→r7 b' n fr st=some (I5 e out.1,out.2)
 | 0,_,_,_,he=>by cases he
 | n+1,fr,st,out,he=>by
  rw [r7] at he
  rw [r7]
  split at he
  · rename_i fr1 st1 hb
    rw [h _ _ _ hb]
    exact a4Q h n _ _ _ he
  · rename_i hb
    rw [h _ _ _ he]
    obtain ⟨x,fr1,st1⟩:=out
    cases x with
    | normal=>exact absurd he (hb _ _)
    | ret=>rfl
    | exit id =>
     dsimp only [I5]
     by_cases hq:Nat.beq id e=true
     · simp only [hq,if_true]
     · simp only [hq,if_false,Bool.false_eq_true]
theorem u6 {e:Nat} {call:b5} {n:Nat}:∀ (y:ACode) (fr:List AV) (st:St) (out:Out),R5 e y=true→exec call n y fr st=some out→exec call n (C9 e y) fr st=some (I5 e out.1,out.2)
 | .skip,fr,st,out,_,he=>by simp only [exec,Option.some.injEq] at he; subst he; rfl
 | .ret,fr,st,out,_,he=>by simp only [exec,Option.some.injEq] at he; subst he; rfl
 | .exit id,fr,st,out,_,he=>by
  simp only [exec,Option.some.injEq] at he
  subst he
  simp only [C9,I5]
  split <;> simp [exec]
 | .reg kill ops,fr,st,out,_,he=>by
  rw [C9,he]
  simp only [exec] at he
  split at he
  · simp only [fL_eq,Option.some.injEq] at he; subst he; rfl
  · cases he
  all_goals simp
 | .test kill ops c a b,fr,st,out,h,he=>by
  simp only [R5,Bool.and_eq_true] at h
  simp only [exec,fL_eq] at he
  simp only [C9,exec,fL_eq]
  split at he
  · split at he
    · exact u6 a _ _ _ h.1 he
    · exact u6 b _ _ _ h.2 he
    · cases he
  · cases he
 | .seq a b,fr,st,out,h,he=>by
  simp only [R5,Bool.and_eq_true] at h
  rw [C9,exec]
  rcases y8 he with ⟨fr1,st1,e1,e2⟩|⟨e1,hn⟩
  · rw [u6 a _ _ _ h.1 e1]
    exact u6 b _ _ _ h.2 e2
  · rw [u6 a _ _ _ h.1 e1]
    obtain ⟨x,fr1,st1⟩:=out
    cases x with
    | normal=>exact absurd rfl hn
    | ret=>rfl
    | exit id =>
     dsimp only [I5]
     by_cases hq:Nat.beq id e=true
     · simp only [hq,if_true]
     · simp only [hq,if_false,Bool.false_eq_true]
 | .blk id a,fr,st,out,h,he=>by
  simp only [R5,Bool.and_eq_true,Bool.not_eq_true'] at h
  simp only [exec] at he
  rw [C9,exec]
  split at he
  · rename_i id' fr1 st1 h1
    simp only [Option.some.injEq] at he
    subst he
    rw [u6 a _ _ _ h.2 h1]
    dsimp only [I5]
    by_cases hq:Nat.beq id' e=true
    · have e1:id'=e:=Nat.eq_of_beq_eq_true hq
      have e2:id'≠id:=fun q=>by rw [← q,hq] at h; cases h.1
      simp only [hq,if_true,e2,if_false]
    · simp only [hq,if_false,Bool.false_eq_true]
      by_cases e2:id'=id
      · simp only [e2,if_true]
      · simp only [e2,if_false,hq,Bool.false_eq_true]
  · rename_i hne
    rw [u6 a _ _ _ h.2 he]
    obtain ⟨x,fr1,st1⟩:=out
    cases x with
    | normal=>rfl
    | ret=>rfl
    | exit id'=>exact absurd he (hne _ _ _)
 | .loop a,fr,st,out,h,he=>by
  simp only [exec] at he
  rw [C9,exec]
  exact a4Q (fun fr st out hh=>u6 a fr st out h hh) _ _ _ _ he
 | .either ..,_,_,_,h,_=>by cases h

/-! variables that code leaves as they are -/
def Q6 (i:Nat) (o:AOper):Bool:=(match o.dst with|.v j=>!Nat.beq i j|_=>true) && (match o.box with|some j=>!Nat.beq i j|none=>true) && o.args.all (fun x=>match x with|.vs j=>!Nat.beq i j|_=>true)
def R3 (i:Nat):ACode→Bool
 | .reg kill ops=>!kill.contains i && ops.all (Q6 i)
 | .test kill ops _ a b=>!kill.contains i && ops.all (Q6 i) && R3 i a && R3 i b
 | .seq a b=>R3 i a && R3 i b
 | .blk _ a|.loop a=>R3 i a
 | .either ..=>false
 | _=>true
theorem Y0 {i:Nat}:∀ (kill:List Nat) (fr:List AV),i ∉ kill→(d9 kill fr).getD i .undef=fr.getD i .undef
 | [],_,_=>rfl
 | k::ks,fr,h=>by
  rw [d9,Y0 ks _ fun hm=>h (List.mem_cons_of_mem _ hm)]
  have hk:k≠i:=fun e=>h (by simp [e])
  simp only [List.getD_eq_getElem?_getD,List.getElem?_set_ne hk]
theorem a1A {i:Nat} {d:Dst} {r:AV} {σ:Sig} (h:(match d with|.v j=>!Nat.beq i j|_=>true)=true):(d.put r σ).fr.getD i .undef=σ.fr.getD i .undef:=by
 cases d with
 | none=>rfl
 | bx=>rfl
 | t s=>rfl
 | v j =>
  have hj:j≠i:=fun e=>by subst e; simp at h
  show (σ.fr.set j r.strip).getD i .undef=_
  simp only [List.getD_eq_getElem?_getD,List.getElem?_set_ne hj]
theorem a1n {i:Nat}:∀ (as:List Opd) (σ:Sig),as.all (fun x=>match x with|.vs j=>!Nat.beq i j|_=>true)=true→(b6 as σ).fr.getD i .undef=σ.fr.getD i .undef
 | [],_,_=>rfl
 | x::xs,σ,h=>by
  rw [List.all_cons,Bool.and_eq_true] at h
  rw [b6,a1n xs _ h.2]
  cases x <;> try rfl
  rename_i j
  have hj:j≠i:=fun e=>by subst e; simp at h
  show (σ.fr.set j _).getD i .undef=_
  simp only [List.getD_eq_getElem?_getD,List.getElem?_set_ne hj]
theorem a5D {i:Nat} {call:b5} {o:AOper} {σ σ':Sig} (h:Q6 i o=true) (hs:m9 call o σ=some σ'):σ'.fr.getD i .undef=σ.fr.getD i .undef:=by
 simp only [Q6,Bool.and_eq_true] at h
 obtain ⟨⟨h1,h2⟩,h3⟩:=h
 rw [G9] at hs
 split at hs
 · rename_i r bx st hsem
   split at hs
   · rename_i j hb
     simp only [Option.some.injEq] at hs
     subst hs
     rw [a1A h1]
     rw [hb] at h2
     have hj:j≠i:=fun e=>by subst e; simp at h2
     simp only [List.getD_eq_getElem?_getD,List.getElem?_set_ne hj]
     simpa only [List.getD_eq_getElem?_getD] using a1n o.args σ h3
   · simp only [Option.some.injEq] at hs
     subst hs
     rw [a1A h1]
     exact a1n o.args σ h3
 · cases hs
theorem a8G {i:Nat} {call:b5} {o:AOper} {σ σ':Sig} (h:Q6 i o=true) (hs:d8 call o σ=some σ'):σ'.fr.getD i .undef=σ.fr.getD i .undef:=by
 have h1:(match o.dst with|.v j=>!Nat.beq i j|_=>true)=true:=by
  simp only [Q6,Bool.and_eq_true] at h
  exact h.1.1
 unfold d8 at hs
 split at hs
 · exact a5D h hs
 · split at hs
   · split at hs
     · exact a5D h hs
     · simp only [Option.some.injEq] at hs; subst hs; exact a1A h1
   · simp only [Option.some.injEq] at hs; subst hs; exact a1A h1
   · cases hs
theorem a0u {i:Nat} {call:b5}:∀ (ops:List AOper) (σ σ':Sig),ops.all (Q6 i)=true→b7 call ops σ=some σ'→σ'.fr.getD i .undef=σ.fr.getD i .undef
 | [],σ,σ',_,hs=>by simp only [b7,Option.some.injEq] at hs; subst hs; rfl
 | o::os,σ,σ',h,hs=>by
  rw [List.all_cons,Bool.and_eq_true] at h
  simp only [b7] at hs
  split at hs
  · rename_i σ1 h1
    rw [a0u os _ _ h.2 hs,a8G h.1 h1]
  · cases hs
theorem a5q {i:Nat} {b:List AV→St→Option Out} (h:∀ fr st out,b fr st=some out→out.2.1.getD i .undef=fr.getD i .undef):∀ (n:Nat) (fr:List AV) (st:St) (out:Out),r7 b n fr st=some out→out.2.1.getD i .undef=fr.getD i .undef
 | 0,_,_,_,he=>by cases he
 | n+1,fr,st,out,he=>by
  rw [r7] at he
  split at he
  · rename_i fr1 st1 hb
    rw [a5q h n _ _ _ he]
    exact h _ _ _ hb
  · exact h _ _ _ he
theorem C5 {i:Nat} {call:b5} {n:Nat}:∀ (y:ACode) (fr:List AV) (st:St) (out:Out),R3 i y=true→exec call n y fr st=some out→out.2.1.getD i .undef=fr.getD i .undef
 | .skip,fr,st,out,_,he=>by simp only [exec,Option.some.injEq] at he; subst he; rfl
 | .ret,fr,st,out,_,he=>by simp only [exec,Option.some.injEq] at he; subst he; rfl
 | .exit id,fr,st,out,_,he=>by simp only [exec,Option.some.injEq] at he; subst he; rfl
 | .reg kill ops,fr,st,out,h,he=>by
  simp only [R3,Bool.and_eq_true,Bool.not_eq_true'] at h
  simp only [exec] at he
  split at he
  · rename_i σ hσ
    simp only [fL_eq,Option.some.injEq] at he
    subst he
    rw [a0u ops _ _ h.2 hσ]
    exact Y0 kill fr (by simpa using h.1)
  · cases he
 | .test kill ops c a b,fr,st,out,h,he=>by
  simp only [R3,Bool.and_eq_true,Bool.not_eq_true'] at h
  obtain ⟨⟨⟨h1,h2⟩,h3⟩,h4⟩:=h
  simp only [exec,fL_eq] at he
  split at he
  · rename_i σ hσ
    have e1:σ.fr.getD i .undef=fr.getD i .undef:=by
     rw [a0u ops _ _ h2 hσ]
     exact Y0 kill fr (by simpa using h1)
    split at he
    · rw [C5 a _ _ _ h3 he,e1]
    · rw [C5 b _ _ _ h4 he,e1]
    · cases he
  · cases he
 | .seq a b,fr,st,out,h,he=>by
  simp only [R3,Bool.and_eq_true] at h
  rcases y8 he with ⟨fr1,st1,e1,e2⟩|⟨e1,_⟩
  · rw [C5 b _ _ _ h.2 e2]
    exact C5 a _ _ _ h.1 e1
  · exact C5 a _ _ _ h.1 e1
 | .blk id a,fr,st,out,h,he=>by
  simp only [exec] at he
  split at he
  · rename_i id' fr1 st1 h1
    simp only [Option.some.injEq] at he
    subst he
    exact C5 a fr st (Ex.exit id',fr1,st1) h h1
  · exact C5 a _ _ _ h he
 | .loop a,fr,st,out,h,he=>by
  simp only [exec] at he
  exact a5q (fun fr st out hh=>C5 a fr st out h hh) _ _ _ _ he
 | .either ..,_,_,_,h,_=>by cases h
end Go.Cb
/-
 THE ABSTRACT MACHINE, part 57: a function's code with deferred calls is matched.
-/
set_option maxRecDepth 4000
set_option linter.unusedSimpArgs false
set_option linter.unusedVariables false
namespace Go.Cb
open Classical

def Z1 (c:Cx):List Operand→List Opd→Bool
 | [],[]=>true
 | .tmp t::xs,.v i::ys=>c.slots[i]? == some t && !c.bxs.contains i && Z1 c xs ys
 | _,_=>false
def a6b (c:Cx) (ops:List Oper) (q:AOper):Option Nat:=match q with
 | ⟨.none,.call f',ys,none,none⟩=>match ops.reverse with
  | ⟨none,.defer ⟨.value (.func f),args,_⟩,_,_,_,none⟩::l=>if f == f' && Z1 c args.toList ys then some l.length else none
  | ⟨none,.defer ⟨.value (.tmp t),args,_⟩,_,_,_,none⟩::⟨some t',.makeFunc (.func f) first caps,_,_,_,none⟩::l =>
   if args.size == 0 && first.size == 0 && f == f' && t == t' && !c.slots.contains t && Nat.blt t c.nt && Z1 c caps.toList ys then some l.length else none
  | _=>none
 | _=>none
def dfr0 (ops:List Oper):Option (Nat×Nat):=match ops.reverse with
 | ⟨none,.defer ⟨.value (.func f),args,_⟩,_,_,_,none⟩::l=>if args.size == 1 then some (l.length,f) else none
 | _=>none

section
variable {c:Cx} {g:Gh} {w:World} {pr:Nat→Option Pl} {bx:Nat→Nat} {σ σ':Sig} {a:Act} {call:b5} {ops:Array Oper} {Q:Exit→Act→World→Prop}

theorem a2W (fx:Fx c) (hc:u9 c.P c.gt call) {l:List Oper} {ps:List AOper} (hok:I6 c ops l ps=true) (hl:∀ (i:Nat) o,l[i]?=some o→ops[i]?=some o) {rest:List Nat}:∀ (n k:Nat) (g:Gh) (w:World) (pr:Nat→Option Pl) (bx:Nat→Nat) (σ:Sig) (a:Act),k+n=ps.length →
 S c g w pr bx σ a→b7 call (ps.drop k) σ=some σ'→Post c g w a σ' (wpOps c.P ops Q rest)→wpOps c.P ops Q (List.range' k n++rest) a w
 | 0,k,g,w,pr,bx,σ,a,hk,h,hr,hnext=>by
  rw [List.drop_of_length_le (by omega)] at hr
  simp only [b7,Option.some.injEq] at hr
  subst hr
  exact hnext a w g pr bx rfl h (Tr.refl _ _ _)
 | n+1,k,g,w,pr,bx,σ,a,hk,h,hr,hnext=>by
  obtain ⟨_,hget⟩:=N3 hok
  rw [List.drop_eq_getElem_cons (by omega)] at hr
  simp only [b7] at hr
  obtain ⟨o,ho,h1,h2⟩:=hget k _ (List.getElem?_eq_getElem (show k < ps.length by omega))
  cases hs:d8 call (ps[k]'(by omega)) σ with
  | none=>simp [hs] at hr
  | some σ1 =>
   simp only [hs] at hr
   rw [List.range'_succ,List.cons_append,wpOps_cons]
   refine a2R fx hc h (hl _ _ ho) h1 h2 hs fun a1 w1 g1 pr1 bx1 hd1 hS1 ht1=>?_
   exact a2W fx hc hok hl n (k+1) g1 w1 pr1 bx1 σ1 a1 (by omega) hS1 hr (hnext.trans hd1 ht1)

theorem a3C (h:S c g w pr bx σ a):∀ {xs:List Operand} {ys:List Opd},Z1 c xs ys=true→RelL g w ((ys.map (·.read σ)).map AV.weak) (xs.map a.eval)
 | [],[],_=>by simp [RelL]
 | x::xs,[],hv=>by cases x <;> simp [Z1] at hv
 | [],y::ys,hv=>by simp [Z1] at hv
 | x::xs,y::ys,hv=>by
  unfold Z1 at hv
  split at hv
  · rename_i e1 e2; cases e1
  · rename_i t xs' i ys' e1 e2
    cases e1; cases e2
    simp only [Bool.and_eq_true,beq_iff_eq,Bool.not_eq_true'] at hv
    obtain ⟨⟨h1,h2⟩,h3⟩:=hv
    have hvar:=h.fr.var i t h1
    have hnb:∀ cs,σ.fr.getD i .undef≠.box cs:=fun cs hcs=>by
     have:=h.fr.bxs i cs hcs
     simp [this] at h2
    have hr:Rel g w (σ.fr.getD i .undef).weak (a.tmps.getD t undef):=ValOK.rel (ValOK.of_weak (mine:=No) (ValOK.rel (hvar.val hnb)))
    simp only [List.map_cons,RelL]
    exact ⟨_,_,rfl,by show Rel g w (σ.fr.getD i .undef).weak.weak _; rw [r5]; exact hr,a3C h h3⟩
  · cases hv

theorem a8W {ops:Array Oper} {o:Oper} {l:List Oper} (h:ops.toList.reverse=o::l):ops.size=l.length+1∧ops.toList.take l.length=l.reverse∧ops[l.length]?=some o:=by
 have e:ops.toList=l.reverse++[o]:=by
  have:=congrArg List.reverse h
  simpa using this
 refine ⟨by rw [← Array.length_toList,e]; simp,by rw [e]; simp,?_⟩
 rw [← Array.getElem?_toList,e,List.getElem?_append_right (by simp)]
 simp
theorem b36 {ops:Array Oper} {o p:Oper} {l:List Oper} (h:ops.toList.reverse=o::p::l):ops.size=l.length+2∧ops.toList.take l.length=l.reverse∧ops[l.length]?=some p∧ops[l.length+1]?=some o:=by
 have e:ops.toList=l.reverse++[p,o]:=by
  have:=congrArg List.reverse h
  simpa using this
 refine ⟨by rw [← Array.length_toList,e]; simp,by rw [e]; simp,?_,?_⟩
 · rw [← Array.getElem?_toList,e,List.getElem?_append_right (by simp)]
   simp
 · rw [← Array.getElem?_toList,e,List.getElem?_append_right (by simp)]
   simp

theorem b0y (fx:Fx c) (hc:u9 c.P c.gt call) {id:Nat} {q:AOper} {f:Nat} {ys:List Opd} (hq:q=⟨.none,.call f,ys,none,none⟩) {k:Nat} (hd:a6b c ops.toList q=some k) {kill:List Nat} {ps:List AOper} (hok:I6 c ops (ops.toList.take k) ps=true)
 {fr:List AV} {τ:Nat→AV} {st:St} (h:S c g w pr bx ⟨fr,τ,st⟩ a) (hr:b7 call ps ⟨d9 kill fr,fun _=>.undef,st⟩=some σ)
 (hnext:∀ a1 w1 g1 pr1 bx1 (cap dargs:Array Value) (vs:List Value),vs.toArray=dargs++cap→RelL g1 w1 ((ys.map (·.read σ)).map AV.weak) vs→a1.defers={ target:=.fn (.func f) cap,args:=dargs }::a.defers →
  S c g1 w1 pr1 bx1 ⟨σ.fr,fun _=>.undef,σ.st⟩ a1→Tr c.A g w g1 w1→Q .normal a1 w1):(Code.region id ops false).wp c.P Q a w:=by
 subst hq
 have h0:=h.reset kill
 obtain ⟨hl,_⟩:=N3 hok
 refine wp_region ?_
 have hpre:∀ (i:Nat) o,(ops.toList.take k)[i]?=some o→ops[i]?=some o:=fun i o hi=>by
  rw [List.getElem?_take] at hi
  split at hi
  · rwa [Array.getElem?_toList] at hi
  · cases hi
 unfold a6b at hd
 dsimp only at hd
 split at hd
 · rename_i f' args at_ ty pos aft l hrev
   split at hd
   case isFalse=>cases hd
   rename_i hcond
   simp only [Bool.and_eq_true,beq_iff_eq] at hcond
   obtain ⟨rfl,hv⟩:=hcond
   simp only [Option.some.injEq] at hd
   subst hd
   obtain ⟨hsz,htake,hlast⟩:=a8W hrev
   have hpl:ps.length=l.length:=by rw [← hl,htake]; simp
   rw [List.range_eq_range',hsz,← List.range'_append_1,show 0+l.length=l.length by omega,List.range'_one,← hpl]
   refine a2W fx hc hok hpre ps.length 0 g w pr bx _ a (by omega) h0 (by simpa using hr) fun a1 w1 g1 pr1 bx1 hd1 hS1 ht1=>?_
   rw [wpOps_cons]
   refine H0 (by rw [hpl]; exact hlast) rfl ?_
   have hrel:=a3C hS1 hv
   have hrun:(execOp a1.eval ⟨none,.defer ⟨.value (.func f'),args,at_⟩,ty,pos,aft,none⟩).run c.P w1=.ok (.defer { target:=.fn (.func f') #[],args:=args.map a1.eval }) w1:=by
    simp [execOp,resolve,Deferred.ofValue,Act.eval]
   unfold Oper.wp
   rw [hrun,Oper.upon_defer]
   refine hnext { a1 with defers:=_::a1.defers } w1 g1 pr1 bx1 #[] (args.map a1.eval) (args.toList.map a1.eval) (Array.toList_inj.1 (by simp)) hrel (by simp only [hd1]) ?_ ht1
   exact ⟨(hS1.reset []).fr,hS1.st,hS1.gl,hS1.fresh,hS1.stA⟩
 · rename_i t args at_ ty pos aft t' f' first caps ty2 pos2 aft2 l hrev
   split at hd
   case isFalse=>cases hd
   rename_i hcond
   simp only [Bool.and_eq_true,beq_iff_eq,Bool.not_eq_true'] at hcond
   obtain ⟨⟨⟨⟨⟨⟨ea,ef⟩,rfl⟩,rfl⟩,hns⟩,hlt⟩,hv⟩:=hcond
   have ea:=Array.eq_empty_of_size_eq_zero ea
   have ef:=Array.eq_empty_of_size_eq_zero ef
   subst ea; subst ef
   simp only [Option.some.injEq] at hd
   subst hd
   obtain ⟨hsz,htake,hmk,hlast⟩:=b36 hrev
   have hpl:ps.length=l.length:=by rw [← hl,htake]; simp
   have hlt:t < c.nt:=by simpa using hlt
   have hns:t ∉ c.slots:=by simpa using hns
   rw [List.range_eq_range',hsz,← List.range'_append_1,show 0+l.length=l.length by omega,show List.range' l.length 2=[l.length,l.length+1] from rfl,← hpl]
   refine a2W fx hc hok hpre ps.length 0 g w pr bx _ a (by omega) h0 (by simpa using hr) fun a1 w1 g1 pr1 bx1 hd1 hS1 ht1=>?_
   rw [wpOps_cons]
   refine H0 (by rw [hpl]; exact hmk) rfl ?_
   have hrel:=a3C hS1 hv
   have hrun:(execOp a1.eval ⟨some t,.makeFunc (.func f') #[] caps,ty2,pos2,aft2,none⟩).run c.P w1=.ok (.value (.func (.func f') #[] (caps.map a1.eval))) w1:=by
    simp [execOp,Instr.makeFunc]
   unfold Oper.wp
   rw [hrun,Oper.upon_value,wpOps_cons]
   have hS2:=(hS1.reset []).put_undef hns hlt (.func (.func f') #[] (caps.map a1.eval))
   refine H0 (by rw [hpl]; exact hlast) rfl ?_
   have hev:(a1.put (some t) (.func (.func f') #[] (caps.map a1.eval))).eval (.tmp t)=.func (.func f') #[] (caps.map a1.eval):=by
    have:=hS1.fr.size
    simp only [Act.put,Act.eval]
    exact q9 (by rw [this]; exact hlt)
   have hrun2:(execOp (a1.put (some t) (.func (.func f') #[] (caps.map a1.eval))).eval ⟨none,.defer ⟨.value (.tmp t),#[],at_⟩,ty,pos,aft,none⟩).run c.P w1=.ok (.defer { target:=.fn (.func f') (caps.map a1.eval),args:=#[] }) w1:=by
    simp only [execOp,resolve,Sem.run_bind,hev]
    simp [Deferred.ofValue]
   unfold Oper.wp
   rw [hrun2,Oper.upon_defer]
   refine hnext { a1.put (some t) (.func (.func f') #[] (caps.map a1.eval)) with defers:=_::(a1.put (some t) (.func (.func f') #[] (caps.map a1.eval))).defers } w1 g1 pr1 bx1 (caps.map a1.eval) #[] (caps.toList.map a1.eval) (Array.toList_inj.1 (by simp)) hrel (by simp only [Act.put,hd1]) ?_ ht1
   exact ⟨hS2.fr,hS2.st,hS2.gl,hS2.fresh,hS2.stA⟩
 · cases hd

theorem a8K (fx:Fx c) (hc:u9 c.P c.gt call) {id:Nat} {f k:Nat} (hd:dfr0 ops.toList=some (k,f)) {kill:List Nat} {ps:List AOper} (hok:I6 c ops (ops.toList.take k) ps=true)
 {fr:List AV} {τ:Nat→AV} {st:St} (h:S c g w pr bx ⟨fr,τ,st⟩ a) (hr:b7 call ps ⟨d9 kill fr,fun _=>.undef,st⟩=some σ)
 (hnext:∀ a1 w1 g1 pr1 bx1 (dargs:Array Value),dargs.size=1→a1.defers={ target:=.fn (.func f) #[],args:=dargs }::a.defers→S c g1 w1 pr1 bx1 ⟨σ.fr,fun _=>.undef,σ.st⟩ a1→Tr c.A g w g1 w1→Q .normal a1 w1):(Code.region id ops false).wp c.P Q a w:=by
 have h0:=h.reset kill
 obtain ⟨hl,_⟩:=N3 hok
 refine wp_region ?_
 have hpre:∀ (i:Nat) o,(ops.toList.take k)[i]?=some o→ops[i]?=some o:=fun i o hi=>by
  rw [List.getElem?_take] at hi
  split at hi
  · rwa [Array.getElem?_toList] at hi
  · cases hi
 unfold dfr0 at hd
 split at hd
 · rename_i f' args at_ ty pos aft l hrev
   split at hd
   case isFalse=>cases hd
   rename_i hsz1
   simp only [Option.some.injEq,Prod.mk.injEq] at hd
   obtain ⟨rfl,rfl⟩:=hd
   obtain ⟨hsz,htake,hlast⟩:=a8W hrev
   have hpl:ps.length=l.length:=by rw [← hl,htake]; simp
   rw [List.range_eq_range',hsz,← List.range'_append_1,show 0+l.length=l.length by omega,List.range'_one,← hpl]
   refine a2W fx hc hok hpre ps.length 0 g w pr bx _ a (by omega) h0 (by simpa using hr) fun a1 w1 g1 pr1 bx1 hd1 hS1 ht1=>?_
   rw [wpOps_cons]
   refine H0 (by rw [hpl]; exact hlast) rfl ?_
   have hrun:(execOp a1.eval ⟨none,.defer ⟨.value (.func f'),args,at_⟩,ty,pos,aft,none⟩).run c.P w1=.ok (.defer { target:=.fn (.func f') #[],args:=args.map a1.eval }) w1:=by
    simp [execOp,resolve,Deferred.ofValue,Act.eval]
   unfold Oper.wp
   rw [hrun,Oper.upon_defer]
   refine hnext { a1 with defers:=_::a1.defers } w1 g1 pr1 bx1 (args.map a1.eval) (by simpa using hsz1) (by simp only [hd1]) ?_ ht1
   exact ⟨(hS1.reset []).fr,hS1.st,hS1.gl,hS1.fresh,hS1.stA⟩
 · cases hd

/-! the calls that are deferred -/
def b0K (P:Program) (D0:List Nat):Prop:=∀ f∈D0,K2 P f=true∧∀ (args:Array Value) (w:World),args.size=1→CallsD P f args .returning w fun e u w'=>u=.returning∧w'=w∧∃ v,e=.returned v
def DOK (P:Program) (gt:List (Nat×List AV)) (D:List Nat) (call:b5):Prop :=
 ∀ (f:Nat) (args:List AV) (st:St) (res:AV) (st':St),f∈D→call f args st=some (res,st')→(∀ x∈args,x.weak=x) →
  K2 P f=true∧∀ (g:Gh) (w:World) (vs:List Value),SRel g w st→Globs gt g w→RelL g w args vs→CallsD P f vs.toArray .returning w (fun e u w'=>u=.returning∧CallPost g w st' res e w')

theorem S.called (h:S c g w pr bx σ a) {g':Gh} {w':World} {st':St} (hst:SRel g' w' st') (htr:Tr No g w g' w'):S c g' w' pr bx { σ with st:=st' } a :=
 ⟨h.fr.evolve htr,hst,h.gl.ext htr.ext,fun b hb=>h.fresh b (Nat.le_trans htr.size hb),fun b p hb=>by
  rcases Nat.lt_or_ge b w.heap.size with hlt|hge
  · cases hq:g.sr b with
    | some q=>exact h.stA b q hq
    | none=>have:=(htr.keep b hlt hq (fun x=>x)).2; rw [hb] at this; cases this
  · exact h.fresh b hge⟩
theorem S.dfrs (h:S c g w pr bx σ a) (ds:List Deferred):S c g w pr bx σ { a with defers:=ds }:=⟨h.fr,h.st,h.gl,h.fresh,h.stA⟩

def R1 (y:ACode):List Opd→Bool
 | []=>true
 | .v i::xs=>R3 i y && R1 y xs
 | _=>false
def R7 (c:Cx) (D D0:List Nat):Code→ACode→Bool
 | .seq (.region id ops d) rest,y=>match y with
  | .seq (.reg kill ps) (.seq (.blk e rest') .skip)=>match dfr0 ops.toList with
   | some (k,f)=>!d && I6 c ops (ops.toList.take k) ps && D0.contains f && V4 rest' && R5 e rest' && R7 c D D0 rest (C9 e rest')
   | none=>k6 c (.seq (.region id ops d) rest) y
  | .seq (.reg kill ps) (.seq (.blk e rest') (.reg [] [q]))=>match a6b c ops.toList q with
   | some k=>!d && I6 c ops (ops.toList.take k) ps && (match q.kind with|.call f=>D.contains f|_=>false) && R1 rest' q.args && V4 rest' && R5 e rest' && R7 c D D0 rest (C9 e rest')
   | none=>k6 c (.seq (.region id ops d) rest) y
  | .seq (.test kill ps z a' b') rest'=>match rest with
   | .seq (.cond x a b) rest2=>a1w c ops d kill ps && a09 c x z && k6 c a a' && k6 c b b' && R7 c D D0 rest2 rest'
   | _=>k6 c (.seq (.region id ops d) rest) y
  | .seq a' b'=>k6 c (.region id ops d) a' && R7 c D D0 rest b'
  | y=>k6 c (.seq (.region id ops d) rest) y
 | .seq a b,y=>match y with
  | .seq a' b'=>k6 c a a' && R7 c D D0 b b'
  | y=>k6 c (.seq a b) y
 | x,y=>k6 c x y

theorem a5r {σ1 σ2:Sig} {call:b5} {n:Nat} {y:ACode} {out:Out} (he:exec call n y σ1.fr σ1.st=some out) (h2:σ2.fr=out.2.1):∀ {xs:List Opd},R1 y xs=true→xs.map (·.read σ2)=xs.map (·.read σ1)
 | [],_=>rfl
 | x::xs,h=>by
  cases x <;> simp only [R1,Bool.and_eq_true,Bool.false_eq_true] at h
  rename_i i
  rw [List.map_cons,List.map_cons,a5r he h2 h.2]
  congr 1
  show (σ2.fr.getD i .undef).weak=(σ1.fr.getD i .undef).weak
  rw [h2,C5 y _ _ _ h.1 he]

def Left (c:Cx) (fn:Func) (R:Ending→World→Prop) (g:Gh) (w:World) (a:Act) (out:Out):Prop :=
 ∀ a' w' g' pr' bx' τ',a'.defers=a.defers→S c g' w' pr' bx' ⟨out.2.1,τ',out.2.2⟩ a'→Tr c.A g w g' w'→Leaves c.P fn a'.tmps R a.defers .returning w'

theorem Left.after {fn:Func} {R:Ending→World→Prop} {out:Out} (h:Left c fn R g w a out) (ho:out.1=.normal∨out.1=.ret):After c g w a out (bodyPostD c.P fn R):=fun a' w' g' pr' bx' τ' hd hS ht=>by
 have:=h a' w' g' pr' bx' τ' hd hS ht
 rw [← hd] at this
 rcases ho with ho|ho <;> rw [ho] <;> exact this
theorem Left.trans {fn:Func} {R:Ending→World→Prop} {out:Out} {a1:Act} {g1:Gh} {w1:World} (h:Left c fn R g w a out) (hd:a1.defers=a.defers) (ht:Tr c.A g w g1 w1):Left c fn R g1 w1 a1 out:=fun a' w' g' pr' bx' τ' hd' hS' ht'=>by
 rw [hd]
 exact h a' w' g' pr' bx' τ' (hd'.trans hd) hS' (ht.trans ht')

theorem b2o {D:List Nat} (hD:DOK c.P c.gt D call) {fn:Func} {R:Ending→World→Prop} {f:Nat} {as:List AV} {vs:List Value} {cap dargs:Array Value} {ds:List Deferred} {a2:Act} {τ2:Nat→AV} {fr2:List AV} {st2 st3:St} {v:AV} {g2:Gh} {w2:World} {pr2:Nat→Option Pl} {bx2:Nat→Nat}
 (hf:f∈D) (hvs:vs.toArray=dargs++cap) (hw:∀ x∈as,x.weak=x) (hcall:call f as st2=some (v,st3)) (hrel:RelL g2 w2 as vs) (hS:S c g2 w2 pr2 bx2 ⟨fr2,τ2,st2⟩ a2)
 (hfin:∀ g3 w3,S c g3 w3 pr2 bx2 ⟨fr2,τ2,st3⟩ a2→Tr c.A g2 w2 g3 w3→Leaves c.P fn a2.tmps R ds .returning w3) :
 Leaves c.P fn a2.tmps R ({ target:=.fn (.func f) cap,args:=dargs }::ds) .returning w2:=by
 obtain ⟨hen,hcd⟩:=hD f as st2 v st3 hf hcall hw
 refine leaves_cons (f:=f) (args:=vs.toArray) (by simp) ?_ ?_
 · simp only [invoke]
   rw [hvs]
   exact a0e hen _ _
 · refine (hcd g2 w2 vs hS.st hS.gl hrel).mono fun e u' w3 he=>?_
   obtain ⟨rfl,_,g3,rfl,hst,htr,_⟩:=he
   exact hfin g3 w3 (hS.called hst htr) (htr.wider fun _ x=>x.elim)

theorem b2l {n:Nat} (fx:Fx c) (hm:c.P.follows .mixedOrders=true) (hc:u9 c.P c.gt call) {D D0:List Nat} (hD:DOK c.P c.gt D call) (hD0:b0K c.P D0) {fn:Func} {R:Ending→World→Prop} (x:Code) (y:ACode) (h:R7 c D D0 x y=true)
 {g:Gh} {w:World} {pr:Nat→Option Pl} {bx:Nat→Nat} {fr:List AV} {τ:Nat→AV} {st:St} {a:Act} {out:Out} (hS:S c g w pr bx ⟨fr,τ,st⟩ a) (he:exec call n y fr st=some out) (ho:out.1=.normal∨out.1=.ret) (hL:Left c fn R g w a out):x.wp c.P (bodyPostD c.P fn R) a w:=by
 have plain:∀ (x:Code) (y:ACode),k6 c x y=true→exec call n y fr st=some out→x.wp c.P (bodyPostD c.P fn R) a w :=
  fun x y hok he=>j0 x y hok fx hm hc hS he (hL.after ho)
 have go:∀ (q:Code),SizeOf.sizeOf q < SizeOf.sizeOf x→∀ (y:ACode),R7 c D D0 q y=true→∀ {g:Gh} {w:World} {pr:Nat→Option Pl} {bx:Nat→Nat} {fr:List AV} {τ:Nat→AV} {st:St} {a:Act} {out:Out},S c g w pr bx ⟨fr,τ,st⟩ a→exec call n y fr st=some out→(out.1=.normal∨out.1=.ret)→Left c fn R g w a out→q.wp c.P (bodyPostD c.P fn R) a w :=
  fun q hq y h _ _ _ _ _ _ _ _ _ hS he ho hL=>b2l fx hm hc hD hD0 q y h hS he ho hL
 have both:∀ (A q:Code) (a' b':ACode),SizeOf.sizeOf q < SizeOf.sizeOf x→k6 c A a'=true→R7 c D D0 q b'=true→exec call n (.seq a' b') fr st=some out→A.wp c.P (Exit.then (q.wp c.P (bodyPostD c.P fn R)) (bodyPostD c.P fn R)) a w:=by
  intro A q a' b' hsz h1 h2 he
  rcases y8 he with ⟨fr1,st1,e1,e2⟩|⟨e1,hn⟩
  · exact j0 A a' h1 fx hm hc hS e1 fun a1 w1 g1 pr1 bx1 τ1 hd1 hS1 ht1=>go q hsz b' h2 hS1 e2 ho (hL.trans hd1 ht1)
  · refine j0 A a' h1 fx hm hc hS e1 fun a1 w1 g1 pr1 bx1 τ1 hd1 hS1 ht1=>?_
    have:=hL.after ho a1 w1 g1 pr1 bx1 τ1 hd1 hS1 ht1
    revert this hn
    cases out.1 <;> simp [Ex.toExit,Exit.then]
 unfold R7 at h
 split at h
 · -- a region ahead
   rename_i id ops d rest
   split at h
   · -- perhaps one that does nothing
     rename_i kill ps e rest'
     split at h
     · rename_i k f hk
       simp only [Bool.and_eq_true,Bool.not_eq_true'] at h
       obtain ⟨⟨⟨⟨⟨h1,h2⟩,h3⟩,h5⟩,h6⟩,h7⟩:=h
       subst h1
       have hf:f∈D0:=by simpa using h3
       rcases y8 he with ⟨fr1,st1,e1,e2⟩|⟨e1,hn⟩
       · simp only [exec] at e1
         cases hr:b7 call ps ⟨d9 kill fr,fun _=>.undef,st⟩ with
         | none=>simp [hr] at e1
         | some σ =>
          simp only [hr,fL_eq,Option.some.injEq,Prod.mk.injEq,true_and] at e1
          obtain ⟨rfl,rfl⟩:=e1
          have hrest:∃ ex fr2 st2,exec call n rest' σ.fr σ.st=some (ex,fr2,st2)∧(ex=.normal∨ex=.exit e)∧out=(.normal,fr2,st2):=by
           rcases y8 e2 with ⟨fr2,st2,e3,e4⟩|⟨e3,hn⟩
           · simp only [exec,Option.some.injEq] at e4
             simp only [exec] at e3
             split at e3
             · rename_i id' fr4 st4 h9
               simp only [Option.some.injEq,Prod.mk.injEq] at e3
               obtain ⟨e5,rfl,rfl⟩:=e3
               have:id'=e:=by
                by_cases q:id'=e
                · exact q
                · rw [if_neg q] at e5; cases e5
               subst this
               exact ⟨_,_,_,h9,.inr rfl,e4.symm⟩
             · exact ⟨_,_,_,e3,.inl rfl,e4.symm⟩
           · exfalso
             simp only [exec] at e3
             split at e3
             · rename_i id' fr4 st4 h9
               simp only [Option.some.injEq] at e3
               subst e3
               dsimp only at ho hn
               split at hn
               · exact hn rfl
               · rename_i hne
                 rw [if_neg hne] at ho
                 rcases ho with ho|ho <;> cases ho
             · rcases ho with ho|ho
               · exact hn ho
               · exact z8 rest' _ _ _ h5 e3 ho
          obtain ⟨ex,fr2,st2,h9,hex,rfl⟩:=hrest
          have h10:=u6 rest' _ _ _ h6 h9
          have hex2:I5 e ex=.normal∨I5 e ex=.ret:=by
           rcases hex with rfl|rfl
           · exact .inl rfl
           · right; simp [I5]
          refine wp_seq (a8K fx hc hk h2 hS hr fun a1 w1 g1 pr1 bx1 dargs hz1 hd1 hS1 ht1=>?_)
          show rest.wp c.P (bodyPostD c.P fn R) a1 w1
          refine go rest (by simp; omega) (C9 e rest') h7 hS1 h10 hex2 fun a2 w2 g2 pr2 bx2 τ2 hd2 hS2 ht2=>?_
          rw [hd1]
          obtain ⟨hen,hcd⟩:=hD0 f hf
          refine leaves_cons (f:=f) (args:=dargs++#[]) (by simp) (by simp only [invoke]; exact a0e hen _ _) ?_
          refine (hcd _ w2 (by simpa using hz1)).mono fun e3 u' w3 he3=>?_
          obtain ⟨rfl,rfl,v,rfl⟩:=he3
          exact hL { a2 with defers:=a.defers } _ g2 pr2 bx2 τ2 rfl (hS2.dfrs _) (ht1.trans ht2)
       · exfalso
         simp only [exec] at e1
         split at e1
         · simp only [fL_eq,Option.some.injEq] at e1
           subst e1
           exact hn rfl
         · cases e1
     · exact plain _ _ h he
   · -- perhaps a deferred call
     rename_i kill ps e rest' q
     split at h
     · rename_i k hk
       simp only [Bool.and_eq_true,Bool.not_eq_true'] at h
       obtain ⟨⟨⟨⟨⟨⟨h1,h2⟩,h3⟩,h4⟩,h5⟩,h6⟩,h7⟩:=h
       subst h1
       obtain ⟨f,ys,rfl⟩:∃ f ys,q=⟨.none,.call f,ys,none,none⟩:=by
        unfold a6b at hk
        split at hk
        · exact ⟨_,_,rfl⟩
        · cases hk
       have hf:f∈D:=by simpa using h3
       rcases y8 he with ⟨fr1,st1,e1,e2⟩|⟨e1,hn⟩
       · simp only [exec] at e1
         cases hr:b7 call ps ⟨d9 kill fr,fun _=>.undef,st⟩ with
         | none=>simp [hr] at e1
         | some σ =>
          simp only [hr,fL_eq,Option.some.injEq,Prod.mk.injEq,true_and] at e1
          obtain ⟨rfl,rfl⟩:=e1
          -- how the rest ends
          have hrest:∃ ex fr2 st2 st3 v,exec call n rest' σ.fr σ.st=some (ex,fr2,st2)∧(ex=.normal∨ex=.exit e)∧call f ((ys.map (·.read ⟨fr2,fun _=>.undef,st2⟩)).map AV.weak) st2=some (v,st3)∧out=(.normal,fr2,st3):=by
           have fin:∀ fr2 st2,exec call n (.reg [] [⟨.none,.call f,ys,none,none⟩]) fr2 st2=some out→∃ st3 v,call f ((ys.map (·.read ⟨fr2,fun _=>.undef,st2⟩)).map AV.weak) st2=some (v,st3)∧∃ fr3,out=(.normal,fr3,st3)∧fr3=(b6 ys ⟨fr2,fun _=>.undef,st2⟩).fr:=by
            intro fr2 st2 he3
            simp only [exec,d9,b7,d8] at he3
            cases hg:m9 call ⟨.none,.call f,ys,none,none⟩ ⟨fr2,fun _=>.undef,st2⟩ with
            | none=>rw [hg] at he3; cases he3
            | some σ3 =>
             rw [hg] at he3
             simp only [fL_eq,Option.some.injEq] at he3
             obtain ⟨r,b',st3,hs,rfl⟩:=e9 hg
             simp only [sem,l3] at hs
             split at hs
             · cases hcl:call f ((ys.map (·.read ⟨fr2,fun _=>.undef,st2⟩)).map AV.weak) st2 with
               | none=>rw [hcl] at hs; cases hs
               | some z =>
                obtain ⟨v,s3⟩:=z
                rw [hcl] at hs
                simp only [Option.map_some,Option.some.injEq,Prod.mk.injEq] at hs
                obtain ⟨rfl,rfl,rfl⟩:=hs
                exact ⟨s3,v,rfl,_,he3.symm,rfl⟩
             · cases hs
           have keepv:∀ (xs:List Opd) (σ0:Sig),R1 rest' xs=true→b6 xs σ0=σ0:=by
            intro xs
            induction xs with
            | nil=>intro σ0 _; rfl
            | cons x xs ih =>
             intro σ0 hx
             cases x <;> simp only [R1,Bool.and_eq_true,Bool.false_eq_true] at hx
             exact ih _ hx.2
           rcases y8 e2 with ⟨fr2,st2,e3,e4⟩|⟨e3,hn⟩
           · simp only [exec] at e3
             obtain ⟨st3,v,hv,fr3,ho3,hf3⟩:=fin fr2 st2 e4
             rw [keepv ys _ h4] at hf3
             subst hf3
             split at e3
             · rename_i id' fr4 st4 h9
               simp only [Option.some.injEq,Prod.mk.injEq] at e3
               obtain ⟨e5,rfl,rfl⟩:=e3
               have:id'=e:=by
                by_cases q:id'=e
                · exact q
                · rw [if_neg q] at e5; cases e5
               subst this
               exact ⟨_,_,_,_,_,h9,.inr rfl,hv,ho3⟩
             · exact ⟨_,_,_,_,_,e3,.inl rfl,hv,ho3⟩
           · exfalso
             simp only [exec] at e3
             split at e3
             · rename_i id' fr4 st4 h9
               simp only [Option.some.injEq] at e3
               subst e3
               dsimp only at ho hn
               split at hn
               · exact hn rfl
               · rename_i hne
                 rw [if_neg hne] at ho
                 rcases ho with ho|ho <;> cases ho
             · rcases ho with ho|ho
               · exact hn ho
               · exact z8 rest' _ _ _ h5 e3 ho
          obtain ⟨ex,fr2,st2,st3,v,h9,hex,hcall,rfl⟩:=hrest
          have h10:=u6 rest' _ _ _ h6 h9
          have hex2:I5 e ex=.normal∨I5 e ex=.ret:=by
           rcases hex with rfl|rfl
           · exact .inl rfl
           · right; simp [I5]
          refine wp_seq (b0y fx hc rfl hk h2 hS hr fun a1 w1 g1 pr1 bx1 cap dargs vs hvs hrel hd1 hS1 ht1=>?_)
          show rest.wp c.P (bodyPostD c.P fn R) a1 w1
          refine go rest (by simp; omega) (C9 e rest') h7 hS1 h10 hex2 fun a2 w2 g2 pr2 bx2 τ2 hd2 hS2 ht2=>?_
          rw [hd1]
          have hk2:(ys.map (·.read ⟨fr2,fun _=>.undef,st2⟩))=ys.map (·.read σ):=a5r (σ1:=σ) h9 rfl h4
          rw [hk2] at hcall
          refine b2o hD hf hvs (fun x hx=>?_) hcall (hrel.ext ht2.ext _ _) hS2 fun g3 w3 hS3 ht3=>?_
          · obtain ⟨z,_,rfl⟩:=List.mem_map.1 hx
            exact r5 z
          · have hfin:=hL { a2 with defers:=a.defers } w3 g3 pr2 bx2 τ2 rfl (hS3.dfrs _) ((ht1.trans ht2).trans ht3)
            exact hfin
       · exfalso
         simp only [exec] at e1
         split at e1
         · simp only [fL_eq,Option.some.injEq] at e1
           subst e1
           exact hn rfl
         · cases e1
     · exact plain _ _ h he
   · rename_i kill ps z a' b' rest'
     split at h
     · rename_i x A B rest2
       simp only [Bool.and_eq_true] at h
       obtain ⟨⟨⟨⟨h1,h2⟩,h3⟩,h4⟩,h5⟩:=h
       rcases y8 he with ⟨fr1,st1,e1,e2⟩|⟨e1,hn⟩
       · refine wp_seq (a1U (Q':=Exit.then (rest2.wp c.P (bodyPostD c.P fn R)) (bodyPostD c.P fn R)) h1 h2 (j0 _ _ h3) (j0 _ _ h4) fx hm hc hS e1 (fun a1 w1 g1 pr1 bx1 τ1 hd1 hS1 ht1=>?_) fun _ _ x=>wp_seq x)
         exact go rest2 (by simp; omega) rest' h5 hS1 e2 ho (hL.trans hd1 ht1)
       · refine wp_seq (a1U (Q':=Exit.then (rest2.wp c.P (bodyPostD c.P fn R)) (bodyPostD c.P fn R)) h1 h2 (j0 _ _ h3) (j0 _ _ h4) fx hm hc hS e1 (fun a1 w1 g1 pr1 bx1 τ1 hd1 hS1 ht1=>?_) fun _ _ x=>wp_seq x)
         have:=hL.after ho a1 w1 g1 pr1 bx1 τ1 hd1 hS1 ht1
         revert this hn
         cases out.1 <;> simp [Ex.toExit,Exit.then]
     · exact plain _ _ h he
   · rename_i a' b' _ _ _
     rw [Bool.and_eq_true] at h
     exact wp_seq (both _ rest a' b' (by simp; omega) h.1 h.2 he)
   · exact plain _ _ h he
 · rename_i p q _
   split at h
   · rename_i a' b'
     rw [Bool.and_eq_true] at h
     exact wp_seq (both p q a' b' (by simp; omega) h.1 h.2 he)
   · exact plain _ _ h he
 · exact plain _ _ h he
termination_by SizeOf.sizeOf x
decreasing_by all_goals assumption
end

/-! functions -/
def V0 (P:Program) (gt:List (Nat×List AV)) (D D0:List Nat) (slots bxs:List Nat) (fn:Func) (f:AFn) (A:Nat→Prop):Bool :=
 f.ext.isNone && a0U slots && slots.all (fun s=>Nat.blt s fn.ntmps) && slots.take f.np == List.range f.np && Nat.ble f.np slots.length && Nat.beq f.nv slots.length &&
  (match fn.body with|some x=>R7 ⟨P,slots,bxs,fn.ntmps,gt,A⟩ D D0 x f.code|none=>false) && L3 ⟨P,slots,bxs,fn.ntmps,gt,A⟩ fn.results.toList f.results

structure ProgD (P:Program) (gt:List (Nat×List AV)) (D D0:List Nat) (tbl:Nat→Option AFn):Prop where
 mixed:P.follows .mixedOrders=true
 fn:∀ f af,tbl f=some af→K2 P f=true∧((∃ slots bxs fn,P.funcs[f]?=some fn∧∀ A,Y9 P gt slots bxs fn af A=true)∨(∃ slots bxs fn,P.funcs[f]?=some fn∧∀ A,V0 P gt D D0 slots bxs fn af A=true)∨(∃ e,af.ext=some e∧x9 P gt f e))
 dfr:∀ f∈D,∀ af,tbl f=some af→∃ slots bxs fn,P.funcs[f]?=some fn∧∀ A,Y9 P gt slots bxs fn af A=true
 dfr0:b0K P D0

theorem h3z {P:Program} {gt:List (Nat×List AV)} {D D0:List Nat} {slots bxs:List Nat} {fn:Func} {af:AFn} {g:Gh} {w:World} {args:List AV} {vs:List Value} {st st':St} {res:AV} {call:b5} {n:Nat} (hm:P.follows .mixedOrders=true) (hc:u9 P gt call) (hD:DOK P gt D call) (hD0:b0K P D0)
 (hok:∀ A,V0 P gt D D0 slots bxs fn af A=true) (h:af.run call n args st=some (res,st')) (hweak:∀ x∈args,x.weak=x) (hst:SRel g w st) (hgl:Globs gt g w) (hrel:RelL g w args vs) :
 ∃ body,fn.body=some body∧body.wp P (bodyPostD P fn (CallPost g w st' res)) { tmps:=vs.toArray++Array.replicate (fn.ntmps - vs.toArray.size) undef,defers:=[] } w:=by
 have hok:=hok fun b=>w.heap.size≤b∨g.sr b≠none
 simp only [V0,Bool.and_eq_true,Option.isNone_iff_eq_none,beq_iff_eq,Nat.beq_eq] at hok
 obtain ⟨⟨⟨⟨⟨⟨⟨o1,o2⟩,o3⟩,o4⟩,o5⟩,o6⟩,o7⟩,o8⟩:=hok
 have o5:=Nat.le_of_ble_eq_true o5
 split at o7
 case h_2=>cases o7
 rename_i body hbody
 unfold AFn.run at h
 split at h
 case isFalse=>cases h
 rename_i hlen
 split at h
 · cases h
 · rename_i ex fr' st1 hnex hexec
   obtain ⟨fx,hS⟩:=a6z (bxs:=bxs) o2 o3 o4 o5 o6 hlen hweak hst hgl hrel
   refine ⟨body,hbody,?_⟩
   refine b2l fx hm hc hD hD0 _ _ o7 hS hexec ?_ fun a' w' g' pr' bx' τ' hd hS' ht=>?_
   · cases ex with
     | normal=>exact .inl rfl
     | ret=>exact .inr rfl
     | exit id=>exact (hnex id rfl).elim
   · exact b1a hS' ht o8 h
 · cases h

theorem b15 {P:Program} {gt:List (Nat×List AV)} {D D0:List Nat} {tbl:Nat→Option AFn} (hP:ProgD P gt D D0 tbl):∀ n,u9 P gt (g9 tbl n)∧DOK P gt D (g9 tbl n):=by
 intro n
 induction n with
 | zero=>exact ⟨fun f args st res st' h=>by simp [g9] at h,fun f args st res st' _ h=>by simp [g9] at h⟩
 | succ n ih =>
  obtain ⟨ih,ihD⟩:=ih
  refine ⟨fun f args st res st' h hweak=>?_,fun f args st res st' hfD h hweak=>?_⟩
  · simp only [g9] at h
    cases htbl:tbl f with
    | none=>simp [htbl] at h
    | some af =>
     simp only [htbl] at h
     obtain ⟨hen,hfn⟩:=hP.fn f af htbl
     refine ⟨hen,fun g w vs hst hgl hrel=>?_⟩
     rcases hfn with ⟨slots,bxs,fn,hf,hok⟩|⟨slots,bxs,fn,hf,hok⟩|⟨e,he,hext⟩
     · have he:af.ext=none:=by
        have:=hok fun _=>True
        simp only [Y9,Bool.and_eq_true,Option.isNone_iff_eq_none] at this
        exact this.1.1.1.1.1.1.1
       simp only [he] at h
       obtain ⟨body,hb,hwp⟩:=a9X hP.mixed ih hok h hweak hst hgl hrel
       exact calls_of_wp hf hb hwp
     · have he:af.ext=none:=by
        have:=hok fun _=>True
        simp only [V0,Bool.and_eq_true,Option.isNone_iff_eq_none] at this
        exact this.1.1.1.1.1.1.1
       simp only [he] at h
       obtain ⟨body,hb,hwp⟩:=h3z hP.mixed ih ihD hP.dfr0 hok h hweak hst hgl hrel
       exact calls_of_wp_defers hf hb hwp
     · simp only [he] at h
       exact hext args st res st' h hweak g w vs hst hgl hrel
  · simp only [g9] at h
    cases htbl:tbl f with
    | none=>simp [htbl] at h
    | some af =>
     simp only [htbl] at h
     refine ⟨(hP.fn f af htbl).1,fun g w vs hst hgl hrel=>?_⟩
     obtain ⟨slots,bxs,fn,hf,hok⟩:=hP.dfr f hfD af htbl
     have he:af.ext=none:=by
      have:=hok fun _=>True
      simp only [Y9,Bool.and_eq_true,Option.isNone_iff_eq_none] at this
      exact this.1.1.1.1.1.1.1
     simp only [he] at h
     obtain ⟨body,hb,hwp⟩:=a9X hP.mixed ih hok h hweak hst hgl hrel
     exact (callsD_of_wp hf hb hwp).mono fun e u w' hh=>hh
end Go.Cb
/-
 THE ABSTRACT MACHINE, part 58: from an abstract answer to the model's call where functions defer calls; answers where there is more in the store.
-/
set_option maxRecDepth 4000
set_option linter.unusedVariables false
namespace Go.Cb
open Classical

theorem c97 {P:Program} {gt:List (Nat×List AV)} {D D0:List Nat} {tbl:Nat→Option AFn} (hP:ProgD P gt D D0 tbl) {n f:Nat} {args:List AV} {b:Bool} {st':St} (h:g9 tbl n f args []=some (.bool b,st')) (hw:∀ x∈args,x.weak=x)
 {W:World} {vs:List Value} (hg:Globs gt (gh0 W) W) (hr:RelL (gh0 W) W args vs):Calls P f vs.toArray W (fun e W'=>e=.returned (.bool b)∧Kept W W'):=by
 refine (((b15 hP n).1 f args [] _ _ h hw).2 (gh0 W) W vs (b46 W) hg hr).mono fun e W' he=>?_
 obtain ⟨v,g',rfl,_,ht,hv⟩:=he
 have hv:=hv.rel
 simp only [Rel] at hv
 subst hv
 have hold:∀ b,b < W.heap.size→W'.heap[b]?=W.heap[b]?:=fun b hb=>(ht.keep b hb rfl fun x=>x).1.1
 refine ⟨rfl,⟨ht.env.os,ht.env.out,fun i hi=>?_⟩,fun a ha=>by unfold World.frozen?; rw [hold a.block ha],ht.size,hold⟩
 rw [hold i hi]
 cases hq:W.heap[i]? with
 | none=>simp
 | some o=>cases o <;> simp

theorem XC.sh {tbl:Nat→Option AFn} (hT:a1g tbl) {code:ACode} (hs:code.shut=true) {fr:List AV} {st:St} {out:Out} {L:Nat} (ext:St) (hL:L≤st.length) (h:XC tbl code fr st out):XC tbl code (fr.map (AV.sh L ext.length)) (shS L ext st) (O7 L ext out):=by
 obtain ⟨n,hn⟩:=h
 exact ⟨n,(E0 (X9 hT n) n hs hL hn).1⟩
theorem Ev.sh {tbl:Nat→Option AFn} (hT:a1g tbl) {f:Nat} {as:List AV} {st:St} {r:AV} {st':St} {L:Nat} (ext:St) (hL:L≤st.length) (h:Ev tbl f as st r st'):Ev tbl f (as.map (AV.sh L ext.length)) (shS L ext st) (r.sh L ext.length) (shS L ext st'):=by
 obtain ⟨n,hn⟩:=h
 exact ⟨n,(X9 hT n _ _ _ _ _ hL hn).1⟩
end Go.Cb
namespace Go.Cb.G
open Go Go.Cb
theorem FX.sh {tbl:Nat→Option AFn} (hT:a1g tbl) {rs:List ResK} {code:ACode} (hs:code.shut=true) {fr:List AV} {st:St} {v:AV} {L:Nat} (ext:St) (hL:L≤st.length) (h:FX tbl rs code fr st v):FX tbl rs code (fr.map (AV.sh L ext.length)) (shS L ext st) (v.sh L ext.length):=by
 obtain ⟨⟨e,fr',st'⟩,s,⟨n,h1⟩,h2⟩:=h
 obtain ⟨h3,h4⟩:=E0 (X9 hT n) n hs hL h1
 refine ⟨_,shS L ext s,⟨n,h3⟩,?_⟩
 · have h4:L≤st'.length:=h4
   cases e with
   | exit i=>cases h2
   | normal =>
    simp only [fin,O7,T3 h4] at h2 ⊢
    cases hg:n4 rs fr' st' with
    | none=>rw [hg] at h2; cases h2
    | some vs =>
     rw [hg] at h2
     match vs,h2 with
     | [],h2=>cases h2; rfl
     | [v],h2=>cases h2; rfl
     | v::w::vs,h2=>cases h2; simp only [Option.map_some,List.map_cons,AV.sh,i8,D7]
   | ret =>
    simp only [fin,O7,T3 h4] at h2 ⊢
    cases hg:n4 rs fr' st' with
    | none=>rw [hg] at h2; cases h2
    | some vs =>
     rw [hg] at h2
     match vs,h2 with
     | [],h2=>cases h2; rfl
     | [v],h2=>cases h2; rfl
     | v::w::vs,h2=>cases h2; simp only [Option.map_some,List.map_cons,AV.sh,i8,D7]
end Go.Cb.G
/-
 THE ABSTRACT MACHINE, part 50: a copy of rows of several cells; two slices that lie apart; what a new object in the store comes to.
-/
set_option maxRecDepth 4000
set_option linter.unusedVariables false
set_option linter.unusedSimpArgs false
namespace Go.Cb
open Classical

theorem L1 {P:Program} (w:World) (dT sT ty elem:TypeId) (sz g o dLen dCap:Nat) (a:Addr) (sLen sCap:Nat) (cur:Array Value) (t:TypeId) (cs:List Value)
 (hu:P.underlying dT=some (.slice elem)) (hs:(P.info? elem).map (·.size)=some sz)
 (hg:w.heap[g]?=some (.cells cur t (0,0))) (hn:cs.length=Nat.min sLen dLen*sz)
 (hsrc:∀ j v,cs[j]?=some v→w.cell? (a.add j)=some v) (hfit:o+cs.length≤cur.size) (h1:∀ v∈cs,v.oneCell'=true) :
 (Builtin.copy_ #[dT,sT] ty #[.slice (some ⟨g,o,none⟩) dLen dCap,.slice (some a) sLen sCap]).run P w =
  .ok (goInt (Nat.min sLen dLen)) (w.setRow g (cur.toList.take o++cs++cur.toList.drop (o+cs.length)).toArray):=by
 have hl:=run_loadCells_list (P:=P) w a cs hsrc
 have hst:=run_storeCells_at P g o t cs 0 cur w hg (by simpa using hfit) h1
 cases hq:P.info? elem with
 | none=>simp [hq] at hs
 | some i =>
  have hi:i.size=sz:=by simpa [hq] using hs
  simp [Builtin.copy_,run_underlying hu,Builtin.lenOf,Builtin.firstCells,sizeOf,typeInfo,hq,hi,← hn,hl,hst]

theorem a1I {P:Program} (w:World) (tS tR e:TypeId) (ht:P.underlying tS=some (.slice e)) (size:Nat) (hz:∀ w,(Go.sizeOf e).run P w=.ok size w)
 (a b:Addr) (la ca lb cb:Nat) (hne:a.block≠b.block) {arrA arrB:Array Value} {TA TB:TypeId} {zA:Nat×Nat}
 (hA:w.heap[a.block]?=some (.cells arrA TA zA)) (hB:w.heap[b.block]?=some (.cells arrB TB (0,0))) (hkA:arrA.size≠0) (hkB:arrB.size≠0) :
 (Extern.SlicesOverlaps.overlaps #[tS,tS] #[tR] #[.slice (some a) la ca,.slice (some b) lb cb]).run P w=.ok (.bool false) w:=by
 have hnb:(a.block != b.block)=true:=by simpa using hne
 have hnb':(a.block == b.block)=false:=by simpa using hne
 have hsa:w.shape? a.block=some (TA,arrA.size):=by simp [World.shape?,hA]
 have hsb:w.shape? b.block=some (TB,arrB.size):=by simp [World.shape?,hB]
 have hfb:∀ x:Addr,x.block=b.block→w.frozen? x=false:=fun x hx=>by simp [World.frozen?,hx,hB]
 have hf1:=hfb b rfl
 have hf2:=hfb { block:=b.block,off:=arrB.size } rfl
 delta Extern.SlicesOverlaps.overlaps
 dsimp only
 delta Extern.SlicesOverlaps.overlaps.match_4
 dsimp only [Array.size,List.length]
 simp only [dif_pos,Nat.reduceAdd,Nat.zero_add]
 dsimp only [Array.getLit,getElem,Array.getInternal,List.get]
 by_cases h0:la=0∨lb=0∨size=0
 · simp [run_underlying ht,hz,h0]
 · cases hn:arrB.size with
   | zero=>exact absurd hn hkB
   | succ kB =>
    rw [hn] at hsb hf2
    cases hm:arrA.size with
    | zero=>exact absurd hm hkA
    | succ kA =>
    rw [hm] at hsa
    cases hfa:w.frozen? a with
    | true=>simp [run_underlying ht,hz,h0,hnb,hnb',frozen,noView,viewAt,mayBeOne,stringish,shape,Sem.run,hsa,hsb,hfa,hf1,hf2]
    | false =>
     cases hfe:w.frozen? { block:=a.block,off:=kA+1 } <;>
     simp [run_underlying ht,hz,h0,hnb,hnb',frozen,noView,viewAt,mayBeOne,stringish,shape,Sem.run,hsa,hsb,hfa,hf1,hf2,hfe]
end Go.Cb
/-
 THE ABSTRACT MACHINE, part 59: code step by step, where some calls are reckoned and one is known.
-/
set_option maxRecDepth 4000
set_option linter.unusedVariables false
namespace Go.Cb.G
open Go Go.Cb
def spC (c0:b5) (kill:List Nat) (ops:List AOper) (i:Nat) (fr:List AV) (st:St):Option (Sig×AOper×List AOper):=match b7 c0 (ops.take i) ⟨d9 kill fr,fun _=>.undef,st⟩,ops.drop i with
 | some σ,o::os=>some (σ,o,os)
 | _,_=>none
def a2J (c0:b5) (kill:List Nat) (ops:List AOper) (i:Nat) (fr:List AV) (st:St):Option (Nat×List AV×St):=match spC c0 kill ops i fr st with
 | some (σ,⟨_,.call f,args,none,none⟩,_)=>if p6 (args.map (·.read σ)) then some (f,(args.map (·.read σ)).map AV.weak,σ.st) else none
 | _=>none
def a0J (c0:b5) (kill:List Nat) (ops:List AOper) (i:Nat) (x:Opd) (fr:List AV) (st:St) (r:AV) (st1:St):Option (AV×List AV×St):=match spC c0 kill ops i fr st with
 | some (σ,o,os)=>match b7 c0 os (o.dst.put r { b6 o.args σ with st:=st1 }) with
  | some σ=>some (x.read σ,σ.fr,σ.st)
  | none=>none
 | none=>none
theorem b06 {c c0:b5} (hle:E6 c0 c) {kill:List Nat} {ops:List AOper} {i f:Nat} {as:List AV} {st0:St} {r:AV} {st1:St} {fr:List AV} {st:St} {x:Opd} {v:AV} {fr':List AV} {st':St}
 (h1:a2J c0 kill ops i fr st=some (f,as,st0)) (hE:c f as st0=some (r,st1)) (h2:a0J c0 kill ops i x fr st r st1=some (v,fr',st')) :
 ∃ σ,b7 c ops ⟨d9 kill fr,fun _=>.undef,st⟩=some σ∧x.read σ=v∧σ.fr=fr'∧σ.st=st':=by
 unfold a2J at h1
 unfold a0J at h2
 cases hs:spC c0 kill ops i fr st with
 | none=>rw [hs] at h2; cases h2
 | some p =>
  obtain ⟨σ,o,os⟩:=p
  rw [hs] at h1 h2
  dsimp only at h1 h2
  unfold spC at hs
  split at hs <;> try (cases hs; done)
  rename_i σ0 o0 os0 hr hd
  cases hs
  split at h1 <;> try (cases h1; done)
  rename_i heq
  obtain ⟨⟩:=Prod.mk.inj (Option.some.inj heq)
  rename_i dst f' args _ e1 e2
  obtain ⟨rfl,rfl⟩:=Prod.mk.inj e2
  subst e1
  split at h1 <;> try (cases h1; done)
  rename_i hp
  cases h1
  cases h3:b7 c0 os ((Dst.put dst r { b6 args σ with st:=st1 })) with
  | none=>rw [h3] at h2; cases h2
  | some σ2 =>
   rw [h3] at h2
   cases h2
   refine ⟨σ2,?_,rfl,rfl,rfl⟩
   rw [← List.take_append_drop i ops,a1p,C8 hle hr,hd]
   dsimp only
   rw [b7]
   have hst:d8 c ⟨dst,.call f,args,none,none⟩ σ=some (Dst.put dst r { b6 args σ with st:=st1 }):=by
    show m9 c _ σ=_
    rw [G9]
    simp only [sem,l3,hp,if_true,hE,Option.map_some]
   rw [hst]
   exact C8 hle h3
section
variable {tbl:Nat→Option AFn}
theorem gle (k m:Nat) (h:k≤m):E6 (callG tbl k) (g9 tbl m):=fun f as st r h1=>s5 h _ _ _ _ (L8 k _ _ _ _ h1)
theorem e6W {k:Nat} {kill:List Nat} {ops:List AOper} {i f:Nat} {as:List AV} {st0:St} {r:AV} {st1:St} {fr:List AV} {st:St} {v:AV} {fr':List AV} {st':St}
 (h1:a2J (callG tbl k) kill ops i fr st=some (f,as,st0)) (hE:Ev tbl f as st0 r st1) (h2:a0J (callG tbl k) kill ops i (.c .undef) fr st r st1=some (v,fr',st')):XC tbl (.reg kill ops) fr st (.normal,fr',st'):=by
 obtain ⟨m,hm⟩:=hE
 obtain ⟨σ,g1,g2,g3,g4⟩:=b06 (gle k (max m k) (Nat.le_max_right m k)) h1 (s5 (Nat.le_max_left m k) _ _ _ _ hm) h2
 exact ⟨max m k,by rw [exec,g1]; simp only [fL_eq,g3,g4]⟩
def tst (c0:b5) (kill:List Nat) (ops:List AOper) (x:Opd) (fr:List AV) (st:St):Option (AV×List AV×St):=match b7 c0 ops ⟨d9 kill fr,fun _=>.undef,st⟩ with
 | some σ=>some (x.read σ,σ.fr,σ.st)
 | none=>none
theorem b3W {k:Nat} {kill:List Nat} {ops:List AOper} {fr:List AV} {st:St} {x:Opd} {a b:ACode} {y:Bool} {fr':List AV} {st':St} {out:Out} (h1:tst (callG tbl k) kill ops x fr st=some (.bool y,fr',st')) (h3:XC tbl (bif y then a else b) fr' st' out):XC tbl (.test kill ops x a b) fr st out:=by
 obtain ⟨j,hj⟩:=h3
 unfold tst at h1
 cases hr:b7 (callG tbl k) ops ⟨d9 kill fr,fun _=>.undef,st⟩ with
 | none=>rw [hr] at h1; cases h1
 | some σ =>
  rw [hr] at h1
  simp only [Option.some.injEq,Prod.mk.injEq] at h1
  obtain ⟨g2,g3,g4⟩:=h1
  refine ⟨max k j,?_⟩
  have hk2:=l4 (s5 (tbl:=tbl) (Nat.le_max_right k j)) (Nat.le_max_right k j) hj
  rw [exec,C8 (gle k (max k j) (Nat.le_max_left k j)) hr]
  dsimp only
  rw [g2]
  cases y
  · simpa only [fL_eq,g3,g4,cond_true,cond_false] using hk2
  · simpa only [fL_eq,g3,g4,cond_true,cond_false] using hk2
theorem a0W {id:Nat} {a:ACode} {fr fr1:List AV} {st st1:St} (h:XC tbl a fr st (.exit id,fr1,st1)):XC tbl (.blk id a) fr st (.normal,fr1,st1):=by
 have:=XC.blk (id:=id) h
 rwa [if_pos rfl] at this
theorem A7 {id:Nat} {a:ACode} {fr fr1:List AV} {st st1:St} {e:Ex} (h:XC tbl a fr st (e,fr1,st1)) (he:a7r e (.exit id)=false):XC tbl (.blk id a) fr st (e,fr1,st1):=by
 have:=XC.blk (id:=id) h
 rwa [if_neg (fun e1=>by subst e1; simp [a7r] at he)] at this
def a7S (body:List AV→St→Option Out):Nat→List AV→St→Option (List AV×St)
 | 0,fr,st=>some (fr,st)
 | n+1,fr,st=>match body fr st with
  | some (.normal,fr,st)=>a7S body n fr st
  | _=>none
theorem e9M {k m:Nat} {a:ACode} {fr fr1:List AV} {st st1:St} {out:Out} (h:a7S (exec (callG tbl k) k a) m fr st=some (fr1,st1)) (h':LX tbl a fr1 st1 out):LX tbl a fr st out:=by
 induction m generalizing fr st with
 | zero=>simp only [a7S,Option.some.injEq,Prod.mk.injEq] at h; obtain ⟨rfl,rfl⟩:=h; exact h'
 | succ m ih =>
  simp only [a7S] at h
  split at h
  · rename_i fr2 st2 he
    exact LX.step (a8u he) (ih h)
  · cases h
theorem k1z {k m:Nat} {a:ACode} {fr:List AV} {st:St} {out:Out} (h:r7 (exec (callG tbl k) k a) m fr st=some out):LX tbl a fr st out :=
 ⟨k,m,a0S (fun _ _ _ hb=>l4 (L8 k) (Nat.le_refl k) hb) (Nat.le_refl m) h⟩
theorem FX.of {rs:List ResK} {code:ACode} {fr:List AV} {st:St} {v:AV} {out:Out} {st':St} (h:XC tbl code fr st out) (hf:fin rs (some out)=some (v,st')):FX tbl rs code fr st v:=⟨out,st',h,hf⟩
end
end Go.Cb.G
