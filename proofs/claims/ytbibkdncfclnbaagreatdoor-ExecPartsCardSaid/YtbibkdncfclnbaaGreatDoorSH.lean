import Derived.Test.YtbibkdncfclnbaaGreatDoorXAms3
import Derived.Test.YtbibkdncfclnbaaGreatDoorXAms2
set_option maxRecDepth 20000
set_option linter.unusedSimpArgs false
set_option linter.unusedVariables false
namespace Go.Cb
open Classical
def shN (L d a:Nat):Nat:=if a < L then a else a+d
mutual
def AV.sh (L d:Nat):AV→AV
 | .undef=>.undef
 | .bool b=>.bool b
 | .int k n=>.int k n
 | .str s=>.str s
 | .list o xs=>.list o (a5Q L d xs)
 | .ptr o f=>.ptr (shN L d o) f
 | .nilp=>.nilp
 | .ro cs=>.ro (T6 L d cs)
 | .loc i f=>.loc i f
 | .box cs=>.box (T6 L d cs)
 | .map o=>.map (shN L d o)
 | .nilm=>.nilm
 | .func f a c=>.func f (T6 L d a) (T6 L d c)
 | .nilf=>.nilf
 | .agg cs=>.agg (T6 L d cs)
 | .tuple vs=>.tuple (T6 L d vs)
 | .iface t v=>.iface t (v.sh L d)
 | .nili=>.nili
 | .sl o f n s=>.sl (shN L d o) f n s
 | .fresh xs=>.fresh (a5Q L d xs)
 | .nils=>.nils
def T6 (L d:Nat):List AV→List AV
 | []=>[]
 | a::as=>a.sh L d::T6 L d as
def a5Q (L d:Nat):List (List AV)→List (List AV)
 | []=>[]
 | r::rs=>T6 L d r::a5Q L d rs
end
def Obj.sh (L d:Nat):Obj→Obj
 | .cells cs=>.cells (cs.map (AV.sh L d))
 | .map es=>.map (es.map fun e=>(e.1.sh L d,e.2.sh L d))
 | .dead=>.dead
def shS (L:Nat) (ext st:St):St:=(st.take L).map (Obj.sh L ext.length)++ext++(st.drop L).map (Obj.sh L ext.length)
section
variable {L d:Nat}
theorem s6:∀ as:List AV,T6 L d as=as.map (AV.sh L d)
 | []=>rfl
 | a::as=>by rw [T6,s6 as]; rfl
theorem H0:∀ rs:List (List AV),a5Q L d rs=rs.map (·.map (AV.sh L d))
 | []=>rfl
 | r::rs=>by rw [a5Q,H0 rs,s6]; rfl
theorem b7M {a b:Nat}:Nat.beq a b=false ↔ a≠b:=by
 rw [← Bool.not_eq_true,Nat.beq_eq]
theorem shN_inj {a b:Nat}:shN L d a=shN L d b ↔ a=b:=by
 unfold shN
 split <;> split <;> omega
theorem a5M (a:AV):(a.weak1).sh L d=(a.sh L d).weak1:=by cases a <;> simp only [AV.weak1,AV.sh]
theorem a3V (cs:List AV):(cs.map AV.weak1).map (AV.sh L d)=(cs.map (AV.sh L d)).map AV.weak1:=by
 rw [List.map_map,List.map_map]
 exact List.map_congr_left fun a _=>a5M a
theorem Y7 (a:AV):(a.weak).sh L d=(a.sh L d).weak:=by
 cases a <;> simp only [AV.weak,AV.sh,s6,a3V]
theorem b92 (cs:List AV):(cs.map AV.weak).map (AV.sh L d)=(cs.map (AV.sh L d)).map AV.weak:=by
 rw [List.map_map,List.map_map]
 exact List.map_congr_left fun a _=>Y7 a
theorem a08 (a:AV):(a.sh L d).cells=a.cells.map (AV.sh L d):=by cases a <;> simp only [AV.cells,AV.sh,s6,AG,AL]
theorem b0b (a:AV):(a.sh L d).cellsW=a.cellsW.map (AV.sh L d):=by
 cases a <;> simp only [AV.cellsW,AV.sh,s6,H0,AG,AL,List.isEmpty_map]
theorem b8G (a:AV):(a.sh L d).cellW1=a.cellW1.sh L d:=by
 cases a <;> simp only [AV.cellW1,AV.sh,s6,H0,List.isEmpty_map]
theorem b5o (cs:List AV):(cs.map (AV.sh L d)).map AV.cellW1=(cs.map AV.cellW1).map (AV.sh L d):=by
 rw [List.map_map,List.map_map]
 exact List.map_congr_left fun a _=>b8G a
theorem O4 (a:AV):(a.sh L d).plain=a.plain:=by cases a <;> rfl
theorem a5j:∀ as:List AV,q7 (as.map (AV.sh L d))=q7 as
 | []=>rfl
 | a::as=>by rw [AG,q7,q7,O4,a5j as]
theorem b9L (a:AV):(a.strip).sh L d=(a.sh L d).strip:=by cases a <;> rfl
theorem b7j (a:AV):(a.stripB).sh L d=(a.sh L d).stripB:=by cases a <;> rfl
theorem N5 (ag:Bool) (n:Nat) (cs:List AV):j7 ag n (cs.map (AV.sh L d))=(j7 ag n cs).map (AV.sh L d):=by
 unfold j7
 rw [AF]
 split
 · split
   · rw [AN,← List.map_take,AV.sh,s6,a3V]
   · rfl
 · cases cs with
   | nil=>rfl
   | cons c cs=>rw [AG]; dsimp only; rw [AN,a5M]
theorem a2u (n:Nat) (cs:List AV):(cs.map (AV.sh L d)).drop n=(cs.drop n).map (AV.sh L d):=(List.map_drop).symm
theorem a3H (cs new:List AV) (off:Nat):n9 (cs.map (AV.sh L d)) off (new.map (AV.sh L d))=(n9 cs off new).map (AV.sh L d):=by
 unfold n9
 rw [AU,AU,AF,List.map_take,List.map_drop]
theorem a0n (sz:Nat) (xs:List (List AV)):l3 sz (xs.map (·.map (AV.sh L d)))=l3 sz xs:=by
 cases xs with
 | nil=>rfl
 | cons r rs=>simp only [AG,l3,AF]
theorem a49:∀ (offs:List (Nat×Nat)) (ps cs out:List AV),y8 offs ps cs=some out→y8 offs (ps.map (AV.sh L d)) (cs.map (AV.sh L d))=some (out.map (AV.sh L d))
 | [],[],cs,out,h=>by simp only [y8] at h ⊢; cases h; rfl
 | (off,n)::offs,p::ps,cs,out,h=>by
  rw [y8] at h
  split at h
  · rename_i hc
    rw [AG,y8,O4,a08,AF,AF,if_pos hc,a3H]
    exact a49 offs ps _ out h
  · cases h
 | [],_::_,_,_,h=>by simp [y8] at h
 | _::_,[],_,_,h=>by simp [y8] at h
theorem a4B (sz:Nat):∀ (is:List Nat) (ps:List AV) (rs out:List (List AV)),s8 sz is ps rs=some out→s8 sz is (ps.map (AV.sh L d)) (rs.map (·.map (AV.sh L d)))=some (out.map (·.map (AV.sh L d)))
 | [],[],rs,out,h=>by simp only [s8] at h ⊢; cases h; rfl
 | i::is,p::ps,rs,out,h=>by
  rw [s8] at h
  split at h
  · rename_i hc
    rw [AG,s8,O4,a08,AF,AF,if_pos hc,← a3V,← List.map_set]
    exact a4B sz is ps _ out h
  · cases h
 | [],_::_,_,_,h=>by simp [s8] at h
 | _::_,[],_,_,h=>by simp [s8] at h
theorem a3Q (sz:Nat):∀ (is:List Nat) (ps:List AV) (rs out:List (List AV)),n4 sz is ps rs=some out→n4 sz is (ps.map (AV.sh L d)) (rs.map (·.map (AV.sh L d)))=some (out.map (·.map (AV.sh L d)))
 | [],[],rs,out,h=>by simp only [n4] at h ⊢; cases h; rfl
 | i::is,p::ps,rs,out,h=>by
  rw [n4] at h
  split at h
  · rename_i hc
    rw [AG,n4,O4,a08,AF,AF,if_pos hc,b5o,← List.map_set]
    exact a3Q sz is ps _ out h
  · cases h
 | [],_::_,_,_,h=>by simp [n4] at h
 | _::_,[],_,_,h=>by simp [n4] at h
theorem c08 (x:AV) (n:Nat):L2 (x.sh L d) n=L2 x n:=by cases x <;> rfl
theorem a3w (lo hi:Bool) (as:List AV) (n:Nat):D4 lo hi (as.map (AV.sh L d)) n=D4 lo hi as n:=by
 cases lo <;> cases hi <;> rcases as with _|⟨a,_|⟨b,_|⟨c,as⟩⟩⟩ <;> simp only [AG,AL,D4,c08]
theorem a2R (xs:List (List AV)):(xs.map (·.map (AV.sh L d))).flatten=xs.flatten.map (AV.sh L d):=by rw [List.map_flatten]
theorem c40 (op:BinOp) (a b r:AV) (h:l8 op a b=some r):l8 op (a.sh L d) (b.sh L d)=some (r.sh L d):=by
 have hr:r.sh L d=r:=by
  unfold l8 at h
  split at h
  · cases op <;> dsimp only at h <;> (repeat' split at h) <;> first|(cases h; rfl)|cases h
  · cases op <;> dsimp only at h <;> (repeat' split at h) <;> first|(cases h; rfl)|cases h
  · cases h
 rw [hr,← h]
 unfold l8 at h
 split at h
 · rfl
 · rfl
 · cases h
theorem a3g (a:AV):B8 (a.sh L d)=(B8 a).map (shN L d):=by cases a <;> rfl
end
section
variable {L:Nat} {ext:St}
theorem b3H {st:St} (h:L≤st.length):(shS L ext st).length=st.length+ext.length:=by
 unfold shS
 simp only [AE,AF,AO,List.length_drop]
 omega
theorem a2x {st:St} (h:L≤st.length):shN L ext.length st.length=(shS L ext st).length:=by
 rw [b3H h,shN,if_neg (by omega)]
theorem a2b {st:St} (h:L≤st.length) (o:Nat):(shS L ext st)[shN L ext.length o]?=(st[o]?).map (Obj.sh L ext.length):=by
 unfold shS shN
 split
 · rename_i ho
   rw [AW,List.getElem?_append_left (by simp; omega),AQ,List.getElem?_take,if_pos ho]
 · rename_i ho
   have e1:((st.take L).map (Obj.sh L ext.length)++ext).length=L+ext.length:=by simp; omega
   rw [List.getElem?_append_right (by rw [e1]; omega),e1,AQ,List.getElem?_drop]
   congr 2
   omega
theorem a4k {st:St} (h:L≤st.length) (x:Obj):shS L ext (st++[x])=shS L ext st++[x.sh L ext.length]:=by
 unfold shS
 rw [List.take_append_of_le_length h,List.drop_append_of_le_length h,AU,← AW]
 rfl
theorem b3E {st:St} (h:L≤st.length) (o:Nat) (x:Obj):shS L ext (st.set o x)=(shS L ext st).set (shN L ext.length o) (x.sh L ext.length):=by
 apply List.ext_getElem?
 intro j
 by_cases hj:∃ i,j=shN L ext.length i
 · obtain ⟨i,rfl⟩:=hj
   rw [a2b (by simpa using h),List.getElem?_set,List.getElem?_set]
   by_cases e:o=i
   · subst e
     rw [if_pos rfl,if_pos rfl,b3H h]
     by_cases hl:o < st.length
     · rw [if_pos hl,if_pos (by unfold shN; split <;> omega)]; rfl
     · rw [if_neg hl,if_neg (by unfold shN; split <;> omega)]; rfl
   · rw [if_neg e,if_neg (fun h=>e (shN_inj.1 h)),a2b h]
 · have hj2:L≤j∧j < L+ext.length:=by
    refine Decidable.byContradiction fun hc=>hj ?_
    by_cases h1:j < L
    · exact ⟨j,by rw [shN,if_pos h1]⟩
    · exact ⟨j - ext.length,by rw [shN,if_neg (by omega)]; omega⟩
   have hne:shN L ext.length o≠j:=fun e=>hj ⟨o,e.symm⟩
   rw [List.getElem?_set,if_neg hne]
   have gen:∀ s:St,L≤s.length→(shS L ext s)[j]?=ext[j - L]?:=by
    intro s hs
    unfold shS
    have e1:((s.take L).map (Obj.sh L ext.length)).length=L:=by simp; omega
    rw [AW,List.getElem?_append_right (by rw [e1]; omega),e1,List.getElem?_append_left (by omega)]
   rw [gen _ (by simpa using h),gen _ h]
def shR (L:Nat) (ext:St) (r:AV×AV×St):AV×AV×St:=(r.1.sh L ext.length,r.2.1.sh L ext.length,shS L ext r.2.2)
def X1 (L:Nat) (ext:St) (call:d8):Prop:=∀ f as st r st',L≤st.length→call f as st=some (r,st')→call f (as.map (AV.sh L ext.length)) (shS L ext st)=some (r.sh L ext.length,shS L ext st')∧L≤st'.length
def SemSh (L:Nat) (ext:St) (f:List AV→AV→St→Option (AV×AV×St)) (as:List AV) (bx:AV) (st:St):Prop :=
 ∀ r,f as bx st=some r→f (as.map (AV.sh L ext.length)) (bx.sh L ext.length) (shS L ext st)=some (shR L ext r)∧L≤r.2.2.length
mutual
def AV.shut:AV→Bool
 | .list _ xs=>a0m xs
 | .ptr ..=>false
 | .ro cs=>M7 cs
 | .box cs=>M7 cs
 | .map _=>false
 | .func _ a c=>M7 a && M7 c
 | .agg cs=>M7 cs
 | .tuple vs=>M7 vs
 | .iface _ v=>v.shut
 | .sl ..=>false
 | .fresh xs=>a0m xs
 | _=>true
def M7:List AV→Bool
 | []=>true
 | a::as=>a.shut && M7 as
def a0m:List (List AV)→Bool
 | []=>true
 | r::rs=>M7 r && a0m rs
end
end
mutual
theorem a4q (L d:Nat):∀ a:AV,a.shut=true→a.sh L d=a
 | .undef,_=>rfl
 | .bool b,_=>rfl
 | .int k n,_=>rfl
 | .str s,_=>rfl
 | .list o xs,h=>by rw [AV.sh,a0a L d xs (by simpa [AV.shut] using h)]
 | .ptr o f,h=>by simp [AV.shut] at h
 | .nilp,_=>rfl
 | .ro cs,h=>by rw [AV.sh,I2 L d cs (by simpa [AV.shut] using h)]
 | .loc i f,_=>rfl
 | .box cs,h=>by rw [AV.sh,I2 L d cs (by simpa [AV.shut] using h)]
 | .map o,h=>by simp [AV.shut] at h
 | .nilm,_=>rfl
 | .func f a c,h=>by
  simp only [AV.shut,AA] at h
  rw [AV.sh,I2 L d a h.1,I2 L d c h.2]
 | .nilf,_=>rfl
 | .agg cs,h=>by rw [AV.sh,I2 L d cs (by simpa [AV.shut] using h)]
 | .tuple vs,h=>by rw [AV.sh,I2 L d vs (by simpa [AV.shut] using h)]
 | .iface t v,h=>by rw [AV.sh,a4q L d v (by simpa [AV.shut] using h)]
 | .nili,_=>rfl
 | .sl o f n s,h=>by simp [AV.shut] at h
 | .fresh xs,h=>by rw [AV.sh,a0a L d xs (by simpa [AV.shut] using h)]
 | .nils,_=>rfl
theorem I2 (L d:Nat):∀ as:List AV,M7 as=true→T6 L d as=as
 | [],_=>rfl
 | a::as,h=>by
  simp only [M7,AA] at h
  rw [T6,a4q L d a h.1,I2 L d as h.2]
theorem a0a (L d:Nat):∀ rs:List (List AV),a0m rs=true→a5Q L d rs=rs
 | [],_=>rfl
 | r::rs,h=>by
  simp only [a0m,AA] at h
  rw [a5Q,I2 L d r h.1,a0a L d rs h.2]
end
def Kind.shut:Kind→Bool
 | .alloc z|.build z _=>M7 z
 | .bslice _ z _|.bsliceM _ z _=>a0m z
 | .allocO _|.bsliceO ..|.min2|.eqIS _|.ldStS|.ldStSR _|.stStA _|.iadA ..|.slZ|.slA ..|.binB _|.binP _|.mkF ..|.mkM|.mget ..|.mset _|.callV|.b2s=>false
 | _=>true
section
variable {L:Nat} {ext:St}
theorem b4r {st st':St} (h:L≤st.length) (h':L≤st'.length):∀ gs:List AV,kept st st' gs=true→kept (shS L ext st) (shS L ext st') (gs.map (AV.sh L ext.length))=true
 | [],_=>rfl
 | g::gs,hk=>by
  rw [AG]
  simp only [kept,AA] at hk ⊢
  refine ⟨?_,b4r h h' gs hk.2⟩
  have hk:=hk.1
  rw [a3g]
  cases hr:B8 g with
  | none=>rw [hr] at hk; cases hk
  | some p =>
   rw [hr] at hk
   simp only [AN,a2b h,a2b h'] at hk ⊢
   cases h1:st[p]? with
   | none=>rw [h1] at hk; cases hk
   | some a =>
    cases h2:st'[p]? with
    | none=>rw [h1,h2] at hk; cases hk
    | some b =>
     rw [h1,h2] at hk
     simp only [AN] at hk ⊢
     rw [(Q2 _ _).1 hk]
     exact (Q2 _ _).2 rfl
theorem a2B {st:St} (h:L≤st.length) (o:Option Nat):∀ gs:List AV,K5 o st.length gs=true→K5 (o.map (shN L ext.length)) (shS L ext st).length (gs.map (AV.sh L ext.length))=true
 | [],_=>rfl
 | g::gs,hk=>by
  rw [AG]
  simp only [K5,AA] at hk ⊢
  refine ⟨?_,a2B h o gs hk.2⟩
  have hk:=hk.1
  rw [a3g]
  cases hr:B8 g with
  | none=>rw [hr] at hk; cases hk
  | some p =>
   rw [hr] at hk
   simp only [AN,AA] at hk ⊢
   obtain ⟨h1,h2⟩:=hk
   refine ⟨?_,?_⟩
   · rw [Nat.blt_eq] at h1 ⊢
     rw [← a2x h]
     unfold shN
     split <;> split <;> omega
   · cases o with
     | none=>rfl
     | some q =>
      simp only [AN,Bool.not_eq_true',b7M] at h2 ⊢
      exact fun e=>h2 (shN_inj.1 e)
end
end Go.Cb
namespace Go.Cb
open Classical
section
variable {L:Nat} {ext:St} {call:d8} {as:List AV} {bx:AV} {st:St}
theorem C0 {α β:Type} {x:Option α} {f:α→β} {r:β} (h:x.map f=some r):∃ a,x=some a∧f a=r:=AK.1 h
theorem SemSh.of (hL:L≤st.length) {f:List AV→AV→St→Option (AV×AV×St)} (h:∀ r b s,f as bx st=some (r,b,s)→s=st∧f (as.map (AV.sh L ext.length)) (bx.sh L ext.length) (shS L ext st)=some (r.sh L ext.length,b.sh L ext.length,shS L ext st)):SemSh L ext f as bx st:=by
 rintro ⟨r,b,s⟩ hr
 obtain ⟨rfl,h2⟩:=h r b s hr
 exact ⟨h2,hL⟩
theorem c9H (hL:L≤st.length):SemSh L ext (Z6 call) as bx st:=SemSh.of hL fun r b s h=>by
 unfold Z6 at h
 split at h
 · cases h; exact ⟨rfl,rfl⟩
 · cases h
theorem c4S (hL:L≤st.length):SemSh L ext (B7 call) as bx st:=SemSh.of hL fun r b s h=>by
 unfold B7 at h
 split at h
 · rename_i c x y
   have:AV.sh L ext.length (.bool c)=.bool c:=rfl
   simp only [B7,AG,AL,AV.sh,O4]
   split at h
   · rename_i hc
     rw [if_pos hc]
     split at h
     · rename_i hp; rw [if_pos hp]; cases h; exact ⟨rfl,rfl⟩
     · cases h
   · rename_i hc
     rw [if_neg hc]
     split at h
     · rename_i hp; rw [if_pos hp]; cases h; exact ⟨rfl,rfl⟩
     · cases h
 · cases h
theorem b8U (hL:L≤st.length):SemSh L ext (B9 call) as bx st:=SemSh.of hL fun r b s h=>by
 unfold B9 at h
 split at h <;> first|(cases h; exact ⟨rfl,rfl⟩)|cases h
theorem c1j {z:List AV} (hz:M7 z=true) (hL:L≤st.length):SemSh L ext (O5 z call) as bx st:=SemSh.of hL fun r b s h=>by
 unfold O5 at h
 split at h
 · cases h
   refine ⟨rfl,?_⟩
   show some (AV.undef,AV.box z,_)=some (AV.undef,AV.box (T6 L ext.length z),_)
   rw [I2 _ _ _ hz]
 · cases h
theorem c39 (hL:L≤st.length):SemSh L ext (P0 call) as bx st:=SemSh.of hL fun r b s h=>by
 unfold P0 at h
 split at h
 · rename_i a
   split at h
   · rename_i hp
     cases h
     refine ⟨rfl,?_⟩
     simp only [P0,AG,AL,AV.sh,O4,hp,if_true,b0b,s6]
   · cases h
 · cases h
theorem c0C {z:List AV} {offs:List (Nat×Nat)} (hz:M7 z=true) (hL:L≤st.length):SemSh L ext (J0 z offs call) as bx st:=SemSh.of hL fun r b s h=>by
 unfold J0 at h ⊢
 obtain ⟨cs,h1,h2⟩:=C0 h
 cases h2
 refine ⟨rfl,?_⟩
 have:=a49 (L:=L) (d:=ext.length) offs as z cs h1
 rw [← s6 z,I2 _ _ _ hz] at this
 rw [this,AN,AV.sh,s6]
theorem b6F {n:Nat} {z:List (List AV)} {at_:List Nat} (hz:a0m z=true) (hL:L≤st.length):SemSh L ext (I3 n z at_ call) as bx st:=SemSh.of hL fun r b s h=>by
 unfold I3 at h ⊢
 obtain ⟨cs,h1,h2⟩:=C0 h
 cases h2
 refine ⟨rfl,?_⟩
 have:=a4B (L:=L) (d:=ext.length) n at_ as z cs h1
 rw [← H0 z,a0a _ _ _ hz] at this
 rw [this,AN,AV.sh,H0]
theorem b6a {n:Nat} {z:List (List AV)} {at_:List Nat} (hz:a0m z=true) (hL:L≤st.length):SemSh L ext (G4 n z at_ call) as bx st:=SemSh.of hL fun r b s h=>by
 unfold G4 at h ⊢
 obtain ⟨cs,h1,h2⟩:=C0 h
 cases h2
 refine ⟨rfl,?_⟩
 have:=a3Q (L:=L) (d:=ext.length) n at_ as z cs h1
 rw [← H0 z,a0a _ _ _ hz] at this
 rw [this,AN,AV.sh,H0]
theorem c3j {i n:Nat} {ag:Bool} (hL:L≤st.length):SemSh L ext (H2 i ag n call) as bx st:=SemSh.of hL fun r b s h=>by
 unfold H2 at h
 split at h
 · rename_i j off cs
   split at h
   · rename_i hj
     obtain ⟨a,h1,h2⟩:=C0 h
     cases h2
     refine ⟨rfl,?_⟩
     simp only [H2,AG,AL,AV.sh,hj,if_true,s6,a2u,N5,h1,AN]
   · cases h
 · cases h
theorem a4d {o:Nat} {cs:List AV} (hL:L≤st.length) (h:st[o]?=some (.cells cs)):(shS L ext st)[shN L ext.length o]?=some (.cells (cs.map (AV.sh L ext.length))):=by rw [a2b hL,h]; rfl
theorem b4U {n:Nat} {ag:Bool} (hL:L≤st.length):SemSh L ext (B6 ag n call) as bx st:=SemSh.of hL fun r b s h=>by
 unfold B6 at h
 split at h
 · rename_i o off
   split at h
   · rename_i cs hc
     obtain ⟨a,h1,h2⟩:=C0 h
     cases h2
     refine ⟨rfl,?_⟩
     simp only [B6,AG,AL,AV.sh,a4d hL hc,a2u,N5,h1,AN]
   · cases h
 · cases h
theorem c3u {n:Nat} {ag:Bool} (hL:L≤st.length):SemSh L ext (J6 ag n call) as bx st:=SemSh.of hL fun r b s h=>by
 unfold J6 at h
 split at h
 · obtain ⟨a,h1,h2⟩:=C0 h
   cases h2
   refine ⟨rfl,?_⟩
   simp only [J6,AG,AL,AV.sh,s6,N5,h1,AN]
 · cases h
theorem c3q {n:Nat} {ag:Bool} (hL:L≤st.length):SemSh L ext (C1 ag n call) as bx st:=SemSh.of hL fun r b s h=>by
 unfold C1 at h
 split at h
 · obtain ⟨a,h1,h2⟩:=C0 h
   cases h2
   refine ⟨rfl,?_⟩
   simp only [C1,AG,AL,AV.sh,s6,N5,h1,AN]
 · rename_i o off
   split at h
   · rename_i cs hc
     obtain ⟨a,h1,h2⟩:=C0 h
     cases h2
     refine ⟨rfl,?_⟩
     simp only [C1,AG,AL,AV.sh,a4d hL hc,a2u,N5,h1,AN]
   · cases h
 · cases h
theorem b9k {i:Nat} (hL:L≤st.length):SemSh L ext (J1 i call) as bx st:=SemSh.of hL fun r b s h=>by
 unfold J1 at h
 split at h
 · rename_i j off cs
   split at h
   · rename_i hj
     split at h
     · rename_i c hc
       cases h
       refine ⟨rfl,?_⟩
       simp only [J1,AG,AL,AV.sh,hj,if_true,s6,AQ,hc,AN,List.map_set,a5M]
     · cases h
   · cases h
 · cases h
theorem c4M {i n:Nat} (hL:L≤st.length):SemSh L ext (J5 i n call) as bx st:=SemSh.of hL fun r b s h=>by
 unfold J5 at h
 split at h
 · rename_i j off x cs
   split at h
   · rename_i hc
     cases h
     refine ⟨rfl,?_⟩
     simp only [J5,AG,AL,AV.sh,O4,a08,AF,s6]
     rw [if_pos hc,a3H]
   · cases h
 · cases h
theorem c4X {n:Nat} (hL:L≤st.length):SemSh L ext (C8 n call) as bx st:=by
 rintro ⟨r,b,s⟩ h
 unfold C8 at h
 split at h
 · rename_i o off x
   split at h
   · rename_i cs hc
     split at h
     · rename_i hp
       rw [fL_eq] at h
       cases h
       refine ⟨?_,by simpa using hL⟩
       simp only [C8,AG,AL,AV.sh,a4d hL hc,O4,a08,AF,fL_eq]
       rw [if_pos hp,a3H,shR,b3E hL]
       rfl
     · cases h
   · cases h
 · cases h
theorem c7t {n:Nat} (hL:L≤st.length):SemSh L ext (K4 n call) as bx st:=SemSh.of hL fun r b s h=>by
 unfold K4 at h
 split at h
 · cases h; exact ⟨rfl,rfl⟩
 · cases h; exact ⟨rfl,rfl⟩
 · cases h; exact ⟨rfl,by simp only [K4,AG,AL,AV.sh,s6,a2u]⟩
 · cases h
theorem c8N {o n:Nat} {ag:Bool} (hL:L≤st.length):SemSh L ext (O7 o n ag call) as bx st:=SemSh.of hL fun r b s h=>by
 unfold O7 at h
 split at h
 · split at h
   · rename_i hc
     obtain ⟨a,h1,h2⟩:=C0 h
     cases h2
     refine ⟨rfl,?_⟩
     simp only [O7,AG,AL,AV.sh,s6,AF,hc,if_true,a2u,N5,h1,AN]
   · cases h
 · cases h
theorem c8H {n:Nat} (hL:L≤st.length):SemSh L ext (D6 n call) as bx st:=SemSh.of hL fun r b s h=>by
 unfold D6 at h
 split at h
 · rename_i xs k i
   split at h
   · rename_i h0
     split at h
     · rename_i r' hr
       split at h
       · rename_i hl
         cases h
         refine ⟨rfl,?_⟩
         simp only [D6,AG,AL,AV.sh,H0,h0,if_true,AQ,hr,AN,AF,hl,s6]
       · cases h
     · cases h
   · cases h
 · rename_i h0
   split at h
   · rename_i hc
     cases h
     refine ⟨rfl,?_⟩
     simp only [D6,AG,AL,AV.sh]
     rw [if_pos hc]
   · cases h
 · cases h
theorem c3A (hL:L≤st.length):SemSh L ext (I6 call) as bx st:=SemSh.of hL fun r b s h=>by
 unfold I6 at h
 split at h
 · split at h
   · rename_i h0
     split at h
     · rename_i hb; cases h; refine ⟨rfl,?_⟩; simp only [I6,AG,AL,AV.sh,h0,if_true,hb]
     · cases h
   · cases h
 · cases h
theorem c51 {lo hi:Bool} (hL:L≤st.length):SemSh L ext (M3 lo hi call) as bx st:=SemSh.of hL fun r b s h=>by
 unfold M3 at h
 split at h
 · obtain ⟨p,h1,h2⟩:=C0 h
   cases h2
   refine ⟨rfl,?_⟩
   simp only [M3,AG,AV.sh,a3w,h1,AN]
 · cases h
theorem c5M {n:Nat} {lo hi:Bool} (hL:L≤st.length):SemSh L ext (K7 n lo hi call) as bx st:=SemSh.of hL fun r b s h=>by
 unfold K7 at h
 split at h
 · split at h
   · rename_i hr
     obtain ⟨p,h1,h2⟩:=C0 h
     cases h2
     refine ⟨rfl,?_⟩
     simp only [K7,AG,AV.sh,H0,a0n,hr,if_true,AF,a3w,h1,AN,List.map_take,List.map_drop]
   · cases h
 · split at h
   · rename_i hr
     obtain ⟨p,h1,h2⟩:=C0 h
     cases h2
     refine ⟨rfl,?_⟩
     simp only [K7,AG,AV.sh,hr,if_true]
     unfold slB at h1 ⊢
     rw [a3w,h1]
     rfl
   · cases h
 · cases h
theorem c53 {op:BinOp} (hL:L≤st.length):SemSh L ext (A9 op call) as bx st:=SemSh.of hL fun r b s h=>by
 unfold A9 at h
 split at h
 · obtain ⟨p,h1,h2⟩:=C0 h
   cases h2
   refine ⟨rfl,?_⟩
   simp only [A9,AG,AL,c40 op _ _ _ h1,AN]
 · cases h
theorem d3t {op:UnOp} (hL:L≤st.length):SemSh L ext (T3 op call) as bx st:=SemSh.of hL fun r b s h=>by
 unfold T3 at h
 split at h <;> first|(cases h; exact ⟨rfl,rfl⟩)|cases h
theorem c3I {k:IntKind} (hL:L≤st.length):SemSh L ext (L8 k call) as bx st:=SemSh.of hL fun r b s h=>by
 unfold L8 at h
 split at h <;> first|(cases h; exact ⟨rfl,rfl⟩)|cases h
theorem c3l (hL:L≤st.length):SemSh L ext (M8 call) as bx st:=by
 rintro ⟨r,b,s⟩ h
 unfold M8 at h
 split at h
 · split at h
   · rename_i hp
     cases h
     refine ⟨?_,by simp; omega⟩
     simp only [M8,AG,AL,O4,hp,if_true,shR,a4k hL,AV.sh,a2x hL,Obj.sh,b0b]
   · cases h
 · cases h
end
end Go.Cb
namespace Go.Cb
open Classical
section
variable {L:Nat} {ext:St} {call:d8} {as:List AV} {bx:AV} {st:St}
theorem c6G {i:Nat} (hL:L≤st.length):SemSh L ext (L5 i call) as bx st:=SemSh.of hL fun r b s h=>by
 unfold L5 at h
 split at h
 · split at h
   · rename_i v hv
     cases h
     refine ⟨rfl,?_⟩
     simp only [L5,AG,AL,AV.sh,s6,AQ,hv,AN,Y7]
   · cases h
 · cases h
theorem b3X {f:Nat} (hc:X1 L ext call) (hL:L≤st.length):SemSh L ext (t8 f call) as bx st:=by
 rintro ⟨r,b,s⟩ h
 unfold t8 at h ⊢
 split at h
 · rename_i hp
   obtain ⟨⟨v,s'⟩,h1,h2⟩:=C0 h
   cases h2
   obtain ⟨h3,h4⟩:=hc _ _ _ _ _ hL h1
   refine ⟨?_,h4⟩
   rw [a5j,if_pos hp,← b92,h3]
   rfl
 · cases h
theorem b9F {f m:Nat} (hc:X1 L ext call) (hL:L≤st.length):SemSh L ext (C7 f m call) as bx st:=by
 rintro ⟨r,b,s⟩ h
 unfold C7 at h ⊢
 cases hq:t8 f call (as.take m) bx st with
 | none=>rw [hq] at h; cases h
 | some x =>
  obtain ⟨v,b',s'⟩:=x
  rw [hq] at h
  dsimp only at h
  obtain ⟨h3,h4⟩:=b3X hc hL _ hq
  split at h
  · rename_i hk
    cases h
    refine ⟨?_,h4⟩
    rw [← List.map_take,h3,← List.map_drop]
    have hk':=b4r (L:=L) (ext:=ext) hL h4 _ hk
    simp only [shR]
    exact if_pos hk'
  · cases h
theorem c3M (hL:L≤st.length):SemSh L ext (M0 call) as bx st:=SemSh.of hL fun r b s h=>by
 unfold M0 at h
 split at h <;> first|(cases h; exact ⟨rfl,rfl⟩)|cases h
theorem c5g (hL:L≤st.length):SemSh L ext (C2 call) as bx st:=SemSh.of hL fun r b s h=>by
 unfold C2 at h
 split at h
 · cases h; exact ⟨rfl,by simp only [C2,AG,AL,AV.sh,H0,AF]⟩
 · cases h; exact ⟨rfl,rfl⟩
 · cases h; exact ⟨rfl,rfl⟩
 · cases h
theorem c7p {n b':Nat} (hL:L≤st.length):SemSh L ext (O6 n b' call) as bx st:=SemSh.of hL fun r b s h=>by
 unfold O6 at h
 split at h
 · split at h
   · rename_i hc
     cases h
     refine ⟨rfl,?_⟩
     simp only [O6,AG,AL,AV.sh,H0,a0n,AF]
     rw [if_pos hc,AU]
   · cases h
 · cases h
theorem c5z {n b':Nat} (hL:L≤st.length):SemSh L ext (D0 n b' call) as bx st:=by
 rintro ⟨r,b,s⟩ h
 unfold D0 at h
 split at h
 · split at h
   · rename_i hc
     cases h
     refine ⟨?_,by simp; omega⟩
     have ha:=a2B (L:=L) (ext:=ext) hL none _ hc.2.2.2
     simp only [Option.map_none] at ha
     simp only [D0,AG,AV.sh,H0,List.isEmpty_map,a0n,AF,AL]
     rw [if_pos ⟨hc.1,hc.2.1,hc.2.2.1,ha⟩]
     simp only [shR,AV.sh,a4k hL,a2x hL,Obj.sh,a2R]
   · cases h
 · split at h
   · rename_i hc
     cases h
     refine ⟨?_,by simp; omega⟩
     have ha:=a2B (L:=L) (ext:=ext) hL none _ hc.2.2.2
     simp only [Option.map_none] at ha
     simp only [D0,AG,AV.sh,H0,List.isEmpty_map,a0n,AF]
     rw [if_pos ⟨hc.1,hc.2.1,hc.2.2.1,ha⟩]
     simp only [shR,AV.sh,a4k hL,a2x hL,Obj.sh,a2R]
   · cases h
 · rename_i o k sz ys gs
   split at h
   · rename_i xs ho
     split at h
     · rename_i hc
       cases h
       refine ⟨?_,by simp; omega⟩
       have ha:=a2B (L:=L) (ext:=ext) hL (some o) _ hc.2.2.2.2.2
       simp only [AN] at ha
       simp only [D0,AG,AV.sh,H0,List.isEmpty_map,a0n,AF,a4d hL ho]
       rw [if_pos ⟨hc.1,hc.2.1,hc.2.2.1,hc.2.2.2.1,hc.2.2.2.2.1,ha⟩]
       simp only [shR,AV.sh,a4k (st:=st.set o .dead) (by simpa using hL),b3E hL,a2x hL,Obj.sh,a2R,AU]
     · cases h
   · cases h
 · cases h
theorem c04 {n:Nat} {ag:Bool} (hL:L≤st.length):SemSh L ext (E3 ag n call) as bx st:=by
 rintro x h
 unfold E3 at h
 split at h
 · rename_i o off r
   split at h
   · rename_i p hp
     split at h
     · rename_i he
       obtain ⟨h1,h2⟩:=b4U (call:=call) hL _ h
       refine ⟨?_,h2⟩
       have e:o=p:=by simpa using he
       subst e
       simp only [E3,AG,AL,AV.sh,a3g,hp,AN]
       rw [if_pos (by simp)]
       exact h1
     · cases h
   · cases h
 · cases h
theorem c54 {k:Kind} (hk:k.shut=true) (hc:X1 L ext call) (hL:L≤st.length):SemSh L ext (sem k call) as bx st:=by
 cases k
 case mv=>exact c9H (call:=call) hL
 case pick=>exact c4S (call:=call) hL
 case nilchk=>exact b8U (call:=call) hL
 case alloc z=>exact c1j (call:=call) hk hL
 case boxV=>exact c39 (call:=call) hL
 case boxO=>exact c3l (call:=call) hL
 case build z o=>exact c0C (call:=call) hk hL
 case bslice n z a=>exact b6F (call:=call) hk hL
 case bsliceM n z a=>exact b6a (call:=call) hk hL
 case stuck=>intro r h; cases h
 case ldLc=>exact c3j (call:=call) hL
 case ldSt=>exact b4U (call:=call) hL
 case ldRo=>exact c3u (call:=call) hL
 case ldAn=>exact c3q (call:=call) hL
 case ldLcS=>exact b9k (call:=call) hL
 case ldStR=>exact c04 (call:=call) hL
 case callA=>exact b9F (call:=call) hc hL
 case stLc=>exact c4M (call:=call) hL
 case stSt=>exact c4X (call:=call) hL
 case fad=>exact c7t (call:=call) hL
 case fld=>exact c8N (call:=call) hL
 case iad=>exact c8H (call:=call) hL
 case idxS=>exact c3A (call:=call) hL
 case slS=>exact c51 (call:=call) hL
 case slL=>exact c5M (call:=call) hL
 case bin=>exact c53 (call:=call) hL
 case un=>exact d3t (call:=call) hL
 case conv=>exact c3I (call:=call) hL
 case ext=>exact c6G (call:=call) hL
 case call=>exact b3X (call:=call) hc hL
 case lenS=>exact c3M (call:=call) hL
 case lenL=>exact c5g (call:=call) hL
 case app=>exact c7p (call:=call) hL
 case appM=>exact c5z (call:=call) hL
 all_goals cases hk
end
def Opd.shut:Opd→Bool
 | .c a=>a.shut
 | _=>true
def AOper.shut (o:AOper):Bool:=o.kind.shut && o.args.all Opd.shut && (match o.guard with|some (x,_)=>x.shut|none=>true)
def ACode.shut:ACode→Bool
 | .reg _ ops=>ops.all AOper.shut
 | .test _ ops c a b=>ops.all AOper.shut && c.shut && a.shut && b.shut
 | .seq a b=>a.shut && b.shut
 | .blk _ a=>a.shut
 | .loop a=>a.shut
 | .either _ a b=>a.shut && b.shut
 | _=>true
section
variable {L:Nat} {ext:St} {call:d8}
def Sig.sh (L:Nat) (ext:St) (σ:Sig):Sig:=⟨σ.fr.map (AV.sh L ext.length),fun j=>(σ.τ j).sh L ext.length,shS L ext σ.st⟩
theorem U0 {d:Nat} (fr:List AV) (i:Nat):(fr.map (AV.sh L d)).getD i AV.undef=(fr.getD i AV.undef).sh L d:=by
 simp only [List.getD_eq_getElem?_getD,AQ]
 cases fr[i]? <;> rfl
theorem a8J {x:Opd} (hx:x.shut=true) (σ:Sig):x.read (σ.sh L ext)=(x.read σ).sh L ext.length:=by
 cases x with
 | t s=>exact (Y7 _).symm
 | ts s=>rfl
 | v i=>show ((σ.fr.map _).getD i AV.undef).weak=_; rw [U0,← Y7]; rfl
 | vs i=>exact U0 _ _
 | l i =>
  show (match (σ.fr.map _).getD i AV.undef with|.box _=>AV.loc i 0|_=>AV.undef)=(match σ.fr.getD i AV.undef with|.box _=>AV.loc i 0|_=>AV.undef).sh L ext.length
  rw [U0]
  cases σ.fr.getD i AV.undef <;> rfl
 | c a=>exact (a4q _ _ _ hx).symm
theorem c0H (x:Opd) (σ:Sig):x.spend (σ.sh L ext)=(x.spend σ).sh L ext:=by
 cases x with
 | ts s =>
  show Sig.mk _ _ _=Sig.mk _ _ _
  congr 1
  funext j
  show q9 _ _ _ _=(q9 _ _ _ _).sh L ext.length
  unfold q9
  split
  · exact (Y7 _).symm
  · rfl
 | vs i =>
  show Sig.mk _ _ _=Sig.mk _ _ _
  congr 1
  show (σ.fr.map _).set i ((σ.fr.map _).getD i AV.undef).weak=(σ.fr.set i (σ.fr.getD i AV.undef).weak).map _
  rw [U0,List.map_set,Y7]
 | _=>rfl
theorem a5d:∀ (xs:List Opd) (σ:Sig),d9 xs (σ.sh L ext)=(d9 xs σ).sh L ext
 | [],_=>rfl
 | x::xs,σ=>by rw [d9,d9,c0H,a5d xs]
theorem b2G (d:Dst) (a:AV) (σ:Sig):d.put (a.sh L ext.length) (σ.sh L ext)=(d.put a σ).sh L ext:=by
 cases d with
 | none=>rfl
 | bx=>rfl
 | t s =>
  show Sig.mk _ _ _=Sig.mk _ _ _
  congr 1
  funext j
  show q9 _ _ _ _=(q9 _ _ _ _).sh L ext.length
  unfold q9
  split
  · exact (b7j _).symm
  · rfl
 | v i =>
  show Sig.mk _ _ _=Sig.mk _ _ _
  congr 1
  show (σ.fr.map _).set i (a.sh L ext.length).strip=(σ.fr.set i a.strip).map _
  rw [List.map_set,b9L]
theorem b1n:∀ {xs:List Opd},xs.all Opd.shut=true→∀ σ:Sig,xs.map (·.read (σ.sh L ext))=(xs.map (·.read σ)).map (AV.sh L ext.length)
 | [],_,_=>rfl
 | x::xs,h,σ=>by
  simp only [List.all_cons,AA] at h
  rw [AG,AG,AG,a8J h.1,b1n h.2]
theorem b4B (hc:X1 L ext call) {o:AOper} (ho:o.shut=true) {σ σ':Sig} (hL:L≤σ.st.length) (h:E8 call o σ=some σ'):E8 call o (σ.sh L ext)=some (σ'.sh L ext)∧L≤σ'.st.length:=by
 have hst:∀ (d:Dst) (a:AV) (σ:Sig),(d.put a σ).st=σ.st:=fun d a σ=>by cases d <;> rfl
 unfold AOper.shut at ho
 simp only [AA] at ho
 obtain ⟨⟨hk,ha⟩,_⟩:=ho
 obtain ⟨r,b,s,hs,rfl⟩:=l9 h
 have hb:s4 o (σ.sh L ext)=(s4 o σ).sh L ext.length:=by
  unfold s4
  cases o.box with
  | none=>rfl
  | some i=>exact U0 _ _
 obtain ⟨h1,h2⟩:=c54 (L:=L) (ext:=ext) hk hc hL _ hs
 rw [← b1n ha,← hb] at h1
 refine ⟨?_,by rw [hst]; exact h2⟩
 rw [a2q h1,a5d]
 refine congrArg some (Eq.trans ?_ (b2G (L:=L) (ext:=ext) o.dst r _))
 refine congrArg (o.dst.put _) ?_
 show Sig.mk _ _ _=Sig.mk _ _ _
 congr 1
 cases o.box with
 | none=>rfl
 | some i=>exact List.map_set.symm
theorem b7E (hc:X1 L ext call) {o:AOper} (ho:o.shut=true) {σ σ':Sig} (hL:L≤σ.st.length) (h:j4 call o σ=some σ'):j4 call o (σ.sh L ext)=some (σ'.sh L ext)∧L≤σ'.st.length:=by
 have hst:∀ (d:Dst) (a:AV) (σ:Sig),(d.put a σ).st=σ.st:=fun d a σ=>by cases d <;> rfl
 unfold j4 at h ⊢
 cases hg:o.guard with
 | none=>rw [hg] at h; exact b4B hc ho hL h
 | some xw =>
  obtain ⟨x,w⟩:=xw
  rw [hg] at h
  have hx:x.shut=true:=by
   unfold AOper.shut at ho
   simp only [AA,hg] at ho
   exact ho.2
  dsimp only at h ⊢
  rw [a8J hx]
  cases hr:x.read σ <;> rw [hr] at h <;> try cases h
  · dsimp only [AV.sh] at h ⊢
    split at h
    · rename_i hb; rw [if_pos hb]; exact b4B hc ho hL h
    · rename_i hb; rw [if_neg hb]; cases h; exact ⟨congrArg some (b2G (ext:=ext) o.dst (.tuple []) σ),by rw [hst]; exact hL⟩
  · rename_i vs
    cases vs with
    | nil=>dsimp only at h; cases h; exact ⟨congrArg some (b2G (ext:=ext) o.dst (.tuple []) σ),by rw [hst]; exact hL⟩
    | cons v vs=>cases h
theorem a3J (hc:X1 L ext call):∀ {os:List AOper},os.all AOper.shut=true→∀ {σ σ':Sig},L≤σ.st.length→l7 call os σ=some σ'→l7 call os (σ.sh L ext)=some (σ'.sh L ext)∧L≤σ'.st.length
 | [],_,σ,σ',hL,h=>by simp only [l7] at h ⊢; cases h; exact ⟨rfl,hL⟩
 | o::os,ho,σ,σ',hL,h=>by
  simp only [List.all_cons,AA] at ho
  simp only [l7] at h ⊢
  cases hs:j4 call o σ with
  | none=>rw [hs] at h; cases h
  | some σ1 =>
   rw [hs] at h
   obtain ⟨h1,h2⟩:=b7E hc ho.1 hL hs
   rw [h1]
   exact a3J hc ho.2 h2 h
theorem a0A {d:Nat}:∀ (is:List Nat) (fr:List AV),j8 is (fr.map (AV.sh L d))=(j8 is fr).map (AV.sh L d)
 | [],_=>rfl
 | i::is,fr=>by
  rw [j8,j8,← a0A is,List.map_set]
  rfl
def a1H (L:Nat) (ext:St) (o:Out):Out:=(o.1,o.2.1.map (AV.sh L ext.length),shS L ext o.2.2)
theorem b4K {body:List AV→St→Option Out} (hb:∀ fr st o,L≤st.length→body fr st=some o→body (fr.map (AV.sh L ext.length)) (shS L ext st)=some (a1H L ext o)∧L≤o.2.2.length) :
 ∀ (n:Nat) {fr:List AV} {st:St} {o:Out},L≤st.length→P5 body n fr st=some o→P5 body n (fr.map (AV.sh L ext.length)) (shS L ext st)=some (a1H L ext o)∧L≤o.2.2.length
 | 0,_,_,_,_,h=>by simp [P5] at h
 | n+1,fr,st,o,hL,h=>by
  simp only [P5] at h ⊢
  cases hq:body fr st with
  | none=>rw [hq] at h; cases h
  | some x =>
   obtain ⟨e,fr1,st1⟩:=x
   rw [hq] at h
   obtain ⟨h1,h2⟩:=hb _ _ _ hL hq
   rw [h1]
   cases e with
   | normal=>exact b4K hb n h2 h
   | exit id=>cases h; exact ⟨rfl,h2⟩
   | ret=>cases h; exact ⟨rfl,h2⟩
theorem R4 (hc:X1 L ext call) (n:Nat):∀ {x:ACode},x.shut=true→∀ {fr:List AV} {st:St} {o:Out},L≤st.length→i6 call n x fr st=some o→i6 call n x (fr.map (AV.sh L ext.length)) (shS L ext st)=some (a1H L ext o)∧L≤o.2.2.length
 | .skip,_,_,_,_,hL,h=>by simp only [i6] at h ⊢; cases h; exact ⟨rfl,hL⟩
 | .exit _,_,_,_,_,hL,h=>by simp only [i6] at h ⊢; cases h; exact ⟨rfl,hL⟩
 | .ret,_,_,_,_,hL,h=>by simp only [i6] at h ⊢; cases h; exact ⟨rfl,hL⟩
 | .reg kill ops,hs,fr,st,o,hL,h=>by
  simp only [i6,fL_eq] at h ⊢
  cases hq:l7 call ops ⟨j8 kill fr,fun _=>.undef,st⟩ with
  | none=>simp [hq] at h
  | some σ =>
   obtain ⟨h1,h2⟩:=a3J hc hs hL hq
   simp only [hq] at h
   cases h
   have e:(Sig.sh L ext ⟨j8 kill fr,fun _=>.undef,st⟩)=⟨j8 kill (fr.map (AV.sh L ext.length)),fun _=>.undef,shS L ext st⟩:=by
    rw [a0A]; rfl
   rw [e] at h1
   rw [h1]
   exact ⟨rfl,h2⟩
 | .test kill ops c a b,hs,fr,st,o,hL,h=>by
  simp only [ACode.shut,AA] at hs
  obtain ⟨⟨⟨h1,h2⟩,h3⟩,h4⟩:=hs
  rw [a3q] at h ⊢
  rw [Z3] at h ⊢
  cases hq:l7 call ops ⟨j8 kill fr,fun _=>.undef,st⟩ with
  | none=>rw [hq] at h; cases h
  | some σ =>
   obtain ⟨k1,k2⟩:=a3J hc h1 hL hq
   have e:(Sig.sh L ext ⟨j8 kill fr,fun _=>.undef,st⟩)=⟨j8 kill (fr.map (AV.sh L ext.length)),fun _=>.undef,shS L ext st⟩:=by
    rw [a0A]; rfl
   rw [e] at k1
   rw [hq,n5] at h
   rw [k1,n5,a8J h2]
   unfold br at h ⊢
   cases hr:c.read σ <;> rw [hr] at h <;> try cases h
   rename_i bb
   cases bb
   · exact R4 hc n h4 k2 h
   · exact R4 hc n h3 k2 h
 | .either kill a b,hs,fr,st,o,hL,h=>by
  simp only [ACode.shut,AA] at hs
  simp only [i6] at h ⊢
  obtain ⟨oa,ob,ea,eb,ka,kb⟩:=a2M h
  obtain ⟨a1,a2⟩:=R4 hc n hs.1 hL ea
  obtain ⟨b1,b2⟩:=R4 hc n hs.2 hL eb
  have hk:∀ x:Out,G9 kill (a1H L ext x)=a1H L ext (G9 kill x):=fun x=>by
   unfold G9 a1H
   rw [a0A]
  rw [a1,b1,a0M (by rw [hk,hk,ka,kb]),hk,ka]
  refine ⟨rfl,?_⟩
  rw [← ka]
  exact a2
 | .seq a b,hs,fr,st,o,hL,h=>by
  simp only [ACode.shut,AA] at hs
  rw [exec_seqK] at h ⊢
  cases hq:i6 call n a fr st with
  | none=>rw [hq] at h; cases h
  | some x =>
   obtain ⟨e,fr1,st1⟩:=x
   obtain ⟨h1,h2⟩:=R4 hc n hs.1 hL hq
   rw [hq] at h
   rw [h1]
   cases e with
   | normal=>exact R4 hc n hs.2 h2 h
   | exit id=>cases h; exact ⟨rfl,h2⟩
   | ret=>cases h; exact ⟨rfl,h2⟩
 | .blk id a,hs,fr,st,o,hL,h=>by
  simp only [i6] at h ⊢
  cases hq:i6 call n a fr st with
  | none=>rw [hq] at h; cases h
  | some x =>
   obtain ⟨e,fr1,st1⟩:=x
   obtain ⟨h1,h2⟩:=R4 hc n (x:=a) hs hL hq
   rw [hq] at h
   rw [h1]
   cases e with
   | normal=>cases h; exact ⟨rfl,h2⟩
   | exit id'=>cases h; exact ⟨rfl,h2⟩
   | ret=>cases h; exact ⟨rfl,h2⟩
 | .loop a,hs,fr,st,o,hL,h=>by
  simp only [i6] at h ⊢
  exact b4K (fun fr st o hL h=>R4 hc n (x:=a) hs hL h) n hL h
def c9n (e:List AV→St→Option (AV×St)):Prop:=∀ (L:Nat) (ext:St) as st r st',L≤st.length→e as st=some (r,st')→e (as.map (AV.sh L ext.length)) (shS L ext st)=some (r.sh L ext.length,shS L ext st')∧L≤st'.length
def b48 (tbl:Nat→Option AFn):Prop:=∀ f fn,tbl f=some fn→fn.code.shut=true∧∀ e,fn.ext=some e→c9n e
theorem b7m {d:Nat} (r:ResK) (fr:List AV):r.get (fr.map (AV.sh L d))=(r.get fr).map (AV.sh L d):=by
 cases r with
 | v i=>show some _=some _; rw [U0,← Y7]
 | vs i=>show some _=some _; rw [U0]
 | bx i ag n =>
  simp only [ResK.get]
  rw [U0]
  cases fr.getD i AV.undef <;> try rfl
  rename_i cs
  simp only [AV.sh,s6,N5]
theorem a3I {d:Nat}:∀ (rs:List ResK) (fr:List AV),D9 rs (fr.map (AV.sh L d))=(D9 rs fr).map (·.map (AV.sh L d))
 | [],_=>rfl
 | r::rs,fr=>by
  rw [D9,D9,b7m,a3I rs]
  cases r.get fr <;> cases D9 rs fr <;> rfl
theorem c8x (hc:X1 L ext call) (n:Nat) {fn:AFn} (hf:fn.code.shut=true) {as:List AV} {st st':St} {r:AV} (hL:L≤st.length) (h:fn.run call n as st=some (r,st')):fn.run call n (as.map (AV.sh L ext.length)) (shS L ext st)=some (r.sh L ext.length,shS L ext st')∧L≤st'.length:=by
 have hl:as.length=fn.np:=by
  unfold AFn.run at h
  split at h
  · assumption
  · cases h
 rw [a06 _ _ _ _ _ hl] at h
 rw [a06 _ _ _ _ _ (by rw [AF]; exact hl)]
 cases hq:i6 call n fn.code (as++List.replicate (fn.nv - fn.np) .undef) st with
 | none=>rw [hq] at h; cases h
 | some o =>
  obtain ⟨e,fr,s⟩:=o
  obtain ⟨h1,h2⟩:=R4 hc n hf hL hq
  rw [hq] at h
  rw [AU,List.map_replicate] at h1
  rw [show AV.sh L ext.length .undef=.undef from rfl] at h1
  rw [h1]
  cases e with
  | exit id=>cases h
  | normal =>
   simp only [finK,a1H,a3I] at h ⊢
   cases hg:D9 fn.results fr with
   | none=>rw [hg] at h; cases h
   | some vs =>
    rw [hg] at h
    match vs,h with
    | [],h=>cases h; exact ⟨rfl,h2⟩
    | [v],h=>cases h; exact ⟨rfl,h2⟩
    | v::w::vs,h=>cases h; exact ⟨by simp only [AN,AG,AV.sh,s6,T6],h2⟩
  | ret =>
   simp only [finK,a1H,a3I] at h ⊢
   cases hg:D9 fn.results fr with
   | none=>rw [hg] at h; cases h
   | some vs =>
    rw [hg] at h
    match vs,h with
    | [],h=>cases h; exact ⟨rfl,h2⟩
    | [v],h=>cases h; exact ⟨rfl,h2⟩
    | v::w::vs,h=>cases h; exact ⟨by simp only [AN,AG,AV.sh,s6,T6],h2⟩
theorem b00 {tbl:Nat→Option AFn} (ht:b48 tbl):∀ n,X1 L ext (k7 tbl n)
 | 0,_,_,_,_,_,_,h=>by simp [k7] at h
 | n+1,f,as,st,r,st',hL,h=>by
  simp only [k7] at h ⊢
  cases htb:tbl f with
  | none=>simp [htb] at h
  | some fn =>
   simp only [htb] at h ⊢
   obtain ⟨h1,h2⟩:=ht f fn htb
   cases he:fn.ext with
   | some e=>simp only [he] at h ⊢; exact h2 e he L ext _ _ _ _ hL h
   | none =>
    simp only [he] at h ⊢
    exact c8x (b00 ht n) n h1 hL h
theorem Ev.more {tbl:Nat→Option AFn} (ht:b48 tbl) {f:Nat} {as:List AV} {st:St} {r:AV} {st':St} (h:Ev tbl f as st r st') (ext:St):Ev tbl f (as.map (AV.sh st.length ext.length)) (shS st.length ext st) (r.sh st.length ext.length) (shS st.length ext st'):=by
 obtain ⟨n,hn⟩:=h
 exact ⟨n,(b00 ht n _ _ _ _ _ (AJ _) hn).1⟩
end
end Go.Cb
