import Derived.Test.YtbibkdncfclnbaaGreatDoorRD
import Derived.Test.YtbibkdncfclnbaaGreatDoorSH
import Derived.Test.YtbibkdncfclnbaaGreatDoorXAms4
set_option maxRecDepth 100000
set_option linter.unusedVariables false
namespace Go.Cb.CodeA
open Go Go.Cb
def rdL:List Nat:=[13,16,21,34,35,50,51,58,61,63,64,65,66,67,68,69,70,71,72,73,74,75,76,94,97,110,111,113,114,117,118,119,120,121,122,123,124,125,126,127,128,129,139,140,141,142,156,157,158,159,160,161,162,163,164,165,183,184,200,204]
def rdB (f:Nat):Bool:=rdL.any fun k=>Nat.beq k f
noncomputable def a28 (f:Nat):Option AFn:=match rdB f with
 | true=>tbl f
 | false=>none
theorem b2X {f:Nat} {fn:AFn} (h:a28 f=some fn):tbl f=some fn∧f∈rdL:=by
 unfold a28 at h
 cases hb:rdB f with
 | false=>rw [hb] at h; cases h
 | true =>
  rw [hb] at h
  refine ⟨h,?_⟩
  obtain ⟨k,hk,he⟩:=List.any_eq_true.1 hb
  rw [Nat.eq_of_beq_eq_true he] at hk
  exact hk
theorem b1L:∀ n,W7 (k7 a28 n) (k7 tbl n)
 | 0,_,_,_,_,h=>by simp [k7] at h
 | n+1,f,as,st,r,h=>by
  simp only [k7] at h ⊢
  cases htb:a28 f with
  | none=>simp [htb] at h
  | some fn =>
   rw [(b2X htb).1]
   simp only [htb] at h ⊢
   cases he:fn.ext with
   | some e=>simp only [he] at h ⊢; exact h
   | none =>
    simp only [he] at h ⊢
    exact b1g (b1L n) (AJ n) h
theorem Ev.ofR {f:Nat} {as:List AV} {st st':St} {r:AV} (h:Ev a28 f as st r st'):Ev tbl f as st r st':=let ⟨n,hn⟩:=h; ⟨n,b1L n _ _ _ _ hn⟩
noncomputable def c2b (f:Nat):Bool:=match tbl f with
 | some fn=>fn.code.shut && (match fn.ext with|none=>true|some _=>false)
 | none=>true
theorem c4b:rdL.all c2b=true:=by kernel_rfl
theorem c5k:b48 a28:=fun f fn h=>by
 obtain ⟨h1,h2⟩:=b2X h
 have h3:=List.all_eq_true.1 c4b f h2
 unfold c2b at h3
 rw [h1] at h3
 dsimp only at h3
 rw [AA] at h3
 refine ⟨h3.1,fun e he=>?_⟩
 rw [he] at h3
 cases h3.2
noncomputable def b5x (t:List Nat):Option AV:=match Go.Cb.G.callG a28 3000 13 [.ptr mo0 0,.str t] T_bb with
 | some (v,st')=>if a8j T_bb st' then some v else none
 | none=>none
theorem b30 (d:Nat):T_bb.map (Obj.sh 81 d)=T_bb:=by kernel_rfl
theorem a01:T_bb.length=81:=by kernel_rfl
theorem b3K {B st:St} (h:Gr B st):st.take B.length=B:=by
 apply List.ext_getElem?
 intro i
 by_cases hi:i < B.length
 · rw [List.getElem?_take,if_pos hi,h i B[i] (AD hi),AD hi]
 · rw [List.getElem?_take,if_neg hi,List.getElem?_eq_none (by omega)]
theorem c0r {t:List Nat} {v:AV} (h:b5x t=some v) (hv:v.shut=true) (ext:St):EvQ tbl 13 [.ptr mo0 0,.str t] (T_bb++ext) (fun a st'=>a=v∧Gr (T_bb++ext) st'):=by
 unfold b5x at h
 cases hc:Go.Cb.G.callG a28 3000 13 [.ptr mo0 0,.str t] T_bb with
 | none=>rw [hc] at h; cases h
 | some x =>
  obtain ⟨w,st'⟩:=x
  rw [hc] at h
  dsimp only at h
  split at h
  · rename_i hp
    cases h
    have hg:=b3J hp
    have hev:Ev a28 13 [.ptr mo0 0,.str t] T_bb v st':=Go.Cb.G.ev_ofG hc
    have hm:=Ev.more c5k hev ext
    rw [a01] at hm
    have e1:shS 81 ext T_bb=T_bb++ext:=by
     unfold shS
     rw [List.take_of_length_le (by rw [a01]; exact AJ _),List.drop_of_length_le (by rw [a01]; exact AJ _),b30]
     simp
    have e2:∃ r,shS 81 ext st'=T_bb++ext++r:=by
     refine ⟨(st'.drop 81).map (Obj.sh 81 ext.length),?_⟩
     unfold shS
     have:=b3K hg
     rw [a01] at this
     rw [this,b30]
    obtain ⟨r,e2⟩:=e2
    rw [e1,e2,a4q _ _ v hv] at hm
    refine ⟨v,_,Ev.ofR hm,rfl,Gr.app _ _⟩
  · cases h
end Go.Cb.CodeA
