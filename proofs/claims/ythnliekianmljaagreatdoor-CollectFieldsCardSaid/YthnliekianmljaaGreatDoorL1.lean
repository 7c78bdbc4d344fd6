import Derived.Test.YthnliekianmljaaGreatDoorC7
import Derived.Test.YthnliekianmljaaGreatDoorW2
set_option maxRecDepth 100000
set_option linter.unusedSimpArgs false
set_option linter.unusedVariables false
namespace Go.Cb.CodeA
open Go Go.Cb
attribute [local congr] i8 k4 k6 k7 j4 j3 l8 l7 V.runR_congr

theorem c2P (ob:Cb.Obj):Sch9 l0 80 (a9a ob):=⟨of_decide_eq_true b0u,fun t ht=>show t.ns.length≤3001 from of_decide_eq_true (List.all_eq_true.1 b3u t ht),false,by kernel_rfl⟩
/-- a collector's surroundings, with variables -/
def b31 (D:Docm) (typ:List Nat) (k n:Int) (s:List Nat) (ks:List (List Nat)) (ls:List Val):Cfg:=⟨52,D.ops.map Op.row,D.frags,typ,k,n,s,ks,ls,O9 l0⟩
structure BaseS (st:St):Prop where
 sch:Sch l0 52 st
 sch9:Sch9 l0 80 st
theorem BaseS.gr {st st':St} (h:BaseS st) (hg:Gr st st'):BaseS st':=⟨h.sch.gr hg,h.sch9.gr fun x hx=>hg _ _ hx⟩
theorem b6Z {N:Nat} {st:St} {out:AV} {gs:List Grp} (h:GrpS N st out gs):Pln out.weak:=by
 rcases h.out with ⟨_,rfl⟩|⟨o,rfl,_⟩
 · exact ⟨rfl,rfl,rfl,rfl⟩
 · exact ⟨rfl,rfl,rfl,rfl⟩
/-- both fields, and that they are the same -/
theorem b5i {D:Docm} (hD:D.Els) (hDK:b0Y D) (hf:D.frags.length≤3000) (hfit:∀ f∈D.frags,∀ x∈f.sub,Fit x) (typ:List Nat) {k n:Int} {s:List Nat} {ks:List (List Nat)} {ls:List Val} (hks:ks.length≤10000) (hev:k=6→ks.length=ls.length)
 {l:List Sel} (hl:l.length≤9000∧∀ x∈l,x.OK) (hk:AllK l) (hlf:∀ x∈l,Fit x) (hsz:m3 l+D4 D.frags≤9000) {st:St} (hb:BaseS st) :
 EvQ tbl 12 [.ptr 52 0,.agg [.list false (D.ops.map Op.row),.list false (D.frags.map Frag.row)],.str typ,.list false (l.map Sel.row),.agg [.int .u8 k,.int .i64 n,.str s,.list false (ks.map b9),.list false (ls.map Val.row)]] st (fun r st1=>Pln r ∧
  EvQ tbl 16 [.ptr 80 0,.agg [.list false (D.ops.map Op.row),.list false (D.frags.map Frag.row)],.str typ,.list false (l.map Sel.row),.agg [.int .u8 k,.int .i64 n,.str s,.list false (ks.map b9),.list false (ls.map Val.row)]] st1 (fun r2 st2=>Pln r2 ∧
   EvQ tbl 15 [r,r2] st2 (fun a st3=>a=.bool true∧BaseS st3))):=by
 have hKok:(b31 D typ k n s ks ls).OK:=⟨hks,hev,⟨hf,hD.frags⟩,b0n⟩
 have hP:b36 (b31 D typ k n s ks ls) st st.length:=fun m st' hg=>c8H (hb.sch.gr fun i x hx=>hg i x (List.getElem?_eq_some_iff.1 hx).1 hx) m
 refine (b71 hKok l hl hsz st hP).mono ?_
 rintro r st1 ⟨hg,F,s',out,gs,hrun,rfl,hG,hgs⟩
 have hb1:=hb.gr hg
 have h80:80 < st1.length:=by
  obtain ⟨w,h⟩:=hb1.sch9.ob
  exact (List.getElem?_eq_some_iff.1 h).1
 obtain ⟨z1,z2⟩:=hrun.size
 have hFl:F.length≤9000:=by
  have e:m2 (b31 D typ k n s ks ls).frags []=D4 D.frags:=rfl
  omega
 have hFf:=hrun.all (P:=Fit) (fun x hx=>b20 hx) hfit hlf
 have hgl:=a1L F
 refine ⟨b6Z hG,(b5E hKok (T:=l0) (fun m=>rfl) b0n hDK.2 h80 hrun hl hk hb1.sch9 hFl (by
  have e:m2 (b31 D typ k n s ks ls).frags []=D4 D.frags:=rfl
  omega)).mono ?_⟩
 rintro r2 st2 ⟨gs',N,hN,hT,hgs',hold⟩
 have hg2:Gr st1 st2:=fun i x hx=>hold i x (List.getElem?_eq_some_iff.1 hx).1 hx
 have hG2:=hG.ext (st':=st2) fun i x _ hx=>hg2 i x hx
 refine ⟨?_,(c3s hG2 hT (by rw [hgs,hgs']) (fun g hgm x hx=>?_) ⟨?_,fun g hgm=>?_⟩).mono ?_⟩
 · rcases hT.out with ⟨_,rfl⟩|⟨o,rfl,_⟩
   · exact ⟨rfl,rfl,rfl,rfl⟩
   · exact ⟨rfl,rfl,rfl,rfl⟩
 · have hm:g.pr∈Q8 F:=by rw [← hgs]; exact List.mem_map_of_mem hgm
   rw [b2C] at hm
   obtain ⟨kk,_,e⟩:=List.mem_map.1 hm
   have e2:g.fs=Z3 F kk:=congrArg Prod.snd e.symm
   rw [e2] at hx
   exact hFf x (List.mem_filter.1 hx).1
 · have:=hgl.1
   rw [← hgs,List.length_map] at this
   omega
 · have:=hgl.2 g.pr (by rw [← hgs]; exact List.mem_map_of_mem hgm)
   have e:g.pr.2.length=g.fs.length:=rfl
   omega
 · rintro a st3 ⟨rfl,rfl⟩
   exact ⟨rfl,hb1.gr hg2⟩
end Go.Cb.CodeA
