/- The law ChangeJoins answers true for all inputs: the tied card of that row; no conditions. -/
import Derived.Test.YtgaibigpannjfaaGreatDoorRow0
import Derived.Test.YtgaibigpannjfaaGreatDoorJs2
import Derived.Test.YtgaibigpannjfaaGreatDoorOpenT
set_option maxRecDepth 100000
set_option linter.all false
namespace Go.Proofs.YtgaibigpannjfaaGreatDoor
open Go.Clock Go.ChangeShapes Go.WideShapes Go.ChangeAt Go.WideMaps Go.WideElems Go.RowKit Go.ChangeMaps Go.Cb Go.Cb.CodeA
theorem c2x {k:Int} (h:(Lit.int .u8 k).wf=true):0≤k∧k < 256:=by simp[Lit.wf,IntKind.min,IntKind.max,IntKind.signed,IntKind.bits]at h;omega
theorem a4R (os:Os) (started:os.Started) (H:Type) (enc:TypeId×Value→H) (F:Stop.Interp) :
 ReturnsInHanded { calm:=true } Tryz.checked os 3 .any (fun w args=>(Rows.changeJoinsSpec.pre enc Tryz.prog Tryz.f3 [] false w args∧laidMetH Tryz.prog a7U w)∧sizedMet enc Tryz.prog Tryz.f3 (OpenSpec.ofChange Rows.changeJoinsSpec) false w args)
  ((OpenSpec.ofChange Rows.changeJoinsSpec).postWith enc Tryz.prog Tryz.f3 F (outsideKept [.timePasses]) false true false):=by
 refine returns_of_change (C:=Tryz.checked) (X:=fun w _=>laidMetH Tryz.prog a7U w) (fun _ _ _ hh h=>h.of_heap hh) own started (by kernel_rfl) Tryz.func3
  (witness_at (enc:=enc) (C:=Tryz.checked) (os:=os) (X:=fun w _=>laidMetH Tryz.prog a7U w) (World.doorLaid Tryz.prog 400 os) #[.slice none 0 0,.int .u8 0,.int .u8 0] 8 rfl (World.shaped_of_RefB (by kernel_rfl) (by kernel_rfl)) (by kernel_rfl) (by kernel_rfl) (by kernel_rfl) (b9w os _)) ?_
 intro W base args ds gs before B hW _ b5 hL _;have i:∀ (j:Nat) t v,Tryz.f3.params[j]?=some t→args[j]?=some v→Value.okWide Tryz.prog W .any base t v:=B
 have I:=hW;obtain⟨p,q,Z,hV,rfl,b7,b8⟩:=hW;have hA:DataW.TrodAll enc Tryz.prog W 0 (fun _=>true) true Tryz.f3.params.toList args.toList ds p:=Z;rw[Tryz.params3]at hA i;obtain⟨v0,v1,v2,d0,d1,d2,a0,a1,a2,rfl,rfl,rfl,h0,h1,h2⟩:=trodAll_three hA;obtain⟨rfl,rfl⟩:=trodVars_none hV;obtain⟨b0,O,G,rfl⟩:=okWide_slice Tryz.underlying22 (i 0 22 v0 rfl rfl);obtain⟨V,Y⟩:=id h0;obtain⟨x0,b6,e0,_,_,R0,S⟩:=a9v (R:=fun r=>∃ s:Thg,s.OK∧r=s.row) Tryz.underlying22 (by rw[c62]; decide) (fun m cs y _ hY hy=>b4n hY hy) Y (fun es sp he d hd=>b16 b5 (j:=0) (by kernel_rfl) (by rw[show d0=DataW.slice es sp from he]; rfl) d hd);have e0:=(List.cons.inj (show [_]=[_]from e0)).1;subst e0;obtain⟨l0,rfl,b1⟩:=a8M R0;obtain⟨k1,rfl,rfl,rfl,J⟩:=open_int Tryz.underlying5 (i 1 5 v1 rfl rfl) h1;have b3:(Lit.int .u8 k1).wf=true:=J;obtain⟨k2,rfl,rfl,rfl,L⟩:=open_int Tryz.underlying5 (i 2 5 v2 rfl rfl) h2;have b4:(Lit.int .u8 k2).wf=true:=L;obtain⟨n,st',N⟩:=c09 l0 b1 k1 k2 (c2x b3) (c2x b4);refine(c3D c3r N (fun x hx=>?_) (a9I hL) (vs:=[.slice b0 O G,.int .u8 k1,.int .u8 k2]) ?_).mono fun e E ⟨he,U⟩=>?_
 · simp only[List.mem_cons,List.not_mem_nil,or_false]at hx;rcases hx with rfl|rfl|rfl<;>rfl
 · simp only[RelL];exact⟨_,_,rfl,S,_,_,rfl,by simp only[Rel],_,_,rfl,by simp only[Rel],rfl⟩
 · subst he;have M:E.os=W.os:=U.kept.1;have e:({ E with os:=W.os }:World)=E:=by rw[← M]
   refine⟨_,rfl,?_,M ▸ Later.refl _⟩;rw[e];have b2:∀ y∈a0++([]++[]),y.block < W.heap.size:=fun y l=>I.lt y (by simpa using l)
   have u:∀ y∈a0++([]++[]),W.sameAt E y:=fun y l=>by
    have ho:=U.old y.block (b2 y l);cases y with
    | cell b off=>show E.cell? ⟨b,off,none⟩=W.cell? ⟨b,off,none⟩; unfold World.cell?; rw[show E.heap[b]?=W.heap[b]? from ho]
    | map b=>exact ho
   refine a9G (pa:=a0++([]++[])) (pv:=[]) I (fun _ _ _=>trodAll_mk1 (shut_bool Tryz.underlying4 _)) (fun sp z=>?_) (fun _ _=>rfl) (by simp) (World.keptBut_mono (fun p l=>l.elim) U.kept) U.fz (ok_one (by kernel_rfl) rfl (okWide_bool_mk Tryz.underlying4 _));have z:∀ y∈a0++([]++[]),sp y.block=true:=fun y l=>z y (by simpa using l)
   rw[Tryz.params3];exact trodAll_mk3 (WideElems.Trod_stays (P:=Tryz.prog) (by kernel_rfl) (by kernel_rfl) (of_decide_eq_true (by kernel_rfl)) h0 (fun p l=>u p (by simp[l])) (fun p l=>z p (by simp[l]))) (shut_int Tryz.underlying5 J) (shut_int Tryz.underlying5 L)
theorem j1:Rows.changeJoinsRow.wf (OpenSpec.ofChange Rows.changeJoinsSpec)=true:=by kernel_rfl
theorem j2:laidOutB Tryz.prog=true:=by kernel_rfl
theorem j3:mapsRowed Tryz.prog=true:=by kernel_rfl
theorem j4:(Rows.changeJoinsRow.inPlace == Tryz.prog.inPlace 3)=true:=by kernel_rfl
theorem j5:(Rows.changeJoinsRow.unfollowed == Tryz.prog.unfollowed 3)=true:=by kernel_rfl
theorem j6:(Rows.changeJoinsRow.recurses == Tryz.prog.recurses 3)=true:=by kernel_rfl
theorem j7:(Rows.changeJoinsRow.named == Tryz.prog.varsNamed 3)=true:=by kernel_rfl
theorem j8:(Rows.changeJoinsRow.plainKeys == Tryz.prog.plainKeys)=true:=by kernel_rfl
theorem d4M:joinedFacts Tryz.prog 3 Tryz.f3 Rows.changeJoinsSpec Rows.changeJoinsRow=true:=by simp only[joinedFacts,j1,j2,j3,j4,j5,j6,j7,j8,Bool.true_and,Bool.and_true];kernel_rfl
theorem a6t:Rows.ChangeJoinsSaid :=
 holds_of_wide_time 3 Tryz.f3 rfl rfl rfl rfl rfl rfl rfl ⟨rfl,rfl,rfl,rfl,rfl⟩ rfl rfl rfl rfl rfl (by kernel_rfl) Tryz.func3 d4M
  (of_decide_eq_true (by kernel_rfl)) (by unfold Func.isWrapper; first|(rw[if_pos (by decide +kernel)]; kernel_rfl)|(rw[if_neg (by decide +kernel)]; exact⟨rfl,rfl⟩))
  (fun os started H enc _ F=>a4R os started H enc F)
theorem changeJoins_card:Rows.ChangeJoinsCardSaid :=
 Claim7.holds_tied_plain_at .later [] [.data,.data,.data,.sentinel,.sentinel,.widerDeep] true (true, "c1fa3b79e65d20ef5ea85cef9191536698cf425fd50f87e403891063af5bd9de") true
  a6t (fun _ h=>by cases h) (by kernel_rfl) (fun _ h=>by cases h) changeJoins_row_tie rfl ⟨rfl,rfl⟩ (by kernel_rfl) rfl
  (fun f fn y l=>by
   obtain rfl:f=3:=Option.some.inj ((show Tryz.prog.funcNamed "columbary/columbarylaw14.ChangeJoins"=some 3 by kernel_rfl).symm.trans y) |>.symm
   obtain rfl:fn=Tryz.f3:=(Option.some.inj (Tryz.func3.symm.trans l)).symm;exact⟨by kernel_rfl,fun j t x=>by
    rw[Tryz.params3]at x;have hm:t∈[22,5]:=by simpa using Array.mem_of_getElem? x
    have i:([22,5].all fun u=>!Tryz.prog.wantsStandIn u)=true:=by kernel_rfl
    exact(show Tryz.prog.wantsStandIn t=false by simpa using List.all_eq_true.1 i t hm)⟩)
  (by kernel_rfl)
#print axioms changeJoins_card
end Go.Proofs.YtgaibigpannjfaaGreatDoor
