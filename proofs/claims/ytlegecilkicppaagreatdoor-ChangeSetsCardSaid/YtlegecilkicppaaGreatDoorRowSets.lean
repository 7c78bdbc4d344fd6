/- The law ChangeSets answers true for all inputs: the tied card of that row; no conditions. -/
import Derived.Test.YtlegecilkicppaaGreatDoorRow0
import Derived.Test.YtlegecilkicppaaGreatDoorSL
import Derived.Test.YtlegecilkicppaaGreatDoorOpenT
set_option maxRecDepth 100000
set_option linter.all false
namespace Go.Proofs.YtlegecilkicppaaGreatDoor
open Go.Clock Go.ChangeShapes Go.WideShapes Go.ChangeAt Go.WideMaps Go.WideElems Go.RowKit Go.ChangeMaps Go.Cb Go.Cb.CodeA
theorem a4W (os:Os) (started:os.Started) (H:Type) (enc:TypeId×Value→H) (F:Stop.Interp) :
 ReturnsInHanded { calm:=true } Tryz.checked os 3 .any (fun w args=>(Rows.changeSetsSpec.pre enc Tryz.prog Tryz.f3 [] false w args∧laidMetH Tryz.prog a6u w)∧sizedMet enc Tryz.prog Tryz.f3 (OpenSpec.ofChange Rows.changeSetsSpec) false w args)
  ((OpenSpec.ofChange Rows.changeSetsSpec).postWith enc Tryz.prog Tryz.f3 F (outsideKept [.timePasses]) false true false):=by
 refine returns_of_change (C:=Tryz.checked) (X:=fun w _=>laidMetH Tryz.prog a6u w) (fun _ _ _ hh h=>h.of_heap hh) own started (by kernel_rfl) Tryz.func3
  (witness_at (enc:=enc) (C:=Tryz.checked) (os:=os) (X:=fun w _=>laidMetH Tryz.prog a6u w) (World.doorLaid Tryz.prog 400 os) #[.slice none 0 0,.int .i32 0,.string ⟨#[]⟩] 8 rfl (World.shaped_of_RefB (by kernel_rfl) (by kernel_rfl)) (by kernel_rfl) (by kernel_rfl) (by kernel_rfl) (b7o os _)) ?_
 intro W base args ds gs before B hW _ b5 hL _;have i:∀ (j:Nat) t v,Tryz.f3.params[j]?=some t→args[j]?=some v→Value.okWide Tryz.prog W .any base t v:=B
 have G:=hW;obtain⟨p,q,Y,hV,rfl,b7,b8⟩:=hW;have hA:DataW.TrodAll enc Tryz.prog W 0 (fun _=>true) true Tryz.f3.params.toList args.toList ds p:=Y;rw[Tryz.params3]at hA i;obtain⟨v0,v1,v2,d0,d1,d2,a0,a1,a2,rfl,rfl,rfl,h0,h1,h2⟩:=trodAll_three hA;obtain⟨rfl,rfl⟩:=trodVars_none hV;obtain⟨b0,N,E,rfl⟩:=okWide_slice Tryz.underlying22 (i 0 22 v0 rfl rfl);obtain⟨U,V⟩:=id h0;obtain⟨x0,b6,T,_,_,R0,O⟩:=a7H (R:=fun r=>∃ s:Thg,s.OK∧r=s.row) Tryz.underlying22 (by rw[c63]; decide) (fun m cs y _ hY hy=>b2O hY hy) V (fun es sp he d hd=>b0Y b5 (j:=0) (by kernel_rfl) (by rw[show d0=DataW.slice es sp from he]; rfl) d hd);have T:=(List.cons.inj (show [_]=[_]from T)).1;subst T;obtain⟨l0,rfl,b1⟩:=a6Y R0;obtain⟨k1,rfl,rfl,rfl,I⟩:=open_int Tryz.underlying21 (i 1 21 v1 rfl rfl) h1;have b4:(Lit.int .i32 k1).wf=true:=I;have Z:-2147483648≤k1∧k1 < 2147483648:=by have:=b4;simp[Lit.wf,IntKind.min,IntKind.max,IntKind.signed,IntKind.bits]at this;omega
 obtain⟨s2,rfl,rfl,rfl,b3⟩:=open_string Tryz.underlying9 (i 2 9 v2 rfl rfl) h2;obtain⟨n,st',M⟩:=c3H l0 b1 k1 (s2.data.toList.map UInt8.toNat) Z;refine(c1u c4f M (fun x hx=>?_) (a7Y hL) (vs:=[.slice b0 N E,.int .i32 k1,.string s2]) ?_).mono fun e D ⟨he,S⟩=>?_
 · simp only[List.mem_cons,List.not_mem_nil,or_false]at hx;rcases hx with rfl|rfl|rfl<;>rfl
 · simp only[RelL];exact⟨_,_,rfl,O,_,_,rfl,by simp only[Rel],_,_,rfl,by simp only[Rel]; exact⟨s2,rfl,rfl⟩,rfl⟩
 · subst he;have J:D.os=W.os:=S.kept.1;have e:({ D with os:=W.os }:World)=D:=by rw[← J]
   refine⟨_,rfl,?_,J ▸ Later.refl _⟩;rw[e];have b2:∀ y∈a0++([]++[]),y.block < W.heap.size:=fun y l=>G.lt y (by simpa using l)
   have u:∀ y∈a0++([]++[]),W.sameAt D y:=fun y l=>by
    have ho:=S.old y.block (b2 y l);cases y with
    | cell b off=>show D.cell? ⟨b,off,none⟩=W.cell? ⟨b,off,none⟩; unfold World.cell?; rw[show D.heap[b]?=W.heap[b]? from ho]
    | map b=>exact ho
   refine a8b (pa:=a0++([]++[])) (pv:=[]) G (fun _ _ _=>trodAll_mk1 (shut_bool Tryz.underlying4 _)) (fun sp z=>?_) (fun _ _=>rfl) (by simp) (World.keptBut_mono (fun p l=>l.elim) S.kept) S.fz (ok_one (by kernel_rfl) rfl (okWide_bool_mk Tryz.underlying4 _));have z:∀ y∈a0++([]++[]),sp y.block=true:=fun y l=>z y (by simpa using l)
   rw[Tryz.params3];exact trodAll_mk3 (WideElems.Trod_stays (P:=Tryz.prog) (by kernel_rfl) (by kernel_rfl) (of_decide_eq_true (by kernel_rfl)) h0 (fun p l=>u p (by simp[l])) (fun p l=>z p (by simp[l]))) (shut_int Tryz.underlying21 I) (shut_string Tryz.underlying9 b3)
theorem j1:Rows.changeSetsRow.wf (OpenSpec.ofChange Rows.changeSetsSpec)=true:=by kernel_rfl
theorem j2:laidOutB Tryz.prog=true:=by kernel_rfl
theorem j3:mapsRowed Tryz.prog=true:=by kernel_rfl
theorem j4:(Rows.changeSetsRow.inPlace == Tryz.prog.inPlace 3)=true:=by kernel_rfl
theorem j5:(Rows.changeSetsRow.unfollowed == Tryz.prog.unfollowed 3)=true:=by kernel_rfl
theorem j6:(Rows.changeSetsRow.recurses == Tryz.prog.recurses 3)=true:=by kernel_rfl
theorem j7:(Rows.changeSetsRow.named == Tryz.prog.varsNamed 3)=true:=by kernel_rfl
theorem j8:(Rows.changeSetsRow.plainKeys == Tryz.prog.plainKeys)=true:=by kernel_rfl
theorem c8V:joinedFacts Tryz.prog 3 Tryz.f3 Rows.changeSetsSpec Rows.changeSetsRow=true:=by simp only[joinedFacts,j1,j2,j3,j4,j5,j6,j7,j8,Bool.true_and,Bool.and_true];kernel_rfl
theorem a5L:Rows.ChangeSetsSaid :=
 holds_of_wide_time 3 Tryz.f3 rfl rfl rfl rfl rfl rfl rfl ⟨rfl,rfl,rfl,rfl,rfl⟩ rfl rfl rfl rfl rfl (by kernel_rfl) Tryz.func3 c8V
  (of_decide_eq_true (by kernel_rfl)) (by unfold Func.isWrapper; first|(rw[if_pos (by decide +kernel)]; kernel_rfl)|(rw[if_neg (by decide +kernel)]; exact⟨rfl,rfl⟩))
  (fun os started H enc _ F=>a4W os started H enc F)
theorem changeSets_card:Rows.ChangeSetsCardSaid :=
 Claim7.holds_tied_plain_at .later [] [.data,.data,.data,.sentinel,.sentinel,.widerDeep] true (true, "c5f92f5a2f77cd89905d3de6ef2ae66306179901f7c326b90c295a7abcd4470d") true
  a5L (fun _ h=>by cases h) (by kernel_rfl) (fun _ h=>by cases h) changeSets_row_tie rfl ⟨rfl,rfl⟩ (by kernel_rfl) rfl
  (fun f fn y l=>by
   obtain rfl:f=3:=Option.some.inj ((show Tryz.prog.funcNamed "columbary/columbarylaw14.ChangeSets"=some 3 by kernel_rfl).symm.trans y) |>.symm
   obtain rfl:fn=Tryz.f3:=(Option.some.inj (Tryz.func3.symm.trans l)).symm;exact⟨by kernel_rfl,fun j t x=>by
    rw[Tryz.params3]at x;have hm:t∈[22,21,9]:=by simpa using Array.mem_of_getElem? x
    have i:([22,21,9].all fun u=>!Tryz.prog.wantsStandIn u)=true:=by kernel_rfl
    exact(show Tryz.prog.wantsStandIn t=false by simpa using List.all_eq_true.1 i t hm)⟩)
  (by kernel_rfl)
#print axioms changeSets_card
end Go.Proofs.YtlegecilkicppaaGreatDoor
