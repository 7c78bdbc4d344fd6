/- The law ChangeWhole answers true for all inputs: the tied card of that row; no conditions. -/
import Derived.Test.YtdlgfdncpemcnaaGreatDoorRow0
import Derived.Test.YtdlgfdncpemcnaaGreatDoorW8
import Derived.Test.YtdlgfdncpemcnaaGreatDoorOpenT
set_option maxRecDepth 100000
set_option linter.all false
namespace Go.Proofs.YtdlgfdncpemcnaaGreatDoor
open Go.ChangeShapes Go.WideShapes Go.ChangeAt Go.WideMaps Go.WideElems Go.RowKit Go.ChangeMaps Go.Cb Go.Cb.CodeA
theorem a3R (os:Os) (started:os.Started) (H:Type) (enc:TypeId×Value→H) :
 ReturnsInHanded {} Tryz.checked os 4 .any (fun w args=>(Rows.changeWholeSpec.pre enc Tryz.prog Tryz.f4 [] false w args∧laidMetH Tryz.prog a6A w)∧sizedMet enc Tryz.prog Tryz.f4 (OpenSpec.ofChange Rows.changeWholeSpec) false w args)
  (Rows.changeWholeSpec.post enc Tryz.prog Tryz.f4 false true false false):=by
 refine returnsInHanded_of_change_and (C:=Tryz.checked) (X:=fun w _=>laidMetH Tryz.prog a6A w) (fun _ _ _ hh h=>h.of_heap hh) own started (by kernel_rfl) Tryz.func4
  (ChangeSpec.witness_shaped (enc:=enc) (C:=Tryz.checked) (os:=os) (X:=fun w _=>laidMetH Tryz.prog a6A w) false (World.doorLaid Tryz.prog 400 os) #[.slice none 0 0,.int .u8 0,.int .i16 0] 8 rfl (World.shaped_of_RefB (by kernel_rfl) (by kernel_rfl)) (by kernel_rfl) (by kernel_rfl) (by kernel_rfl) (b9y os _)) ?_
 intro W base args ds gs before B hW _ b4 hL _;have i:∀ (j:Nat) t v,Tryz.f4.params[j]?=some t→args[j]?=some v→Value.okWide Tryz.prog W .any base t v:=B
 have E:=hW;obtain⟨p,q,U,hV,rfl,b6,b7⟩:=hW;have hA:DataW.TrodAll enc Tryz.prog W 0 (fun _=>true) true Tryz.f4.params.toList args.toList ds p:=U;rw[Tryz.params4]at hA i;obtain⟨v0,v1,v2,d0,d1,d2,a0,a1,a2,rfl,rfl,rfl,h0,h1,h2⟩:=trodAll_three hA;obtain⟨rfl,rfl⟩:=trodVars_none hV;obtain⟨b0,J,D,rfl⟩:=okWide_slice Tryz.underlying49 (i 0 49 v0 rfl rfl);obtain⟨S,T⟩:=id h0;obtain⟨x0,b5,O,_,_,R0,M⟩:=a7Q (R:=fun r=>∃ s:Thg,s.OK∧r=s.row) Tryz.underlying49 (by rw[c53]; decide) (fun m cs y _ hY hy=>b3t hY hy) T (fun es sp Z d hd=>b09 b4 (j:=0) (by kernel_rfl) (by rw[show d0=DataW.slice es sp from Z]; rfl) d hd);have O:=(List.cons.inj (show [_]=[_]from O)).1;subst O;obtain⟨l0,rfl,a3⟩:=a6N R0;obtain⟨k1,rfl,rfl,rfl,F⟩:=open_int Tryz.underlying5 (i 1 5 v1 rfl rfl) h1;have b2:(Lit.int .u8 k1).wf=true:=F;have V:0≤k1:=b3r b2;obtain⟨k2,rfl,rfl,rfl,G⟩:=open_int Tryz.underlying50 (i 2 50 v2 rfl rfl) h2;have b3:(Lit.int .i16 k2).wf=true:=G;have Y:-32768≤k2∧k2≤32767:=by have:=b3;simp[Lit.wf,IntKind.min,IntKind.max,IntKind.signed,IntKind.bits]at this;omega
 obtain⟨n,st',I⟩:=c0l l0 a3 k1 k2 V Y;refine(c3v c6P I (fun x hx=>?_) (a8q hL) (vs:=[.slice b0 J D,.int .u8 k1,.int .i16 k2]) ?_).mono fun e N ⟨Z,hw⟩=>?_
 · simp only[List.mem_cons,List.not_mem_nil,or_false]at hx;rcases hx with rfl|rfl|rfl<;>rfl
 · simp only[RelL];exact⟨_,_,rfl,M,_,_,rfl,by simp only[Rel],_,_,rfl,by simp only[Rel],rfl⟩
 · subst Z;refine⟨_,rfl,?_⟩;have b1:∀ y∈a0++([]++[]),y.block < W.heap.size:=fun y l=>E.lt y (by simpa using l)
   have u:∀ y∈a0++([]++[]),W.sameAt N y:=fun y l=>by
    have ho:=hw.old y.block (b1 y l);cases y with
    | cell b off=>show N.cell? ⟨b,off,none⟩=W.cell? ⟨b,off,none⟩; unfold World.cell?; rw[show N.heap[b]?=W.heap[b]? from ho]
    | map b=>exact ho
   refine a8r (pa:=a0++([]++[])) (pv:=[]) E (fun _ _ _=>trodAll_mk1 (shut_bool Tryz.underlying4 _)) (fun sp z=>?_) (fun _ _=>rfl) (by simp) (World.keptBut_mono (fun p l=>l.elim) hw.kept) hw.fz (ok_one (by kernel_rfl) rfl (okWide_bool_mk Tryz.underlying4 _));have z:∀ y∈a0++([]++[]),sp y.block=true:=fun y l=>z y (by simpa using l)
   rw[Tryz.params4];exact trodAll_mk3 (WideElems.Trod_stays (P:=Tryz.prog) (by kernel_rfl) (by kernel_rfl) (of_decide_eq_true (by kernel_rfl)) h0 (fun p l=>u p (by simp[l])) (fun p l=>z p (by simp[l]))) (shut_int Tryz.underlying5 F) (shut_int Tryz.underlying50 G)
theorem j1:Rows.changeWholeRow.wf (OpenSpec.ofChange Rows.changeWholeSpec)=true:=by kernel_rfl
theorem j2:laidOutB Tryz.prog=true:=by kernel_rfl
theorem j3:mapsRowed Tryz.prog=true:=by kernel_rfl
theorem j4:(Rows.changeWholeRow.inPlace == Tryz.prog.inPlace 4)=true:=by kernel_rfl
theorem j5:(Rows.changeWholeRow.unfollowed == Tryz.prog.unfollowed 4)=true:=by kernel_rfl
theorem j6:(Rows.changeWholeRow.recurses == Tryz.prog.recurses 4)=true:=by kernel_rfl
theorem j7:(Rows.changeWholeRow.named == Tryz.prog.varsNamed 4)=true:=by kernel_rfl
theorem j8:(Rows.changeWholeRow.plainKeys == Tryz.prog.plainKeys)=true:=by kernel_rfl
theorem d5l:joinedFacts Tryz.prog 4 Tryz.f4 Rows.changeWholeSpec Rows.changeWholeRow=true:=by simp only[joinedFacts,j1,j2,j3,j4,j5,j6,j7,j8,Bool.true_and,Bool.and_true];kernel_rfl
theorem a4P:Rows.ChangeWholeSaid :=
 OpenClaim.holds_of_wide 4 Tryz.f4 rfl rfl rfl rfl rfl rfl rfl ⟨rfl,rfl,rfl,rfl,rfl⟩ rfl rfl rfl rfl rfl (by kernel_rfl) Tryz.func4 d5l
  (of_decide_eq_true (by kernel_rfl)) (by unfold Func.isWrapper; first|(rw[if_pos (by decide +kernel)]; kernel_rfl)|(rw[if_neg (by decide +kernel)]; exact⟨rfl,rfl⟩))
  (fun os started H enc _=>a3R os started H enc)
theorem changeWhole_card:Rows.ChangeWholeCardSaid :=
 Claim7.holds_tied_plain_at .later [] [.data,.data,.data,.sentinel,.sentinel,.widerDeep] true (true, "23ea5bf2bd92bf40dfa5f980a1a415244fce0ed6176a25db9029036bad3b3276") true
  a4P (fun _ h=>by cases h) (by kernel_rfl) (fun _ h=>by cases h) changeWhole_row_tie rfl ⟨rfl,rfl⟩ (by kernel_rfl) rfl
  (fun f fn x l=>by
   obtain rfl:f=4:=Option.some.inj ((show Tryz.prog.funcNamed "columbary/columbarylaw14.ChangeWhole"=some 4 by kernel_rfl).symm.trans x) |>.symm
   obtain rfl:fn=Tryz.f4:=(Option.some.inj (Tryz.func4.symm.trans l)).symm;exact⟨by kernel_rfl,fun j t v=>by
    rw[Tryz.params4]at v;have y:t∈[49,5,50]:=by simpa using Array.mem_of_getElem? v
    have i:([49,5,50].all fun u=>!Tryz.prog.wantsStandIn u)=true:=by kernel_rfl
    exact(show Tryz.prog.wantsStandIn t=false by simpa using List.all_eq_true.1 i t y)⟩)
  (by kernel_rfl)
#print axioms changeWhole_card
end Go.Proofs.YtdlgfdncpemcnaaGreatDoor
