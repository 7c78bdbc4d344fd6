import Derived.Test.YtbibkdncfclnbaaGreatDoorOpenT
import Derived.Test.YtbibkdncfclnbaaGreatDoorNs2
set_option maxRecDepth 100000
set_option linter.all false
namespace Go.Proofs.YtbibkdncfclnbaaGreatDoor
open Go.ChangeShapes Go.WideShapes Go.ChangeAt Go.WideMaps Go.WideElems Go.RowKit Go.ChangeMaps Go.Cb Go.Cb.CodeA
theorem a7w (os:Os) (started:os.Started) (H:Type) (enc:TypeId×Value→H) :
 ReturnsInHanded {} Tryz.checked os 3 .any (fun w args=>(Rows.execKnowsSpec.pre enc Tryz.prog Tryz.f3 [] false w args∧laidMetH Tryz.prog a8z w)∧sizedMet enc Tryz.prog Tryz.f3 (OpenSpec.ofChange Rows.execKnowsSpec) false w args)
  (Rows.execKnowsSpec.post enc Tryz.prog Tryz.f3 false true false false):=by
 refine returnsInHanded_of_change_and (C:=Tryz.checked) (X:=fun w _=>laidMetH Tryz.prog a8z w) (fun _ _ _ hh h=>h.of_heap hh) own started (by kernel_rfl) Tryz.func3
  (ChangeSpec.witness_shaped (enc:=enc) (C:=Tryz.checked) (os:=os) (X:=fun w _=>laidMetH Tryz.prog a8z w) false (World.doorLaid Tryz.prog 400 os) #[.slice none 0 0,.string ⟨#[]⟩,.int .u8 0] 8 rfl (World.shaped_of_RefB (by kernel_rfl) (by kernel_rfl)) (by kernel_rfl) (by kernel_rfl) (by kernel_rfl) (c0n os _)) ?_
 intro W base args ds gs before J hW _ b3 hL _;have l:∀ (j:Nat) t v,Tryz.f3.params[j]?=some t→args[j]?=some v→Value.okWide Tryz.prog W .any base t v:=J
 have M:=hW;obtain⟨p,q,a6,hV,rfl,b6,b7⟩:=hW;have hA:DataW.TrodAll enc Tryz.prog W 0 (fun _=>true) true Tryz.f3.params.toList args.toList ds p:=a6;rw[Tryz.params3]at hA l;obtain⟨v0,v1,v2,d0,d1,d2,a0,a1,a2,rfl,rfl,rfl,h0,h1,h2⟩:=trodAll_three hA;obtain⟨rfl,rfl⟩:=trodVars_none hV;obtain⟨b0,U,L,rfl⟩:=okWide_slice Tryz.underlying22 (l 0 22 v0 rfl rfl);obtain⟨a4,a5⟩:=id h0;obtain⟨x0,b4,e0,_,_,R0,Y⟩:=a9Z (R:=fun r=>∃ s:Thg,s.OK∧r=s.row) Tryz.underlying22 (by rw[c70]; decide) (fun m cs y _ hY hy=>b50 hY hy) a5 (fun es sp he d hd=>b3q b3 (j:=0) (by kernel_rfl) (by rw[show d0=DataW.slice es sp from he]; rfl) d hd);have e0:=(List.cons.inj (show [_]=[_]from e0)).1;subst e0;obtain⟨l0,rfl,a7⟩:=a9F R0;obtain⟨s1,rfl,rfl,rfl,b1⟩:=open_string Tryz.underlying9 (l 1 9 v1 rfl rfl) h1;obtain⟨T,rfl,rfl,rfl,N⟩:=open_int Tryz.underlying5 (l 2 5 v2 rfl rfl) h2;have b2:(Lit.int .u8 T).wf=true:=N;have b5:0≤T∧T < 256:=by have:=b2;simp[Lit.wf,IntKind.min,IntKind.max,IntKind.signed,IntKind.bits]at this;omega
 obtain⟨a,st',⟨n,O⟩,ha⟩:=Go.Cb.CodeA.knows_law l0 a7 (s1.data.toList.map UInt8.toNat) T;subst ha;refine(c7B c6B O (fun x hx=>?_) (b0B hL) (vs:=[.slice b0 U L,.string s1,.int .u8 T]) ?_).mono fun e Z ⟨he,hw⟩=>?_
 · simp only[List.mem_cons,List.not_mem_nil,or_false]at hx;rcases hx with rfl|rfl|rfl<;>rfl
 · simp only[RelL];exact⟨_,_,rfl,Y,_,_,rfl,by simp only[Rel]; exact⟨s1,rfl,rfl⟩,_,_,rfl,by simp only[Rel],rfl⟩
 · subst he;refine⟨_,rfl,?_⟩;have a9:∀ y∈a0++([]++[]),y.block < W.heap.size:=fun y u=>M.lt y (by simpa using u)
   have z:∀ y∈a0++([]++[]),W.sameAt Z y:=fun y u=>by
    have ho:=hw.old y.block (a9 y u);cases y with
    | cell b off=>show Z.cell? ⟨b,off,none⟩=W.cell? ⟨b,off,none⟩; unfold World.cell?; rw[show Z.heap[b]?=W.heap[b]? from ho]
    | map b=>exact ho
   refine b0A (pa:=a0++([]++[])) (pv:=[]) M (fun _ _ _=>trodAll_mk1 (shut_bool Tryz.underlying4 _)) (fun sp I=>?_) (fun _ _=>rfl) (by simp) (World.keptBut_mono (fun p u=>u.elim) hw.kept) hw.fz (ok_one (by kernel_rfl) rfl (okWide_bool_mk Tryz.underlying4 _));have I:∀ y∈a0++([]++[]),sp y.block=true:=fun y u=>I y (by simpa using u)
   rw[Tryz.params3];exact trodAll_mk3 (WideElems.Trod_stays (P:=Tryz.prog) (by kernel_rfl) (by kernel_rfl) (of_decide_eq_true (by kernel_rfl)) h0 (fun p u=>z p (by first|exact u|simp[u])) (fun p u=>I p (by first|exact u|simp[u]))) (shut_string Tryz.underlying9 b1) (shut_int Tryz.underlying5 N)
theorem a8B:Rows.ExecKnowsSaid :=
 OpenClaim.holds_of_wide 3 Tryz.f3 rfl rfl rfl rfl rfl rfl rfl ⟨rfl,rfl,rfl,rfl,rfl⟩ rfl rfl rfl rfl rfl (by kernel_rfl) Tryz.func3 (by kernel_rfl)
  (of_decide_eq_true (by kernel_rfl)) (by unfold Func.isWrapper; first|(rw[if_pos (by decide +kernel)]; kernel_rfl)|(rw[if_neg (by decide +kernel)]; exact⟨rfl,rfl⟩))
  (fun os started H enc _=>a7w os started H enc)
theorem execKnows_card:Rows.ExecKnowsCardSaid :=
 Claim7.holds_tied_plain_at .later [] [.data,.data,.data,.widerDeep] true (true, "577862d6530adc5d20eaf74db58d6220fb32a5fde0f0ade6b44091254e9baa51") false
  a8B (fun _ h=>by cases h) (by kernel_rfl) (fun _ h=>by cases h) execKnows_row_tie rfl ⟨rfl,rfl⟩ (by kernel_rfl) rfl
  (fun f fn x l=>by
   obtain rfl:f=3:=Option.some.inj ((show Tryz.prog.funcNamed "columbary/columbarylaw13.ExecKnows"=some 3 by kernel_rfl).symm.trans x) |>.symm
   obtain rfl:fn=Tryz.f3:=(Option.some.inj (Tryz.func3.symm.trans l)).symm;exact⟨by kernel_rfl,fun j t v=>by
    rw[Tryz.params3]at v;have y:t∈[22,9,5]:=by simpa using Array.mem_of_getElem? v
    have e:([22,9,5].all fun u=>!Tryz.prog.wantsStandIn u)=true:=by kernel_rfl
    exact(show Tryz.prog.wantsStandIn t=false by simpa using List.all_eq_true.1 e t y)⟩)
  (by kernel_rfl)
#print axioms execKnows_card
end Go.Proofs.YtbibkdncfclnbaaGreatDoor
