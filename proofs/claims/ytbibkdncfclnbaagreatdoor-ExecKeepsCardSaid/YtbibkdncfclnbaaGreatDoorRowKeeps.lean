import Derived.Test.YtbibkdncfclnbaaGreatDoorOpenT
import Derived.Test.YtbibkdncfclnbaaGreatDoorNs1
set_option maxRecDepth 100000
set_option linter.all false
namespace Go.Proofs.YtbibkdncfclnbaaGreatDoor
open Go.ChangeShapes Go.WideShapes Go.ChangeAt Go.WideMaps Go.WideElems Go.RowKit Go.ChangeMaps Go.Cb Go.Cb.CodeA
theorem a6X (os:Os) (started:os.Started) (H:Type) (enc:TypeId×Value→H) :
 ReturnsInHanded {} Tryz.checked os 9 .any (fun w args=>(Rows.execKeepsSpec.pre enc Tryz.prog Tryz.f9 [] false w args∧laidMetH Tryz.prog a7d w)∧sizedMet enc Tryz.prog Tryz.f9 (OpenSpec.ofChange Rows.execKeepsSpec) false w args)
  (Rows.execKeepsSpec.post enc Tryz.prog Tryz.f9 false true false false):=by
 refine returnsInHanded_of_change_and (C:=Tryz.checked) (X:=fun w _=>laidMetH Tryz.prog a7d w) (fun _ _ _ hh h=>h.of_heap hh) own started (by kernel_rfl) Tryz.func9
  (ChangeSpec.witness_shaped (enc:=enc) (C:=Tryz.checked) (os:=os) (X:=fun w _=>laidMetH Tryz.prog a7d w) false (World.doorLaid Tryz.prog 400 os) #[.slice none 0 0,.string ⟨#[]⟩] 8 rfl (World.shaped_of_RefB (by kernel_rfl) (by kernel_rfl)) (by kernel_rfl) (by kernel_rfl) (by kernel_rfl) (c1l os _)) ?_
 intro W base args ds gs before J hW _ a7 hL _;have u:∀ (j:Nat) t v,Tryz.f9.params[j]?=some t→args[j]?=some v→Value.okWide Tryz.prog W .any base t v:=J
 have M:=hW;obtain⟨p,q,a3,hV,rfl,b2,b3⟩:=hW;have hA:DataW.TrodAll enc Tryz.prog W 0 (fun _=>true) true Tryz.f9.params.toList args.toList ds p:=a3;rw[Tryz.params9]at hA u;obtain⟨v0,v1,d0,d1,a0,a1,rfl,rfl,rfl,h0,h1⟩:=trodAll_two hA;obtain⟨rfl,rfl⟩:=trodVars_none hV;obtain⟨b0,O,L,rfl⟩:=okWide_slice Tryz.underlying22 (u 0 22 v0 rfl rfl);obtain⟨Z,a2⟩:=id h0;obtain⟨x0,b1,Y,_,_,R0,T⟩:=a9Y (R:=fun r=>∃ s:Thg,s.OK∧r=s.row) Tryz.underlying22 (by rw[c70]; decide) (fun m cs y _ hY hy=>b49 hY hy) a2 (fun es sp he d hd=>b2M a7 (j:=0) (by kernel_rfl) (by rw[show d0=DataW.slice es sp from he]; rfl) d hd);have Y:=(List.cons.inj (show [_]=[_]from Y)).1;subst Y;obtain⟨l0,rfl,a4⟩:=a8Z R0;obtain⟨s1,rfl,rfl,rfl,a6⟩:=open_string Tryz.underlying9 (u 1 9 v1 rfl rfl) h1;obtain⟨a,st',⟨n,N⟩,ha⟩:=Go.Cb.CodeA.keeps_law l0 a4 (s1.data.toList.map UInt8.toNat);subst ha;refine(c9d c5A N (fun x hx=>?_) (b0g hL) (vs:=[.slice b0 O L,.string s1]) ?_).mono fun e U ⟨he,hw⟩=>?_
 · simp only[List.mem_cons,List.not_mem_nil,or_false]at hx;rcases hx with rfl|rfl<;>rfl
 · simp only[RelL];exact⟨_,_,rfl,T,_,_,rfl,by simp only[Rel]; exact⟨s1,rfl,rfl⟩,rfl⟩
 · subst he;refine⟨_,rfl,?_⟩;have a5:∀ y∈a0++[],y.block < W.heap.size:=fun y l=>M.lt y (by simpa using l)
   have z:∀ y∈a0++[],W.sameAt U y:=fun y l=>by
    have ho:=hw.old y.block (a5 y l);cases y with
    | cell b off=>show U.cell? ⟨b,off,none⟩=W.cell? ⟨b,off,none⟩; unfold World.cell?; rw[show U.heap[b]?=W.heap[b]? from ho]
    | map b=>exact ho
   refine b0f (pa:=a0++[]) (pv:=[]) M (fun _ _ _=>trodAll_mk1 (shut_bool Tryz.underlying4 _)) (fun sp I=>?_) (fun _ _=>rfl) (by simp) (World.keptBut_mono (fun p l=>l.elim) hw.kept) hw.fz (ok_one (by kernel_rfl) rfl (okWide_bool_mk Tryz.underlying4 _));have I:∀ y∈a0++[],sp y.block=true:=fun y l=>I y (by simpa using l)
   rw[Tryz.params9];exact trodAll_mk2 (WideElems.Trod_stays (P:=Tryz.prog) (by kernel_rfl) (by kernel_rfl) (of_decide_eq_true (by kernel_rfl)) h0 (fun p l=>z p (by first|exact l|simp[l])) (fun p l=>I p (by first|exact l|simp[l]))) (shut_string Tryz.underlying9 a6)
theorem a7B:Rows.ExecKeepsSaid :=
 OpenClaim.holds_of_wide 9 Tryz.f9 rfl rfl rfl rfl rfl rfl rfl ⟨rfl,rfl,rfl,rfl,rfl⟩ rfl rfl rfl rfl rfl (by kernel_rfl) Tryz.func9 (by kernel_rfl)
  (of_decide_eq_true (by kernel_rfl)) (by unfold Func.isWrapper; first|(rw[if_pos (by decide +kernel)]; kernel_rfl)|(rw[if_neg (by decide +kernel)]; exact⟨rfl,rfl⟩))
  (fun os started H enc _=>a6X os started H enc)
theorem execKeeps_card:Rows.ExecKeepsCardSaid :=
 Claim7.holds_tied_plain_at .later [] [.data,.data,.data,.widerDeep] true (true, "577862d6530adc5d20eaf74db58d6220fb32a5fde0f0ade6b44091254e9baa51") false
  a7B (fun _ h=>by cases h) (by kernel_rfl) (fun _ h=>by cases h) execKeeps_row_tie rfl ⟨rfl,rfl⟩ (by kernel_rfl) rfl
  (fun f fn x l=>by
   obtain rfl:f=9:=Option.some.inj ((show Tryz.prog.funcNamed "columbary/columbarylaw13.ExecKeeps"=some 9 by kernel_rfl).symm.trans x) |>.symm
   obtain rfl:fn=Tryz.f9:=(Option.some.inj (Tryz.func9.symm.trans l)).symm;exact⟨by kernel_rfl,fun j t v=>by
    rw[Tryz.params9]at v;have y:t∈[22,9]:=by simpa using Array.mem_of_getElem? v
    have e:([22,9].all fun u=>!Tryz.prog.wantsStandIn u)=true:=by kernel_rfl
    exact(show Tryz.prog.wantsStandIn t=false by simpa using List.all_eq_true.1 e t y)⟩)
  (by kernel_rfl)
#print axioms execKeeps_card
end Go.Proofs.YtbibkdncfclnbaaGreatDoor
