import Derived.Test.YtbibkdncfclnbaaGreatDoorLP
import Derived.Test.YtbibkdncfclnbaaGreatDoorPT
import Derived.Test.YtbibkdncfclnbaaGreatDoorSA
set_option maxRecDepth 20000
set_option linter.unusedSimpArgs false
set_option linter.unusedVariables false
namespace Go.Cb.CodeA
open Go Go.Cb
open Nat renaming reduceAdd→rA,reduceSub→rS,reduceLeDiff→rL,reduceEqDiff→rE
attribute [local congr] i7 j1 j2 j3 j0 i8 k6 j9 V.runR_congr
theorem d3g {a b:Nat} (ha:a≤100000) (hb:b≤100000):eqI ((a+b:Nat):Int) (m5 IntKind.i64 (a0v (a:Int) (b:Int)))=true:=by
 rw [addI_eq,a2n (by omega) (by omega),eqI_eq]
 simp
theorem b5c {d d1 d2:List Sel} {X Y:Sel} {kx ky nx ny:List Nat} {fx fy:FDef} (h:PartD d d1 d2 X Y kx ky nx ny fx fy) {es:List Ent} {v0:AV} {B:St} (hB:Gr T_bb B) (hv0:EntsAt v0 es B) (hs:K6 es) (hle:es.length≤12) (hge:∀ e∈es,e.Good) (V0 a1 a2 v4 v5 v6:AV) :
 WC (fun n'=>i6 (k7 tbl n') n' a8s51 [V0,a1,a2,.bool false,v4,v5,v6,.ptr 52 0,.ptr 80 0,.box [v0,.bool true,.list true []],.box [.list false [[.bool false,.str [],.list false [],.list false (d.map Sel.row)]],.list false []],.bool true,.box [.list false [[.bool false,.str [],.list false [],.list false (d1.map Sel.row)]],.list false []],.bool true,.box [.list false [[.bool false,.str [],.list false [],.list false (d2.map Sel.row)]],.list false []],.bool true,.undef,.undef,.undef] B)
  (fun o=>∃ r st',finK [.v 3] (some o)=some (r,st')∧r=.bool true):=by
 obtain ⟨w1,w2,w3,w4,w5,w6,w7⟩:=hv0.wk
 have hq:=qry (d:=d) hB hv0 hs hle hge h.x
 have hq1:=fun (B':St) (g:Gr B B')=>qry (d:=d1) (hB.trans g) (hv0.gr g) hs hle hge h.x1
 have hq2:=fun (B':St) (g:Gr B B')=>qry (d:=d2) (hB.trans g) (hv0.gr g) hs hle hge h.x2
 obtain ⟨D,D1,D2,ps,ps1,ps2,hR,hR1,hR2,hc⟩:=b5V h (v:=v0) hle hge
 rw [hR] at hq
 rw [hR1] at hq1
 rw [hR2] at hq2
 unfold b0P at hq hq1 hq2
 simp +contextual -implicitDefEqProofs only [K8,SS,rA,rS,rL,rE,reduceCtorEq,w1,w2,w3,w4,w5,w6,w7]
 refine WC.call hq (by simp only [R.allPlain_c,R.allPlain_n,R.plain_agg]; rfl) (by simp only [AG,AL,O3,w2]; rfl) ?_
 rintro _ st3 ⟨hg3,pv,rfl,hpv,hps,_⟩
 have hq1:=hq1 st3 hg3
 obtain ⟨u1,u2,u3,u4,u5,u6,u7⟩:=hpv.wk
 dsimp only at hpv hps
 unfold a5V
 simp +contextual -implicitDefEqProofs only [K8,SS,rA,rS,rL,rE,reduceCtorEq,w1,w2,w3,w4,w5,w6,w7,u1,u2,u3,u4,u5,u6,u7]
 refine WC.call hq1 (by simp only [R.allPlain_c,R.allPlain_n,R.plain_agg]; rfl) (by simp only [AG,AL,O3,w2]; rfl) ?_
 rintro _ st4 ⟨hg4,pv1,rfl,hpv1,hps1,_⟩
 have hq2:=hq2 st4 (hg3.trans hg4)
 obtain ⟨x1,x2,x3,x4,x5,x6,x7⟩:=hpv1.wk
 dsimp only at hpv1 hps1
 unfold a5V
 simp +contextual -implicitDefEqProofs only [K8,SS,rA,rS,rL,rE,reduceCtorEq,w1,w2,w3,w4,w5,w6,w7,u1,u2,u3,u4,u5,u6,u7,x1,x2,x3,x4,x5,x6,x7]
 refine WC.call hq2 (by simp only [R.allPlain_c,R.allPlain_n,R.plain_agg]; rfl) (by simp only [AG,AL,O3,w2]; rfl) ?_
 rintro _ st5 ⟨hg5,pv2,rfl,hpv2,hps2,_⟩
 obtain ⟨y1,y2,y3,y4,y5,y6,y7⟩:=hpv2.wk
 dsimp only at hpv2 hps2
 have hln:=hpv.len
 have hln1:=hpv1.len
 have hln2:=hpv2.len
 rcases hc with ⟨rfl,⟨rfl,rfl|⟨w,rfl⟩⟩|⟨⟨w,rfl⟩,rfl⟩⟩|⟨b1,b2,rfl,rfl,rfl,hlen,⟨ho1,hw1⟩,ho2,hw2⟩
 · simp only [a5V,Val.none,Val.kind,Val.num,Val.text,Val.names,Val.vals,AL]
   simp +contextual -implicitDefEqProofs only [K8,SS,rA,rS,rL,rE,reduceCtorEq,u1,u2,u3,u4,u5,u6,u7,x1,x2,x3,x4,x5,x6,x7,y1,y2,y3,y4,y5,y6,y7,a2V,Bool.not_true,show eqI 6 0=false from rfl]
   exact WC.ret ⟨_,_,rfl,rfl⟩
 · simp only [a5V,Val.none,a1h,Val.kind,Val.num,Val.text,Val.names,Val.vals,AL,AG]
   simp +contextual -implicitDefEqProofs only [K8,SS,rA,rS,rL,rE,reduceCtorEq,u1,u2,u3,u4,u5,u6,u7,x1,x2,x3,x4,x5,x6,x7,y1,y2,y3,y4,y5,y6,y7,a2V,Bool.not_true,show eqI 6 0=false from rfl]
   exact WC.ret ⟨_,_,rfl,rfl⟩
 · simp only [a5V,Val.none,a1h,Val.kind,Val.num,Val.text,Val.names,Val.vals,AL,AG]
   simp +contextual -implicitDefEqProofs only [K8,SS,rA,rS,rL,rE,reduceCtorEq,u1,u2,u3,u4,u5,u6,u7,x1,x2,x3,x4,x5,x6,x7,y1,y2,y3,y4,y5,y6,y7,a2V,Bool.not_true,show eqI 6 0=false from rfl]
   exact WC.ret ⟨_,_,rfl,rfl⟩
 · obtain ⟨t1,_,hv1⟩:=b1b ho1 hw1
   obtain ⟨t2,_,hv2⟩:=b1b ho2 hw2
   rw [b1.row_eta] at hv1
   rw [b2.row_eta] at hv2
   simp only [a5V,a1h,Val.kind,Val.num,Val.text,Val.names,Val.vals,AL,AG]
   rw [b1.row_eta,b2.row_eta]
   simp (contextual:=true) (implicitDefEqProofs:=false) (maxSteps:=400000) only [K8,SS,rA,rS,rL,rE,reduceCtorEq,u1,u2,u3,u4,u5,u6,u7,x1,x2,x3,x4,x5,x6,x7,y1,y2,y3,y4,y5,y6,y7,hln,hln1,hln2,d3g hps1 hps2,hlen,a2V,Bool.not_true,show eqI 6 0=false from rfl,show eqI ((2:Nat):Int) 2=true from rfl,Bool.and_true,Bool.and_self,if_true,il3,it3,List.getElem?_cons_zero,List.getElem?_cons_succ]
   refine WC.call (hv1 _) rfl rfl ?_
   rintro _ st6 ⟨rfl,rfl⟩
   simp +contextual -implicitDefEqProofs only [K8,SS,rA,rS,rL,rE,reduceCtorEq,Z2,if_true,il3,it3,List.getElem?_cons_zero,List.getElem?_cons_succ]
   refine WC.call (hv1 _) rfl rfl ?_
   rintro _ st7 ⟨rfl,rfl⟩
   simp +contextual -implicitDefEqProofs only [K8,SS,rA,rS,rL,rE,reduceCtorEq,Z2,if_true,il3,it3,List.getElem?_cons_zero,List.getElem?_cons_succ]
   refine WC.call (hv2 _) rfl rfl ?_
   rintro _ st8 ⟨rfl,rfl⟩
   simp +contextual -implicitDefEqProofs only [K8,SS,rA,rS,rL,rE,reduceCtorEq,Z2,if_true,il3,it3,List.getElem?_cons_zero,List.getElem?_cons_succ]
   refine WC.call (hv2 _) rfl rfl ?_
   rintro _ st9 ⟨rfl,rfl⟩
   simp +contextual -implicitDefEqProofs only [K8,SS,rA,rS,rL,rE,reduceCtorEq,Z2,if_true,il3,it3,List.getElem?_cons_zero,List.getElem?_cons_succ]
   exact WC.ret ⟨_,_,rfl,rfl⟩
end Go.Cb.CodeA
