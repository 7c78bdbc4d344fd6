/- What functions of the abstract machine answer. No conditions but those that each theorem names. -/
import Derived.Test.YtbibkdncfclnbaaGreatDoorLK
set_option maxRecDepth 20000
set_option linter.unusedSimpArgs false
set_option linter.unusedVariables false
namespace Go.Cb.CodeA
open Go Go.Cb
open Nat renaming reduceAdd→rA,reduceSub→rS,reduceLeDiff→rL,reduceEqDiff→rE
attribute [local congr] g8 i7 j0 j1 i6 g9 j5 j4 V.runR_congr
theorem c7U {n:Int} (hn:0≤n∧n < 256):IntKind.i64.wrap n=n:=by
 unfold IntKind.wrap
 dsimp only
 split
 · rename_i h
   exfalso
   simp [IntKind.signed,IntKind.bits] at h
   omega
 · simp [IntKind.bits]
   omega
theorem z6 (l:List Thg) (hl:∀ x∈l,x.OK) {d d':List Sel} (hA:SkipD d d') {a1 v3 v4 v5:AV} {st1:St} (hg1:Gr N1 st1) :
 WC (fun n'=>e9 (k9 tbl n') n' a7s29 [.list false (l.map Thg.row),a1,.bool false,v3,v4,v5,.ptr 52 0,.ptr 80 0,.box [.list false [[.bool false,.str [],.list false [],.list false (d.map Sel.row)]],.list false []],.bool true,.box [.list false [[.bool false,.str [],.list false [],.list false (d'.map Sel.row)]],.list false []],.bool true,.undef] st1)
  (fun o=>∃ r st',finK [.v 2] (some o)=some (r,st')∧r=.bool true):=by
 simp +contextual -implicitDefEqProofs only [K7,SS,rA,rS,rL,rE,reduceCtorEq]
 refine WC.call (b81 l hl st1) rfl rfl ?_
 rintro _ st1 ⟨rfl,L,rfl,hL,hg⟩
 simp +contextual -implicitDefEqProofs only [K7,SS,rA,rS,rL,rE,reduceCtorEq]
 refine WC.call (d4q L (by omega) st1) rfl rfl ?_
 rintro _ st2 ⟨v0,rfl,hv0,hg2⟩
 obtain ⟨hs0,hl0,hm0⟩:=b5H L
 have hge:∀ e∈ofE L,e.Good:=fun e he=>hg e (hm0 e he)
 have hle:(ofE L).length≤12:=by omega
 obtain ⟨w1,w2,w3,w4,w5,w6,w7⟩:=hv0.wk
 have hB2:=hg1.trans hg2
 have hq:=qry (d:=d) hB2 hv0 hs0 hle hge hA.x
 have hq':=fun (B:St) (h:Gr st2 B)=>qry (d:=d') (hB2.trans h) (hv0.gr h) hs0 hle hge hA.x'
 obtain ⟨D,ps,hfin,hR,hR'⟩:=b4o hA (v:=v0) hle hge
 rw [hR] at hq
 rw [hR'] at hq'
 unfold b30 at hq hq'
 generalize ofE L=es at *
 simp +contextual -implicitDefEqProofs only [K7,SS,rA,rS,rL,rE,reduceCtorEq,w1,w2,w3,w4,w5,w6,w7]
 refine WC.call hq (by simp only [R.allPlain_c,R.allPlain_n,R.plain_agg]; rfl) (by simp only [List.map_cons,List.map_nil,L6,w2]; rfl) ?_
 rintro _ st3 ⟨hg3,pv,rfl,hpv,hps,hpl⟩
 have hq':=hq' st3 hg3
 obtain ⟨u1,u2,u3,u4,u5,u6,u7⟩:=hpv.wk
 dsimp only at hpv hps hpl
 unfold a7a
 simp +contextual -implicitDefEqProofs only [K7,SS,rA,rS,rL,rE,reduceCtorEq,w1,w2,w3,w4,w5,w6,w7,u1,u2,u3,u4,u5,u6,u7]
 refine WC.call hq' (by simp only [R.allPlain_c,R.allPlain_n,R.plain_agg]; rfl) (by simp only [List.map_cons,List.map_nil,L6,w2]; rfl) ?_
 rintro _ st4 ⟨hg4,pv',rfl,hpv',_,_⟩
 have hpv:=hpv.gr hg4
 dsimp only at hpv'
 obtain ⟨x1,x2,x3,x4,x5,x6,x7⟩:=hpv'.wk
 have hsa:=b7D 0 hfin hps hpl hpv hpv'
 unfold a7a at hsa ⊢
 simp +contextual -implicitDefEqProofs only [K7,SS,rA,rS,rL,rE,reduceCtorEq,u1,u2,u3,u4,u5,u6,u7,x1,x2,x3,x4,x5,x6,x7]
 refine WC.call hsa (by simp only [R.allPlain_c,R.allPlain_n,R.plain_agg]; rfl) (by simp only [List.map_cons,List.map_nil,L6,u2,x2]; rfl) ?_
 rintro _ _ ⟨rfl,rfl⟩
 simp +contextual -implicitDefEqProofs only [K7,SS,rA,rS,rL,rE,reduceCtorEq]
 exact WC.ret ⟨_,_,rfl,rfl⟩
theorem c1A:SkipD dK0 dK1:=⟨n8 (by kernel_rfl),n8 (by kernel_rfl),by kernel_rfl,by kernel_rfl,by kernel_rfl⟩
theorem c2y:SkipD dK2 dK1:=⟨n8 (by kernel_rfl),n8 (by kernel_rfl),by kernel_rfl,by kernel_rfl,by kernel_rfl⟩
theorem c1L:SkipD dK3 dK1:=⟨n8 (by kernel_rfl),n8 (by kernel_rfl),by kernel_rfl,by kernel_rfl,by kernel_rfl⟩
theorem c2Z:SkipD dK4 dK5:=⟨n8 (by kernel_rfl),n8 (by kernel_rfl),by kernel_rfl,by kernel_rfl,by kernel_rfl⟩
theorem c2C:SkipD dK6 dK5:=⟨n8 (by kernel_rfl),n8 (by kernel_rfl),by kernel_rfl,by kernel_rfl,by kernel_rfl⟩
theorem c2U:SkipD dK7 dK5:=⟨n8 (by kernel_rfl),n8 (by kernel_rfl),by kernel_rfl,by kernel_rfl,by kernel_rfl⟩
theorem c1F:SkipD dK8 dK9:=⟨n8 (by kernel_rfl),n8 (by kernel_rfl),by kernel_rfl,by kernel_rfl,by kernel_rfl⟩
theorem c2u:SkipD c3M dK9:=⟨n8 (by kernel_rfl),n8 (by kernel_rfl),by kernel_rfl,by kernel_rfl,by kernel_rfl⟩
theorem c2O:SkipD c4E dK9:=⟨n8 (by kernel_rfl),n8 (by kernel_rfl),by kernel_rfl,by kernel_rfl,by kernel_rfl⟩
theorem c2a:SkipD c6c a7j:=⟨n8 (by kernel_rfl),n8 (by kernel_rfl),by kernel_rfl,by kernel_rfl,by kernel_rfl⟩
theorem c2V:SkipD c4w a7j:=⟨n8 (by kernel_rfl),n8 (by kernel_rfl),by kernel_rfl,by kernel_rfl,by kernel_rfl⟩
theorem c2X:SkipD c4R a7j:=⟨n8 (by kernel_rfl),n8 (by kernel_rfl),by kernel_rfl,by kernel_rfl,by kernel_rfl⟩
theorem b9J (l:List Thg) (hl:∀ x∈l,x.OK) (n:Int) (hn:0≤n∧n < 256) (hw:IntKind.i64.wrap (n.tdiv 4)=n.tdiv 4) (hi:n.tmod 4=0) (hj:(n.tdiv 4).tmod 4=0):EvQ tbl 7 [.list false (l.map Thg.row),.int .u8 n] [] (fun a _=>a=.bool true):=by
 have z4:((4:Int)=0)=False:=by simp
 refine EvQ.body (fn:=a7) rfl rfl rfl ?_
 simp +contextual -implicitDefEqProofs only [K7b,SS,rA,rS,rL,rE,reduceCtorEq]
 refine WC.call C3 rfl rfl ?_
 rintro _ _ ⟨rfl,rfl⟩
 simp +contextual -implicitDefEqProofs only [K7b,SS,rA,rS,rL,rE,reduceCtorEq,show eqN [112,101,111,112,108,101,32,123,32,110,97,109,101,32,125] [112,101,111,112,108,101,32,123,32,110,97,109,101,32,125]=true from rfl,Bool.not_true,Nat.reduceLT,if_true,Option.map_some,J1 hn,hw,z4,if_false,hi,hj,il3,it3,List.getElem?_cons_zero,List.getElem?_cons_succ]
 exact WC.ret ⟨_,_,rfl,rfl⟩
theorem b8q (l:List Thg) (hl:∀ x∈l,x.OK) (n:Int) (hn:0≤n∧n < 256) (hw:IntKind.i64.wrap (n.tdiv 4)=n.tdiv 4) (hi:n.tmod 4=0) (hj:(n.tdiv 4).tmod 4=1):EvQ tbl 7 [.list false (l.map Thg.row),.int .u8 n] [] (fun a _=>a=.bool true):=by
 have z4:((4:Int)=0)=False:=by simp
 refine EvQ.body (fn:=a7) rfl rfl rfl ?_
 simp +contextual -implicitDefEqProofs only [K7b,SS,rA,rS,rL,rE,reduceCtorEq]
 refine WC.call C3 rfl rfl ?_
 rintro _ _ ⟨rfl,rfl⟩
 simp +contextual -implicitDefEqProofs only [K7b,SS,rA,rS,rL,rE,reduceCtorEq,show eqN [112,101,111,112,108,101,32,123,32,110,97,109,101,32,125] [112,101,116,115,32,123,32,95,95,116,121,112,101,110,97,109,101,32,125]=false from rfl,Bool.not_true,Nat.reduceLT,if_true,Option.map_some,J1 hn,hw,z4,if_false,hi,hj,il3,it3,List.getElem?_cons_zero,List.getElem?_cons_succ]
 refine WC.call M2 rfl rfl ?_
 rintro _ _ ⟨rfl,rfl⟩
 have hrd:=n9 d1Y
 unfold mo0 tK0 s6 at hrd
 simp +contextual -implicitDefEqProofs only [K7b,SS,rA,rS,rL,rE,reduceCtorEq,List.cons_append,List.nil_append,Nat.reducePow,if_true,Option.map_some,G6,List.length_cons,List.length_nil]
 refine WC.call hrd rfl rfl ?_
 rintro _ st1 ⟨rfl,hg1,hrd⟩
 have hrd:=n9 hrd
 unfold mo0 tK1 at hrd
 simp +contextual -implicitDefEqProofs only [K7b,SS,rA,rS,rL,rE,reduceCtorEq,List.cons_append,List.nil_append,Nat.reducePow,if_true,Option.map_some,G6,List.length_cons,List.length_nil]
 refine WC.call hrd rfl rfl ?_
 rintro _ st2 ⟨rfl,hg2,_⟩
 simp +contextual -implicitDefEqProofs only [K7b,SS,rA,rS,rL,rE,reduceCtorEq]
 exact z6 l hl c1A hg2
theorem b8g (l:List Thg) (hl:∀ x∈l,x.OK) (n:Int) (hn:0≤n∧n < 256) (hw:IntKind.i64.wrap (n.tdiv 4)=n.tdiv 4) (hi:n.tmod 4=0) (hj:(n.tdiv 4).tmod 4=2):EvQ tbl 7 [.list false (l.map Thg.row),.int .u8 n] [] (fun a _=>a=.bool true):=by
 have z4:((4:Int)=0)=False:=by simp
 refine EvQ.body (fn:=a7) rfl rfl rfl ?_
 simp +contextual -implicitDefEqProofs only [K7b,SS,rA,rS,rL,rE,reduceCtorEq]
 refine WC.call C3 rfl rfl ?_
 rintro _ _ ⟨rfl,rfl⟩
 simp +contextual -implicitDefEqProofs only [K7b,SS,rA,rS,rL,rE,reduceCtorEq,show eqN [112,101,111,112,108,101,32,123,32,110,97,109,101,32,125] [97,108,108,32,123,32,110,97,109,101,32,125]=false from rfl,Bool.not_true,Nat.reduceLT,if_true,Option.map_some,J1 hn,hw,z4,if_false,hi,hj,il3,it3,List.getElem?_cons_zero,List.getElem?_cons_succ]
 refine WC.call M2 rfl rfl ?_
 rintro _ _ ⟨rfl,rfl⟩
 have hrd:=n9 d0I
 unfold mo0 tK2 s6 at hrd
 simp +contextual -implicitDefEqProofs only [K7b,SS,rA,rS,rL,rE,reduceCtorEq,List.cons_append,List.nil_append,Nat.reducePow,if_true,Option.map_some,G6,List.length_cons,List.length_nil]
 refine WC.call hrd rfl rfl ?_
 rintro _ st1 ⟨rfl,hg1,hrd⟩
 have hrd:=n9 hrd
 unfold mo0 tK1 at hrd
 simp +contextual -implicitDefEqProofs only [K7b,SS,rA,rS,rL,rE,reduceCtorEq,List.cons_append,List.nil_append,Nat.reducePow,if_true,Option.map_some,G6,List.length_cons,List.length_nil]
 refine WC.call hrd rfl rfl ?_
 rintro _ st2 ⟨rfl,hg2,_⟩
 simp +contextual -implicitDefEqProofs only [K7b,SS,rA,rS,rL,rE,reduceCtorEq]
 exact z6 l hl c2y hg2
theorem b8p (l:List Thg) (hl:∀ x∈l,x.OK) (n:Int) (hn:0≤n∧n < 256) (hw:IntKind.i64.wrap (n.tdiv 4)=n.tdiv 4) (hi:n.tmod 4=0) (hj:(n.tdiv 4).tmod 4=3):EvQ tbl 7 [.list false (l.map Thg.row),.int .u8 n] [] (fun a _=>a=.bool true):=by
 have z4:((4:Int)=0)=False:=by simp
 refine EvQ.body (fn:=a7) rfl rfl rfl ?_
 simp +contextual -implicitDefEqProofs only [K7b,SS,rA,rS,rL,rE,reduceCtorEq]
 refine WC.call C3 rfl rfl ?_
 rintro _ _ ⟨rfl,rfl⟩
 simp +contextual -implicitDefEqProofs only [K7b,SS,rA,rS,rL,rE,reduceCtorEq,show eqN [112,101,111,112,108,101,32,123,32,110,97,109,101,32,125] [112,101,114,115,111,110,40,105,100,58,32,34,97,34,41,32,123,32,102,114,105,101,110,100,115,32,123,32,110,97,109,101,32,125,32,125]=false from rfl,Bool.not_true,Nat.reduceLT,if_true,Option.map_some,J1 hn,hw,z4,if_false,hi,hj,il3,it3,List.getElem?_cons_zero,List.getElem?_cons_succ]
 refine WC.call M2 rfl rfl ?_
 rintro _ _ ⟨rfl,rfl⟩
 have hrd:=n9 c86
 unfold mo0 tK3 s6 at hrd
 simp +contextual -implicitDefEqProofs only [K7b,SS,rA,rS,rL,rE,reduceCtorEq,List.cons_append,List.nil_append,Nat.reducePow,if_true,Option.map_some,G6,List.length_cons,List.length_nil]
 refine WC.call hrd rfl rfl ?_
 rintro _ st1 ⟨rfl,hg1,hrd⟩
 have hrd:=n9 hrd
 unfold mo0 tK1 at hrd
 simp +contextual -implicitDefEqProofs only [K7b,SS,rA,rS,rL,rE,reduceCtorEq,List.cons_append,List.nil_append,Nat.reducePow,if_true,Option.map_some,G6,List.length_cons,List.length_nil]
 refine WC.call hrd rfl rfl ?_
 rintro _ st2 ⟨rfl,hg2,_⟩
 simp +contextual -implicitDefEqProofs only [K7b,SS,rA,rS,rL,rE,reduceCtorEq]
 exact z6 l hl c1L hg2
theorem b9p (l:List Thg) (hl:∀ x∈l,x.OK) (n:Int) (hn:0≤n∧n < 256) (hw:IntKind.i64.wrap (n.tdiv 4)=n.tdiv 4) (hi:n.tmod 4=1) (hj:(n.tdiv 4).tmod 4=0):EvQ tbl 7 [.list false (l.map Thg.row),.int .u8 n] [] (fun a _=>a=.bool true):=by
 have z4:((4:Int)=0)=False:=by simp
 refine EvQ.body (fn:=a7) rfl rfl rfl ?_
 simp +contextual -implicitDefEqProofs only [K7b,SS,rA,rS,rL,rE,reduceCtorEq]
 refine WC.call C3 rfl rfl ?_
 rintro _ _ ⟨rfl,rfl⟩
 simp +contextual -implicitDefEqProofs only [K7b,SS,rA,rS,rL,rE,reduceCtorEq,show eqN [112,101,116,115,32,123,32,95,95,116,121,112,101,110,97,109,101,32,125] [112,101,111,112,108,101,32,123,32,110,97,109,101,32,125]=false from rfl,Bool.not_true,Nat.reduceLT,if_true,Option.map_some,J1 hn,hw,z4,if_false,hi,hj,il3,it3,List.getElem?_cons_zero,List.getElem?_cons_succ]
 refine WC.call M2 rfl rfl ?_
 rintro _ _ ⟨rfl,rfl⟩
 have hrd:=n9 d0Q
 unfold mo0 tK4 s6 at hrd
 simp +contextual -implicitDefEqProofs only [K7b,SS,rA,rS,rL,rE,reduceCtorEq,List.cons_append,List.nil_append,Nat.reducePow,if_true,Option.map_some,G6,List.length_cons,List.length_nil]
 refine WC.call hrd rfl rfl ?_
 rintro _ st1 ⟨rfl,hg1,hrd⟩
 have hrd:=n9 hrd
 unfold mo0 tK5 at hrd
 simp +contextual -implicitDefEqProofs only [K7b,SS,rA,rS,rL,rE,reduceCtorEq,List.cons_append,List.nil_append,Nat.reducePow,if_true,Option.map_some,G6,List.length_cons,List.length_nil]
 refine WC.call hrd rfl rfl ?_
 rintro _ st2 ⟨rfl,hg2,_⟩
 simp +contextual -implicitDefEqProofs only [K7b,SS,rA,rS,rL,rE,reduceCtorEq]
 exact z6 l hl c2Z hg2
theorem b8H (l:List Thg) (hl:∀ x∈l,x.OK) (n:Int) (hn:0≤n∧n < 256) (hw:IntKind.i64.wrap (n.tdiv 4)=n.tdiv 4) (hi:n.tmod 4=1) (hj:(n.tdiv 4).tmod 4=1):EvQ tbl 7 [.list false (l.map Thg.row),.int .u8 n] [] (fun a _=>a=.bool true):=by
 have z4:((4:Int)=0)=False:=by simp
 refine EvQ.body (fn:=a7) rfl rfl rfl ?_
 simp +contextual -implicitDefEqProofs only [K7b,SS,rA,rS,rL,rE,reduceCtorEq]
 refine WC.call C3 rfl rfl ?_
 rintro _ _ ⟨rfl,rfl⟩
 simp +contextual -implicitDefEqProofs only [K7b,SS,rA,rS,rL,rE,reduceCtorEq,show eqN [112,101,116,115,32,123,32,95,95,116,121,112,101,110,97,109,101,32,125] [112,101,116,115,32,123,32,95,95,116,121,112,101,110,97,109,101,32,125]=true from rfl,Bool.not_true,Nat.reduceLT,if_true,Option.map_some,J1 hn,hw,z4,if_false,hi,hj,il3,it3,List.getElem?_cons_zero,List.getElem?_cons_succ]
 exact WC.ret ⟨_,_,rfl,rfl⟩
theorem b9f (l:List Thg) (hl:∀ x∈l,x.OK) (n:Int) (hn:0≤n∧n < 256) (hw:IntKind.i64.wrap (n.tdiv 4)=n.tdiv 4) (hi:n.tmod 4=1) (hj:(n.tdiv 4).tmod 4=2):EvQ tbl 7 [.list false (l.map Thg.row),.int .u8 n] [] (fun a _=>a=.bool true):=by
 have z4:((4:Int)=0)=False:=by simp
 refine EvQ.body (fn:=a7) rfl rfl rfl ?_
 simp +contextual -implicitDefEqProofs only [K7b,SS,rA,rS,rL,rE,reduceCtorEq]
 refine WC.call C3 rfl rfl ?_
 rintro _ _ ⟨rfl,rfl⟩
 simp +contextual -implicitDefEqProofs only [K7b,SS,rA,rS,rL,rE,reduceCtorEq,show eqN [112,101,116,115,32,123,32,95,95,116,121,112,101,110,97,109,101,32,125] [97,108,108,32,123,32,110,97,109,101,32,125]=false from rfl,Bool.not_true,Nat.reduceLT,if_true,Option.map_some,J1 hn,hw,z4,if_false,hi,hj,il3,it3,List.getElem?_cons_zero,List.getElem?_cons_succ]
 refine WC.call M2 rfl rfl ?_
 rintro _ _ ⟨rfl,rfl⟩
 have hrd:=n9 c8Z
 unfold mo0 tK6 s6 at hrd
 simp +contextual -implicitDefEqProofs only [K7b,SS,rA,rS,rL,rE,reduceCtorEq,List.cons_append,List.nil_append,Nat.reducePow,if_true,Option.map_some,G6,List.length_cons,List.length_nil]
 refine WC.call hrd rfl rfl ?_
 rintro _ st1 ⟨rfl,hg1,hrd⟩
 have hrd:=n9 hrd
 unfold mo0 tK5 at hrd
 simp +contextual -implicitDefEqProofs only [K7b,SS,rA,rS,rL,rE,reduceCtorEq,List.cons_append,List.nil_append,Nat.reducePow,if_true,Option.map_some,G6,List.length_cons,List.length_nil]
 refine WC.call hrd rfl rfl ?_
 rintro _ st2 ⟨rfl,hg2,_⟩
 simp +contextual -implicitDefEqProofs only [K7b,SS,rA,rS,rL,rE,reduceCtorEq]
 exact z6 l hl c2C hg2
theorem b8U (l:List Thg) (hl:∀ x∈l,x.OK) (n:Int) (hn:0≤n∧n < 256) (hw:IntKind.i64.wrap (n.tdiv 4)=n.tdiv 4) (hi:n.tmod 4=1) (hj:(n.tdiv 4).tmod 4=3):EvQ tbl 7 [.list false (l.map Thg.row),.int .u8 n] [] (fun a _=>a=.bool true):=by
 have z4:((4:Int)=0)=False:=by simp
 refine EvQ.body (fn:=a7) rfl rfl rfl ?_
 simp +contextual -implicitDefEqProofs only [K7b,SS,rA,rS,rL,rE,reduceCtorEq]
 refine WC.call C3 rfl rfl ?_
 rintro _ _ ⟨rfl,rfl⟩
 simp +contextual -implicitDefEqProofs only [K7b,SS,rA,rS,rL,rE,reduceCtorEq,show eqN [112,101,116,115,32,123,32,95,95,116,121,112,101,110,97,109,101,32,125] [112,101,114,115,111,110,40,105,100,58,32,34,97,34,41,32,123,32,102,114,105,101,110,100,115,32,123,32,110,97,109,101,32,125,32,125]=false from rfl,Bool.not_true,Nat.reduceLT,if_true,Option.map_some,J1 hn,hw,z4,if_false,hi,hj,il3,it3,List.getElem?_cons_zero,List.getElem?_cons_succ]
 refine WC.call M2 rfl rfl ?_
 rintro _ _ ⟨rfl,rfl⟩
 have hrd:=n9 c8m
 unfold mo0 tK7 s6 at hrd
 simp +contextual -implicitDefEqProofs only [K7b,SS,rA,rS,rL,rE,reduceCtorEq,List.cons_append,List.nil_append,Nat.reducePow,if_true,Option.map_some,G6,List.length_cons,List.length_nil]
 refine WC.call hrd rfl rfl ?_
 rintro _ st1 ⟨rfl,hg1,hrd⟩
 have hrd:=n9 hrd
 unfold mo0 tK5 at hrd
 simp +contextual -implicitDefEqProofs only [K7b,SS,rA,rS,rL,rE,reduceCtorEq,List.cons_append,List.nil_append,Nat.reducePow,if_true,Option.map_some,G6,List.length_cons,List.length_nil]
 refine WC.call hrd rfl rfl ?_
 rintro _ st2 ⟨rfl,hg2,_⟩
 simp +contextual -implicitDefEqProofs only [K7b,SS,rA,rS,rL,rE,reduceCtorEq]
 exact z6 l hl c2U hg2
theorem b8B (l:List Thg) (hl:∀ x∈l,x.OK) (n:Int) (hn:0≤n∧n < 256) (hw:IntKind.i64.wrap (n.tdiv 4)=n.tdiv 4) (hi:n.tmod 4=2) (hj:(n.tdiv 4).tmod 4=0):EvQ tbl 7 [.list false (l.map Thg.row),.int .u8 n] [] (fun a _=>a=.bool true):=by
 have z4:((4:Int)=0)=False:=by simp
 refine EvQ.body (fn:=a7) rfl rfl rfl ?_
 simp +contextual -implicitDefEqProofs only [K7b,SS,rA,rS,rL,rE,reduceCtorEq]
 refine WC.call C3 rfl rfl ?_
 rintro _ _ ⟨rfl,rfl⟩
 simp +contextual -implicitDefEqProofs only [K7b,SS,rA,rS,rL,rE,reduceCtorEq,show eqN [97,108,108,32,123,32,110,97,109,101,32,125] [112,101,111,112,108,101,32,123,32,110,97,109,101,32,125]=false from rfl,Bool.not_true,Nat.reduceLT,if_true,Option.map_some,J1 hn,hw,z4,if_false,hi,hj,il3,it3,List.getElem?_cons_zero,List.getElem?_cons_succ]
 refine WC.call M2 rfl rfl ?_
 rintro _ _ ⟨rfl,rfl⟩
 have hrd:=n9 d06
 unfold mo0 tK8 s6 at hrd
 simp +contextual -implicitDefEqProofs only [K7b,SS,rA,rS,rL,rE,reduceCtorEq,List.cons_append,List.nil_append,Nat.reducePow,if_true,Option.map_some,G6,List.length_cons,List.length_nil]
 refine WC.call hrd rfl rfl ?_
 rintro _ st1 ⟨rfl,hg1,hrd⟩
 have hrd:=n9 hrd
 unfold mo0 tK9 at hrd
 simp +contextual -implicitDefEqProofs only [K7b,SS,rA,rS,rL,rE,reduceCtorEq,List.cons_append,List.nil_append,Nat.reducePow,if_true,Option.map_some,G6,List.length_cons,List.length_nil]
 refine WC.call hrd rfl rfl ?_
 rintro _ st2 ⟨rfl,hg2,_⟩
 simp +contextual -implicitDefEqProofs only [K7b,SS,rA,rS,rL,rE,reduceCtorEq]
 exact z6 l hl c1F hg2
theorem b7X (l:List Thg) (hl:∀ x∈l,x.OK) (n:Int) (hn:0≤n∧n < 256) (hw:IntKind.i64.wrap (n.tdiv 4)=n.tdiv 4) (hi:n.tmod 4=2) (hj:(n.tdiv 4).tmod 4=1):EvQ tbl 7 [.list false (l.map Thg.row),.int .u8 n] [] (fun a _=>a=.bool true):=by
 have z4:((4:Int)=0)=False:=by simp
 refine EvQ.body (fn:=a7) rfl rfl rfl ?_
 simp +contextual -implicitDefEqProofs only [K7b,SS,rA,rS,rL,rE,reduceCtorEq]
 refine WC.call C3 rfl rfl ?_
 rintro _ _ ⟨rfl,rfl⟩
 simp +contextual -implicitDefEqProofs only [K7b,SS,rA,rS,rL,rE,reduceCtorEq,show eqN [97,108,108,32,123,32,110,97,109,101,32,125] [112,101,116,115,32,123,32,95,95,116,121,112,101,110,97,109,101,32,125]=false from rfl,Bool.not_true,Nat.reduceLT,if_true,Option.map_some,J1 hn,hw,z4,if_false,hi,hj,il3,it3,List.getElem?_cons_zero,List.getElem?_cons_succ]
 refine WC.call M2 rfl rfl ?_
 rintro _ _ ⟨rfl,rfl⟩
 have hrd:=n9 c9B
 unfold mo0 c5U s6 at hrd
 simp +contextual -implicitDefEqProofs only [K7b,SS,rA,rS,rL,rE,reduceCtorEq,List.cons_append,List.nil_append,Nat.reducePow,if_true,Option.map_some,G6,List.length_cons,List.length_nil]
 refine WC.call hrd rfl rfl ?_
 rintro _ st1 ⟨rfl,hg1,hrd⟩
 have hrd:=n9 hrd
 unfold mo0 tK9 at hrd
 simp +contextual -implicitDefEqProofs only [K7b,SS,rA,rS,rL,rE,reduceCtorEq,List.cons_append,List.nil_append,Nat.reducePow,if_true,Option.map_some,G6,List.length_cons,List.length_nil]
 refine WC.call hrd rfl rfl ?_
 rintro _ st2 ⟨rfl,hg2,_⟩
 simp +contextual -implicitDefEqProofs only [K7b,SS,rA,rS,rL,rE,reduceCtorEq]
 exact z6 l hl c2u hg2
theorem b9C (l:List Thg) (hl:∀ x∈l,x.OK) (n:Int) (hn:0≤n∧n < 256) (hw:IntKind.i64.wrap (n.tdiv 4)=n.tdiv 4) (hi:n.tmod 4=2) (hj:(n.tdiv 4).tmod 4=2):EvQ tbl 7 [.list false (l.map Thg.row),.int .u8 n] [] (fun a _=>a=.bool true):=by
 have z4:((4:Int)=0)=False:=by simp
 refine EvQ.body (fn:=a7) rfl rfl rfl ?_
 simp +contextual -implicitDefEqProofs only [K7b,SS,rA,rS,rL,rE,reduceCtorEq]
 refine WC.call C3 rfl rfl ?_
 rintro _ _ ⟨rfl,rfl⟩
 simp +contextual -implicitDefEqProofs only [K7b,SS,rA,rS,rL,rE,reduceCtorEq,show eqN [97,108,108,32,123,32,110,97,109,101,32,125] [97,108,108,32,123,32,110,97,109,101,32,125]=true from rfl,Bool.not_true,Nat.reduceLT,if_true,Option.map_some,J1 hn,hw,z4,if_false,hi,hj,il3,it3,List.getElem?_cons_zero,List.getElem?_cons_succ]
 exact WC.ret ⟨_,_,rfl,rfl⟩
theorem b9d (l:List Thg) (hl:∀ x∈l,x.OK) (n:Int) (hn:0≤n∧n < 256) (hw:IntKind.i64.wrap (n.tdiv 4)=n.tdiv 4) (hi:n.tmod 4=2) (hj:(n.tdiv 4).tmod 4=3):EvQ tbl 7 [.list false (l.map Thg.row),.int .u8 n] [] (fun a _=>a=.bool true):=by
 have z4:((4:Int)=0)=False:=by simp
 refine EvQ.body (fn:=a7) rfl rfl rfl ?_
 simp +contextual -implicitDefEqProofs only [K7b,SS,rA,rS,rL,rE,reduceCtorEq]
 refine WC.call C3 rfl rfl ?_
 rintro _ _ ⟨rfl,rfl⟩
 simp +contextual -implicitDefEqProofs only [K7b,SS,rA,rS,rL,rE,reduceCtorEq,show eqN [97,108,108,32,123,32,110,97,109,101,32,125] [112,101,114,115,111,110,40,105,100,58,32,34,97,34,41,32,123,32,102,114,105,101,110,100,115,32,123,32,110,97,109,101,32,125,32,125]=false from rfl,Bool.not_true,Nat.reduceLT,if_true,Option.map_some,J1 hn,hw,z4,if_false,hi,hj,il3,it3,List.getElem?_cons_zero,List.getElem?_cons_succ]
 refine WC.call M2 rfl rfl ?_
 rintro _ _ ⟨rfl,rfl⟩
 have hrd:=n9 c6M
 unfold mo0 c4K s6 at hrd
 simp +contextual -implicitDefEqProofs only [K7b,SS,rA,rS,rL,rE,reduceCtorEq,List.cons_append,List.nil_append,Nat.reducePow,if_true,Option.map_some,G6,List.length_cons,List.length_nil]
 refine WC.call hrd rfl rfl ?_
 rintro _ st1 ⟨rfl,hg1,hrd⟩
 have hrd:=n9 hrd
 unfold mo0 tK9 at hrd
 simp +contextual -implicitDefEqProofs only [K7b,SS,rA,rS,rL,rE,reduceCtorEq,List.cons_append,List.nil_append,Nat.reducePow,if_true,Option.map_some,G6,List.length_cons,List.length_nil]
 refine WC.call hrd rfl rfl ?_
 rintro _ st2 ⟨rfl,hg2,_⟩
 simp +contextual -implicitDefEqProofs only [K7b,SS,rA,rS,rL,rE,reduceCtorEq]
 exact z6 l hl c2O hg2
theorem b79 (l:List Thg) (hl:∀ x∈l,x.OK) (n:Int) (hn:0≤n∧n < 256) (hw:IntKind.i64.wrap (n.tdiv 4)=n.tdiv 4) (hi:n.tmod 4=3) (hj:(n.tdiv 4).tmod 4=0):EvQ tbl 7 [.list false (l.map Thg.row),.int .u8 n] [] (fun a _=>a=.bool true):=by
 have z4:((4:Int)=0)=False:=by simp
 refine EvQ.body (fn:=a7) rfl rfl rfl ?_
 simp +contextual -implicitDefEqProofs only [K7b,SS,rA,rS,rL,rE,reduceCtorEq]
 refine WC.call C3 rfl rfl ?_
 rintro _ _ ⟨rfl,rfl⟩
 simp +contextual -implicitDefEqProofs only [K7b,SS,rA,rS,rL,rE,reduceCtorEq,show eqN [112,101,114,115,111,110,40,105,100,58,32,34,97,34,41,32,123,32,102,114,105,101,110,100,115,32,123,32,110,97,109,101,32,125,32,125] [112,101,111,112,108,101,32,123,32,110,97,109,101,32,125]=false from rfl,Bool.not_true,Nat.reduceLT,if_true,Option.map_some,J1 hn,hw,z4,if_false,hi,hj,il3,it3,List.getElem?_cons_zero,List.getElem?_cons_succ]
 refine WC.call M2 rfl rfl ?_
 rintro _ _ ⟨rfl,rfl⟩
 have hrd:=n9 c7d
 unfold mo0 c3K s6 at hrd
 simp +contextual -implicitDefEqProofs only [K7b,SS,rA,rS,rL,rE,reduceCtorEq,List.cons_append,List.nil_append,Nat.reducePow,if_true,Option.map_some,G6,List.length_cons,List.length_nil]
 refine WC.call hrd rfl rfl ?_
 rintro _ st1 ⟨rfl,hg1,hrd⟩
 have hrd:=n9 hrd
 unfold mo0 a7p at hrd
 simp +contextual -implicitDefEqProofs only [K7b,SS,rA,rS,rL,rE,reduceCtorEq,List.cons_append,List.nil_append,Nat.reducePow,if_true,Option.map_some,G6,List.length_cons,List.length_nil]
 refine WC.call hrd rfl rfl ?_
 rintro _ st2 ⟨rfl,hg2,_⟩
 simp +contextual -implicitDefEqProofs only [K7b,SS,rA,rS,rL,rE,reduceCtorEq]
 exact z6 l hl c2a hg2
theorem b9N (l:List Thg) (hl:∀ x∈l,x.OK) (n:Int) (hn:0≤n∧n < 256) (hw:IntKind.i64.wrap (n.tdiv 4)=n.tdiv 4) (hi:n.tmod 4=3) (hj:(n.tdiv 4).tmod 4=1):EvQ tbl 7 [.list false (l.map Thg.row),.int .u8 n] [] (fun a _=>a=.bool true):=by
 have z4:((4:Int)=0)=False:=by simp
 refine EvQ.body (fn:=a7) rfl rfl rfl ?_
 simp +contextual -implicitDefEqProofs only [K7b,SS,rA,rS,rL,rE,reduceCtorEq]
 refine WC.call C3 rfl rfl ?_
 rintro _ _ ⟨rfl,rfl⟩
 simp +contextual -implicitDefEqProofs only [K7b,SS,rA,rS,rL,rE,reduceCtorEq,show eqN [112,101,114,115,111,110,40,105,100,58,32,34,97,34,41,32,123,32,102,114,105,101,110,100,115,32,123,32,110,97,109,101,32,125,32,125] [112,101,116,115,32,123,32,95,95,116,121,112,101,110,97,109,101,32,125]=false from rfl,Bool.not_true,Nat.reduceLT,if_true,Option.map_some,J1 hn,hw,z4,if_false,hi,hj,il3,it3,List.getElem?_cons_zero,List.getElem?_cons_succ]
 refine WC.call M2 rfl rfl ?_
 rintro _ _ ⟨rfl,rfl⟩
 have hrd:=n9 d1l
 unfold mo0 c5w s6 at hrd
 simp +contextual -implicitDefEqProofs only [K7b,SS,rA,rS,rL,rE,reduceCtorEq,List.cons_append,List.nil_append,Nat.reducePow,if_true,Option.map_some,G6,List.length_cons,List.length_nil]
 refine WC.call hrd rfl rfl ?_
 rintro _ st1 ⟨rfl,hg1,hrd⟩
 have hrd:=n9 hrd
 unfold mo0 a7p at hrd
 simp +contextual -implicitDefEqProofs only [K7b,SS,rA,rS,rL,rE,reduceCtorEq,List.cons_append,List.nil_append,Nat.reducePow,if_true,Option.map_some,G6,List.length_cons,List.length_nil]
 refine WC.call hrd rfl rfl ?_
 rintro _ st2 ⟨rfl,hg2,_⟩
 simp +contextual -implicitDefEqProofs only [K7b,SS,rA,rS,rL,rE,reduceCtorEq]
 exact z6 l hl c2V hg2
theorem b8C (l:List Thg) (hl:∀ x∈l,x.OK) (n:Int) (hn:0≤n∧n < 256) (hw:IntKind.i64.wrap (n.tdiv 4)=n.tdiv 4) (hi:n.tmod 4=3) (hj:(n.tdiv 4).tmod 4=2):EvQ tbl 7 [.list false (l.map Thg.row),.int .u8 n] [] (fun a _=>a=.bool true):=by
 have z4:((4:Int)=0)=False:=by simp
 refine EvQ.body (fn:=a7) rfl rfl rfl ?_
 simp +contextual -implicitDefEqProofs only [K7b,SS,rA,rS,rL,rE,reduceCtorEq]
 refine WC.call C3 rfl rfl ?_
 rintro _ _ ⟨rfl,rfl⟩
 simp +contextual -implicitDefEqProofs only [K7b,SS,rA,rS,rL,rE,reduceCtorEq,show eqN [112,101,114,115,111,110,40,105,100,58,32,34,97,34,41,32,123,32,102,114,105,101,110,100,115,32,123,32,110,97,109,101,32,125,32,125] [97,108,108,32,123,32,110,97,109,101,32,125]=false from rfl,Bool.not_true,Nat.reduceLT,if_true,Option.map_some,J1 hn,hw,z4,if_false,hi,hj,il3,it3,List.getElem?_cons_zero,List.getElem?_cons_succ]
 refine WC.call M2 rfl rfl ?_
 rintro _ _ ⟨rfl,rfl⟩
 have hrd:=n9 d0o
 unfold mo0 c4e s6 at hrd
 simp +contextual -implicitDefEqProofs only [K7b,SS,rA,rS,rL,rE,reduceCtorEq,List.cons_append,List.nil_append,Nat.reducePow,if_true,Option.map_some,G6,List.length_cons,List.length_nil]
 refine WC.call hrd rfl rfl ?_
 rintro _ st1 ⟨rfl,hg1,hrd⟩
 have hrd:=n9 hrd
 unfold mo0 a7p at hrd
 simp +contextual -implicitDefEqProofs only [K7b,SS,rA,rS,rL,rE,reduceCtorEq,List.cons_append,List.nil_append,Nat.reducePow,if_true,Option.map_some,G6,List.length_cons,List.length_nil]
 refine WC.call hrd rfl rfl ?_
 rintro _ st2 ⟨rfl,hg2,_⟩
 simp +contextual -implicitDefEqProofs only [K7b,SS,rA,rS,rL,rE,reduceCtorEq]
 exact z6 l hl c2X hg2
theorem b8x (l:List Thg) (hl:∀ x∈l,x.OK) (n:Int) (hn:0≤n∧n < 256) (hw:IntKind.i64.wrap (n.tdiv 4)=n.tdiv 4) (hi:n.tmod 4=3) (hj:(n.tdiv 4).tmod 4=3):EvQ tbl 7 [.list false (l.map Thg.row),.int .u8 n] [] (fun a _=>a=.bool true):=by
 have z4:((4:Int)=0)=False:=by simp
 refine EvQ.body (fn:=a7) rfl rfl rfl ?_
 simp +contextual -implicitDefEqProofs only [K7b,SS,rA,rS,rL,rE,reduceCtorEq]
 refine WC.call C3 rfl rfl ?_
 rintro _ _ ⟨rfl,rfl⟩
 simp +contextual -implicitDefEqProofs only [K7b,SS,rA,rS,rL,rE,reduceCtorEq,show eqN [112,101,114,115,111,110,40,105,100,58,32,34,97,34,41,32,123,32,102,114,105,101,110,100,115,32,123,32,110,97,109,101,32,125,32,125] [112,101,114,115,111,110,40,105,100,58,32,34,97,34,41,32,123,32,102,114,105,101,110,100,115,32,123,32,110,97,109,101,32,125,32,125]=true from rfl,Bool.not_true,Nat.reduceLT,if_true,Option.map_some,J1 hn,hw,z4,if_false,hi,hj,il3,it3,List.getElem?_cons_zero,List.getElem?_cons_succ]
 exact WC.ret ⟨_,_,rfl,rfl⟩
theorem skips_law (l:List Thg) (hl:∀ x∈l,x.OK) (n:Int) (hn:0≤n∧n < 256):EvQ tbl 7 [.list false (l.map Thg.row),.int .u8 n] [] (fun a _=>a=.bool true):=by
 have hi:n.tmod 4=0∨n.tmod 4=1∨n.tmod 4=2∨n.tmod 4=3:=by
  rw [Int.tmod_eq_emod_of_nonneg hn.1]
  omega
 have hq:0≤n.tdiv 4:=Int.tdiv_nonneg hn.1 (by decide)
 have hq2:n.tdiv 4 < 256:=by
  rw [Int.tdiv_eq_ediv_of_nonneg hn.1]
  omega
 have hw:=c7U ⟨hq,hq2⟩
 have hj:(n.tdiv 4).tmod 4=0∨(n.tdiv 4).tmod 4=1∨(n.tdiv 4).tmod 4=2∨(n.tdiv 4).tmod 4=3:=by
  rw [Int.tmod_eq_emod_of_nonneg hq]
  omega
 rcases hi with hi|hi|hi|hi <;> rcases hj with hj|hj|hj|hj
 · exact b9J l hl n hn hw hi hj
 · exact b8q l hl n hn hw hi hj
 · exact b8g l hl n hn hw hi hj
 · exact b8p l hl n hn hw hi hj
 · exact b9p l hl n hn hw hi hj
 · exact b8H l hl n hn hw hi hj
 · exact b9f l hl n hn hw hi hj
 · exact b8U l hl n hn hw hi hj
 · exact b8B l hl n hn hw hi hj
 · exact b7X l hl n hn hw hi hj
 · exact b9C l hl n hn hw hi hj
 · exact b9d l hl n hn hw hi hj
 · exact b79 l hl n hn hw hi hj
 · exact b9N l hl n hn hw hi hj
 · exact b8C l hl n hn hw hi hj
 · exact b8x l hl n hn hw hi hj
end Go.Cb.CodeA
