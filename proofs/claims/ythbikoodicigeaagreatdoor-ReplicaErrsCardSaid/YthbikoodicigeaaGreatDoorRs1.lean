import Derived.Test.YthbikoodicigeaaGreatDoorMT
import Derived.Test.YthbikoodicigeaaGreatDoorChV
import Derived.Test.YthbikoodicigeaaGreatDoorMb
set_option maxRecDepth 20000
set_option linter.unusedSimpArgs false
set_option linter.unusedVariables false
namespace Go.Cb.CodeA
open Go Go.Cb
open Nat renaming reduceAdd→rA,reduceSub→rS,reduceLeDiff→rL,reduceEqDiff→rE
open Go.Cb.G
attribute [local congr] obind_congr gv_congr2 gv2_congr brT_congr seqK_congr blkK_congr m1_congr gm_congr V.runR_congr
def sRow (x:List Nat):List AV:=[.str x]
theorem eqN_iff (a b:List Nat):eqN a b=true ↔ a=b:=by rw [eqN_eq]; simp
theorem eqN_ne {a b:List Nat} (h:a≠b):eqN a b=false:=by
 cases e:eqN a b with
 | false=>rfl
 | true=>exact absurd ((eqN_iff a b).1 e) h
/-- the schema's types, as rows; their names; the objects' names -/
def tyRows:List (List AV):=match V20 with|.list _ r=>r|_=>[]
def tyNames:List (List Nat):=tyRows.map fun r=>match r with|[_,.str s,_,_]=>s|_=>[]
def tyObj:List (List Nat):=[[80,101,114,115,111,110],[67,97,116],[68,111,103],[81,117,101,114,121],[77,117,116,97,116,105,111,110]]
theorem tyRows_len:tyRows.length=11:=rfl
theorem ty_row {i:Nat} (h:i < 11):∃ (k:Int) (s:List Nat) (a b:List (List AV)),tyRows[i]?=some [.int .u8 k,.str s,.list false a,.list false b]∧s∈tyNames:=by
 have h0:i=0∨i=1∨i=2∨i=3∨i=4∨i=5∨i=6∨i=7∨i=8∨i=9∨i=10:=by omega
 rcases h0 with rfl|rfl|rfl|rfl|rfl|rfl|rfl|rfl|rfl|rfl|rfl <;> exact ⟨_,_,_,_,rfl,by decide⟩
theorem ty_ok:rowsOk 4 tyRows=true:=rfl
theorem ty_miss (t:List Nat) (ht:t ∉ tyNames) (ob:Cb.Obj):EvQ tbl 23 [.ptr 30 0,.str t] (S_rp ob) (fun r T'=>T'=S_rp ob∧∃ a b c,r=.agg [.int .u8 0,a,b,c]):=by
 have h30:(S_rp ob)[30]?=some (.cells [.list false tyRows]):=rfl
 refine EvQ.body (fn:=a23) rfl rfl rfl ?_
 simp +contextual -implicitDefEqProofs only [K23,SS,rA,rS,rL,rE,reduceCtorEq]
 refine WC.loopR (fun mm fr T'=>T'=S_rp ob∧∃ i:Nat,i≤11∧mm=11 - i∧fr=[.ptr 30 0,.str t,.box [.int .u8 0,.str [],.list true [],.list true []],.int .i64 (i:Int)]) (m:=11) ⟨rfl,0,by omega,rfl,rfl⟩ ?_
 rintro mm fr T' ⟨rfl,i,hi,rfl,rfl⟩
 have e1:ltI (i:Int) 11=decide (i < 11):=by rw [ltI_eq]; exact decide_eq_decide.2 (by omega)
 have e2:wrapA .i64 (addI (i:Int) 1)=((i+1:Nat):Int):=by rw [addI_eq,wrap64 (by omega) (by omega)]; omega
 by_cases h:i < 11
 · obtain ⟨k,s,a,b,hr,hs⟩:=ty_row h
   have e3:eqN s t=false:=eqN_ne fun e=>ht (e ▸ hs)
   simp +contextual -implicitDefEqProofs only [K23,SS,rA,rS,rL,rE,reduceCtorEq,h30,tyRows_len,e1,h,decide_true,hr,e3,ty_ok,e2]
   exact WC.next (m':=11 - (i+1)) (by omega) ⟨rfl,i+1,by omega,rfl,rfl⟩
 · simp +contextual -implicitDefEqProofs only [K23,SS,rA,rS,rL,rE,reduceCtorEq,h30,tyRows_len,e1,h,decide_false]
   refine WC.leave ?_
   simp +contextual -implicitDefEqProofs only [K23,SS,rA,rS,rL,rE,reduceCtorEq]
   exact WC.ret ⟨_,_,rfl,rfl,_,_,_,rfl⟩
/-- what the reference says of a type -/
theorem ty_q (t:List Nat) (ob:Cb.Obj):EvQ tbl 23 [.ptr 30 0,.str t] (S_rp ob) (fun r T'=>T'=S_rp ob∧∃ (k:Int) (a b c:AV),r=.agg [.int .u8 k,a,b,c]∧eqI k 1=decide (t∈tyObj)):=by
 by_cases ht:t∈tyNames
 · have hm:t=[78,97,109,101,100]∨t=[77,111,111,100]∨t=[80,101,114,115,111,110]∨t=[67,97,116]∨t=[68,111,103]∨t=[80,101,116]∨t=[80,101,114,115,111,110,73,110]∨t=[67,97,116,73,110]∨t=[68,111,103,73,110]∨t=[81,117,101,114,121]∨t=[77,117,116,97,116,105,111,110]:=by
    simpa [tyNames,tyRows,V20] using ht
   rcases hm with rfl|rfl|rfl|rfl|rfl|rfl|rfl|rfl|rfl|rfl|rfl
   · exact EvQ.of_ev (ev_ofG (m_rn ob)) ⟨rfl,_,_,_,_,rfl,rfl⟩
   · exact EvQ.of_ev (ev_ofG (m_ro ob)) ⟨rfl,_,_,_,_,rfl,rfl⟩
   · exact EvQ.of_ev (ev_ofG (m_rp ob)) ⟨rfl,_,_,_,_,rfl,rfl⟩
   · exact EvQ.of_ev (ev_ofG (m_rc ob)) ⟨rfl,_,_,_,_,rfl,rfl⟩
   · exact EvQ.of_ev (ev_ofG (m_rd ob)) ⟨rfl,_,_,_,_,rfl,rfl⟩
   · exact EvQ.of_ev (ev_ofG (m_ru ob)) ⟨rfl,_,_,_,_,rfl,rfl⟩
   · exact EvQ.of_ev (ev_ofG (m_ri ob)) ⟨rfl,_,_,_,_,rfl,rfl⟩
   · exact EvQ.of_ev (ev_ofG (m_rj ob)) ⟨rfl,_,_,_,_,rfl,rfl⟩
   · exact EvQ.of_ev (ev_ofG (m_rk ob)) ⟨rfl,_,_,_,_,rfl,rfl⟩
   · exact EvQ.of_ev (ev_ofG (m_rq ob)) ⟨rfl,_,_,_,_,rfl,rfl⟩
   · exact EvQ.of_ev (ev_ofG (m_rm ob)) ⟨rfl,_,_,_,_,rfl,rfl⟩
 · have hno:t ∉ tyObj:=fun h=>ht (by
    have:∀ u∈tyObj,u∈tyNames:=by decide
    exact this t h)
   refine (ty_miss t ht ob).mono ?_
   rintro r T' ⟨rfl,a,b,c,rfl⟩
   exact ⟨rfl,0,a,b,c,rfl,by simp [hno]⟩
def tyRoot (t:List Nat):Bool:=eqN t [81,117,101,114,121] || eqN t [77,117,116,97,116,105,111,110]
theorem root_q (t:List Nat) (T:St):EvQ tbl 24 [.str t] T (fun r T'=>T'=T∧r=.bool (tyRoot t)):=by
 refine EvQ.body (fn:=a24) rfl rfl rfl ?_
 simp +contextual -implicitDefEqProofs only [K24,SS,rA,rS,rL,rE,reduceCtorEq]
 cases h:eqN t [81,117,101,114,121] with
 | true =>
  simp +contextual -implicitDefEqProofs only [K24,SS,rA,rS,rL,rE,reduceCtorEq]
  exact WC.ret ⟨_,_,rfl,rfl,by simp [tyRoot,h,AV.weak]⟩
 | false =>
  simp +contextual -implicitDefEqProofs only [K24,SS,rA,rS,rL,rE,reduceCtorEq]
  exact WC.ret ⟨_,_,rfl,rfl,by simp [tyRoot,h,AV.weak]⟩
end Go.Cb.CodeA
set_option maxRecDepth 20000
set_option linter.unusedSimpArgs false
set_option linter.unusedVariables false
namespace Go.Cb.CodeA
open Go Go.Cb
open Nat renaming reduceAdd→rA,reduceSub→rS,reduceLeDiff→rL,reduceEqDiff→rE
open Go.Cb.G
attribute [local congr] obind_congr gv_congr2 gv2_congr brT_congr seqK_congr blkK_congr m1_congr gm_congr V.runR_congr
theorem tz_miss (t:List Nat) (ht:t ∉ tyNames):EvQ tbl1 34 [.ptr 2 0,.str t] T_nw (fun r T'=>T'=T_nw∧r=.tuple [.agg [.int .u8 0,.str [],.list false [],.list false []],.bool false]):=by
 have h2:T_nw[2]?=some (.cells [V20,.map 1]):=rfl
 have h1:T_nw[1]?=some B5:=rfl
 have hn:∀ s,s∈tyNames→eqN t s=false:=fun s hs=>eqN_ne fun e=>ht (e ▸ hs)
 refine EvQ.body (fn:=a34) rfl rfl rfl ?_
 simp +contextual -implicitDefEqProofs only [K34,SS,rA,rS,rL,rE,reduceCtorEq,h2]
 simp +contextual -implicitDefEqProofs only [K34,SS,rA,rS,rL,rE,reduceCtorEq,h2,h1,B5,semMget,mfind,eqKey,hn [78,97,109,101,100] (by decide),hn [77,111,111,100] (by decide),hn [80,101,114,115,111,110] (by decide),hn [67,97,116] (by decide),hn [68,111,103] (by decide),hn [80,101,116] (by decide),hn [80,101,114,115,111,110,73,110] (by decide),hn [67,97,116,73,110] (by decide),hn [68,111,103,73,110] (by decide),hn [81,117,101,114,121] (by decide),hn [77,117,116,97,116,105,111,110] (by decide),Option.isSome_none,p1_some]
 exact WC.ret ⟨_,_,rfl,rfl,rfl⟩
/-- what the schema says of a type -/
theorem tz_q (t:List Nat):∃ (k:Int) (s:List Nat) (b1:Bool) (xs:List (List AV)) (b2:Bool) (ys:List (List AV)) (ok:Bool),Ev tbl1 34 [.ptr 2 0,.str t] T_nw (.tuple [.agg [.int .u8 k,.str s,.list b1 xs,.list b2 ys],.bool ok]) T_nw∧(ok && eqI k 1)=decide (t∈tyObj):=by
 by_cases ht:t∈tyNames
 · have hm:t=[78,97,109,101,100]∨t=[77,111,111,100]∨t=[80,101,114,115,111,110]∨t=[67,97,116]∨t=[68,111,103]∨t=[80,101,116]∨t=[80,101,114,115,111,110,73,110]∨t=[67,97,116,73,110]∨t=[68,111,103,73,110]∨t=[81,117,101,114,121]∨t=[77,117,116,97,116,105,111,110]:=by
    simpa [tyNames,tyRows,V20] using ht
   rcases hm with rfl|rfl|rfl|rfl|rfl|rfl|rfl|rfl|rfl|rfl|rfl
   · exact ⟨_,_,_,_,_,_,_,ev_ofG m_tn,by decide⟩
   · exact ⟨_,_,_,_,_,_,_,ev_ofG m_to,by decide⟩
   · exact ⟨_,_,_,_,_,_,_,ev_ofG m_tp,by decide⟩
   · exact ⟨_,_,_,_,_,_,_,ev_ofG m_tc,by decide⟩
   · exact ⟨_,_,_,_,_,_,_,ev_ofG m_td,by decide⟩
   · exact ⟨_,_,_,_,_,_,_,ev_ofG m_tu,by decide⟩
   · exact ⟨_,_,_,_,_,_,_,ev_ofG m_ti,by decide⟩
   · exact ⟨_,_,_,_,_,_,_,ev_ofG m_tj,by decide⟩
   · exact ⟨_,_,_,_,_,_,_,ev_ofG m_tk,by decide⟩
   · exact ⟨_,_,_,_,_,_,_,ev_ofG m_tq,by decide⟩
   · exact ⟨_,_,_,_,_,_,_,ev_ofG m_tm,by decide⟩
 · have hno:t ∉ tyObj:=fun h=>ht (by
    have:∀ u∈tyObj,u∈tyNames:=by decide
    exact this t h)
   obtain ⟨r,T',hev,rfl,rfl⟩:=tz_miss t ht
   exact ⟨_,_,_,_,_,_,_,hev,by simp [hno]⟩
theorem cz_q (t:List Nat) (ht:t∈tyObj):Ev tbl1 35 [.ptr 2 0,.str t] T_nw (.bool (!tyRoot t)) T_nw:=by
 simp only [tyObj,List.mem_cons,List.not_mem_nil,or_false] at ht
 rcases ht with rfl|rfl|rfl|rfl|rfl
 · exact ev_ofG m_cp
 · exact ev_ofG m_cc
 · exact ev_ofG m_cd
 · exact ev_ofG m_cq
 · exact ev_ofG m_cm
end Go.Cb.CodeA
/- What functions of the abstract machine answer. No conditions but those that each theorem names. -/
set_option maxRecDepth 20000
set_option linter.unusedSimpArgs false
set_option linter.unusedVariables false
namespace Go.Cb.CodeA
open Go Go.Cb
open Nat renaming reduceAdd→rA,reduceSub→rS,reduceLeDiff→rL,reduceEqDiff→rE
open Go.Cb.G
attribute [local congr] obind_congr gv_congr2 gv2_congr brT_congr seqK_congr blkK_congr m1_congr gm_congr V.runR_congr
theorem empty_q (T:St):EvQ tbl 8 [] T (fun r T'=>r=.agg [.int .u8 6,.int .i64 0,.str [],.list false [],.list false []]∧T'=T):=by
 refine EvQ.body (fn:=a8) rfl rfl rfl ?_
 simp +contextual -implicitDefEqProofs only [K8,SS,rA,rS,rL,rE,reduceCtorEq]
 exact WC.ret ⟨_,_,rfl,rfl,rfl⟩
theorem add_nil (T:St):EvQ tbl 7 [.nilp,.str [],.agg [.int .u8 6,.int .i64 0,.str [],.list false [],.list false []]] T (fun r T'=>r=.tuple [.int .u64 0,.int .i64 6]∧T'=T):=by
 refine EvQ.body (fn:=a7) rfl rfl rfl ?_
 simp +contextual -implicitDefEqProofs only [K7,SS,rA,rS,rL,rE,reduceCtorEq]
 exact WC.ret ⟨_,_,rfl,rfl,rfl⟩
theorem merge_nil (T:St):EvQ tbl 11 [.nilp,.agg [.list false [],.int .u64 0,.int .u64 0,.list false [],.list false []]] T (fun r T'=>r=.int .i64 6∧T'=T):=by
 refine EvQ.body (fn:=a11) rfl rfl rfl ?_
 simp +contextual -implicitDefEqProofs only [K11,SS,rA,rS,rL,rE,reduceCtorEq]
 exact WC.ret ⟨_,_,rfl,rfl,rfl⟩
theorem fits_nil (T:St):EvQ tbl 12 [.nilp,.agg [.list false [],.int .u64 0,.int .u64 0,.list false [],.list false []]] T (fun r T'=>r=.bool false∧T'=T):=by
 refine EvQ.body (fn:=a12) rfl rfl rfl ?_
 simp +contextual -implicitDefEqProofs only [K12,SS,rA,rS,rL,rE,reduceCtorEq]
 exact WC.ret ⟨_,_,rfl,rfl,rfl⟩
theorem asks_nil (T:St):EvQ tbl 13 [.nilp,.str [123,97,125],.agg [.int .u8 6,.int .i64 0,.str [],.list false [],.list false []]] T (fun r T'=>r=.agg [.int .i64 6,.int .u8 0,.int .i64 0,.str [],.list false [],.list false [],.list false []]∧T'=T):=by
 refine EvQ.body (fn:=a13) rfl rfl rfl ?_
 simp +contextual -implicitDefEqProofs only [K13,SS,rA,rS,rL,rE,reduceCtorEq]
 exact WC.ret ⟨_,_,rfl,rfl,rfl⟩
theorem done_nil (T:St):EvQ tbl 14 [.nilp] T (fun r T'=>r=.int .u64 0∧T'=T):=by
 refine EvQ.body (fn:=a14) rfl rfl rfl ?_
 simp +contextual -implicitDefEqProofs only [K14,SS,rA,rS,rL,rE,reduceCtorEq]
 exact WC.ret ⟨_,_,rfl,rfl,rfl⟩
theorem vers_nil (T:St):EvQ tbl 15 [.nilp] T (fun r T'=>r=.int .u64 0∧T'=T):=by
 refine EvQ.body (fn:=a15) rfl rfl rfl ?_
 simp +contextual -implicitDefEqProofs only [K15,SS,rA,rS,rL,rE,reduceCtorEq]
 exact WC.ret ⟨_,_,rfl,rfl,rfl⟩
theorem since_nil (T:St):EvQ tbl 16 [.nilp] T (fun r T'=>r=.int .u64 0∧T'=T):=by
 refine EvQ.body (fn:=a16) rfl rfl rfl ?_
 simp +contextual -implicitDefEqProofs only [K16,SS,rA,rS,rL,rE,reduceCtorEq]
 exact WC.ret ⟨_,_,rfl,rfl,rfl⟩
theorem waits_nil (T:St):EvQ tbl 17 [.nilp] T (fun r T'=>r=.list false []∧T'=T):=by
 refine EvQ.body (fn:=a17) rfl rfl rfl ?_
 simp +contextual -implicitDefEqProofs only [K17,SS,rA,rS,rL,rE,reduceCtorEq]
 exact WC.ret ⟨_,_,rfl,rfl,rfl⟩
theorem wanted_nil (T:St):EvQ tbl 18 [.nilp] T (fun r T'=>r=.list false []∧T'=T):=by
 refine EvQ.body (fn:=a18) rfl rfl rfl ?_
 simp +contextual -implicitDefEqProofs only [K18,SS,rA,rS,rL,rE,reduceCtorEq]
 exact WC.ret ⟨_,_,rfl,rfl,rfl⟩
theorem known_nil (T:St):EvQ tbl 19 [.nilp] T (fun r T'=>r=.list false []∧T'=T):=by
 refine EvQ.body (fn:=a19) rfl rfl rfl ?_
 simp +contextual -implicitDefEqProofs only [K19,SS,rA,rS,rL,rE,reduceCtorEq]
 exact WC.ret ⟨_,_,rfl,rfl,rfl⟩
theorem base_nil (T:St):EvQ tbl 20 [.nilp] T (fun r T'=>r=.agg [.nils]∧T'=T):=by
 refine EvQ.body (fn:=a20) rfl rfl rfl ?_
 simp +contextual -implicitDefEqProofs only [K20,SS,rA,rS,rL,rE,reduceCtorEq]
 exact WC.ret ⟨_,_,rfl,rfl,rfl⟩
theorem view_nil (T:St):EvQ tbl 22 [.nilp] T (fun r T'=>r=.agg [.nils,.bool false,.list false []]∧T'=T):=by
 refine EvQ.body (fn:=a22) rfl rfl rfl ?_
 simp +contextual -implicitDefEqProofs only [K22,SS,rA,rS,rL,rE,reduceCtorEq]
 exact WC.ret ⟨_,_,rfl,rfl,rfl⟩
theorem drop_nil (n:Int) (T:St):EvQ tbl 9 [.nilp,.int .u64 n] T (fun r T'=>r=.tuple [.int .i64 0,.int .i64 6]∧T'=T):=by
 refine EvQ.body (fn:=a9) rfl rfl rfl ?_
 simp +contextual -implicitDefEqProofs only [K9,SS,rA,rS,rL,rE,reduceCtorEq]
 exact WC.ret ⟨_,_,rfl,rfl,rfl⟩
theorem len_nil (T:St):EvQ tbl 21 [.agg [.nils]] T (fun r T'=>r=.int .i64 0∧T'=T):=by
 refine EvQ.body (fn:=a21) rfl rfl rfl ?_
 simp +contextual -implicitDefEqProofs only [K21,SS,rA,rS,rL,rE,reduceCtorEq]
 exact WC.ret ⟨_,_,rfl,rfl,rfl⟩
theorem want_nil (x:AV) (T:St):EvQ tbl 10 [.nilp,x] T (fun r T'=>r=.int .i64 6∧T'=T) :=
 EvQ.of_ext (fn:=a10) (e:=wantX) (r:=(.int .i64 6,T)) rfl rfl rfl ⟨rfl,rfl⟩
theorem new_nil (a n:Int) (T:St):EvQ tbl 6 [.nilp,.int .i64 a,.int .u64 n] T (fun r T'=>r=.tuple [.nilp,.int .i64 6]∧T'=T):=by
 refine EvQ.body (fn:=a6) rfl rfl rfl ?_
 simp +contextual -implicitDefEqProofs only [K6,SS,rA,rS,rL,rE,reduceCtorEq]
 exact WC.ret ⟨_,_,rfl,rfl,rfl⟩
theorem queueX_eq (a n:Int) (T:St):queueX [.int .i64 a,.int .u64 n] T=if 1≤a∧a≤64 then some (.tuple [.ro [],.int .i64 0],T) else some (.tuple [.nilp,.int .i64 1],T):=rfl
theorem new_q (a:Int):EvQ tbl 6 [.ptr 2 0,.int .i64 a,.int .u64 0] T_b0 (fun r T'=>if 1≤a∧a≤64 then r=.tuple [.ptr 31 0,.int .i64 0]∧T'=T_nw else r=.tuple [.nilp,.int .i64 1]∧T'=T_b0):=by
 refine EvQ.body (fn:=a6) rfl rfl rfl ?_
 simp +contextual -implicitDefEqProofs only [K6,SS,rA,rS,rL,rE,reduceCtorEq]
 by_cases h:1≤a∧a≤64
 · refine WC.call (EvQ.of_ext (fn:=a28) (e:=queueX) (r:=(.tuple [.ro [],.int .i64 0],T_b0)) (Q:=fun r T'=>r=.tuple [.ro [],.int .i64 0]∧T'=T_b0) rfl rfl (by show queueX [.int .i64 a,.int .u64 0] T_b0=_; rw [queueX_eq,if_pos h]) ⟨rfl,rfl⟩) rfl rfl ?_
   rintro _ _ ⟨rfl,rfl⟩
   simp +contextual -implicitDefEqProofs only [K6,SS,rA,rS,rL,rE,reduceCtorEq]
   exact WC.ret ⟨_,_,rfl,by rw [if_pos h]; exact ⟨rfl,rfl⟩⟩
 · refine WC.call (EvQ.of_ext (fn:=a28) (e:=queueX) (r:=(.tuple [.nilp,.int .i64 1],T_b0)) (Q:=fun r T'=>r=.tuple [.nilp,.int .i64 1]∧T'=T_b0) rfl rfl (by show queueX [.int .i64 a,.int .u64 0] T_b0=_; rw [queueX_eq,if_neg h]) ⟨rfl,rfl⟩) rfl rfl ?_
   rintro _ _ ⟨rfl,rfl⟩
   simp +contextual -implicitDefEqProofs only [K6,SS,rA,rS,rL,rE,reduceCtorEq,show eqI 1 0=false from rfl,Bool.not_false]
   exact WC.ret ⟨_,_,rfl,by rw [if_neg h]; exact ⟨rfl,rfl⟩⟩
end Go.Cb.CodeA
set_option maxRecDepth 20000
set_option linter.unusedSimpArgs false
set_option linter.unusedVariables false
namespace Go.Cb.CodeA
open Go Go.Cb
open Nat renaming reduceAdd→rA,reduceSub→rS,reduceLeDiff→rL,reduceEqDiff→rE
open Go.Cb.G
attribute [local congr] obind_congr gv_congr2 gv2_congr brT_congr seqK_congr blkK_congr m1_congr gm_congr V.runR_congr
theorem both_q:EvQ tbl 5 [] [] (fun r T=>r=.tuple [.ptr 2 0,.ptr 30 0]∧T=T_b0):=EvQ.of_ev (ev_ofG m_bb) ⟨rfl,rfl⟩
theorem awake_q:EvQ tbl 4 [] [] (fun r T'=>r=.bool true∧T'=[]):=EvQ.of_ext (fn:=a4) (e:=awakeX) (r:=(.bool true,[])) rfl rfl rfl ⟨rfl,rfl⟩
open Classical in
/-- Want's answer -/
noncomputable def wantE (ts:List (List Nat)):Int:=if 20 < ts.length then 2 else if ∀ r∈ts.map sRow,r∈wantGood then 0 else 6
open Classical in
theorem wantX_eq (o:Nat) (b:Bool) (rows:List (List AV)) (st:St):wantX [.ptr o 0,.list b rows] st=if st=T_nw∧o=31∧∀ r∈rows,∃ s,r=[.str s] then
 some (.int .i64 (if 20 < rows.length then 2 else if ∀ r∈rows,r∈wantGood then 0 else 6),st.set 31 .dead) else none:=rfl
theorem want_q (ts:List (List Nat)):EvQ tbl 10 [.ptr 31 0,.list false (ts.map sRow)] T_nw (fun r T=>r=.int .i64 (wantE ts)∧T=S_rp .dead):=by
 have h1:∀ r∈ts.map sRow,∃ s,r=[.str s]:=fun r hr=>by
  obtain ⟨s,_,rfl⟩:=List.mem_map.1 hr
  exact ⟨s,rfl⟩
 refine EvQ.of_ext (fn:=a10) (e:=wantX) (r:=(.int .i64 (wantE ts),S_rp .dead)) rfl rfl ?_ ⟨rfl,rfl⟩
 show wantX [.ptr 31 0,.list false (ts.map sRow)] T_nw=_
 rw [wantX_eq,if_pos ⟨rfl,rfl,h1⟩]
 unfold wantE
 simp only [List.length_map]
 rfl
set_option maxHeartbeats 2000000 in
/-- what is asked of the nil replica -/
theorem nil_tail (room n e:Int) (ts:List (List Nat)) (p:AV) (ok:Bool) (T:St) {Q:Out→Prop}
 (h:WC (fun k=>exec (callF tbl k) k a3s66 [.int .i64 room,.list false (ts.map sRow),.int .u64 n,.bool false,.ptr 2 0,.ptr 30 0,.int .i64 6,p,.int .i64 e,.bool ok,.nilp,.int .i64 6,.int .i64 6,.undef,.undef,.undef] T) Q) :
 WC (fun k=>exec (callF tbl k) k a3s69 [.int .i64 room,.list false (ts.map sRow),.int .u64 n,.bool false,.ptr 2 0,.ptr 30 0,.int .i64 6,p,.int .i64 e,.bool ok,.nilp,.undef,.undef,.undef,.undef,.undef] T) Q:=by
 have c6:eqI 6 6=true:=rfl
 have c0:eqI 0 0=true:=rfl
 simp +contextual -implicitDefEqProofs only [K3b,SS,rA,rS,rL,rE,reduceCtorEq,a3s69,c6,c0,Bool.not_true,Bool.not_false]
 refine WC.call (empty_q T) rfl rfl ?_
 rintro _ T' ⟨rfl,hT⟩
 replace hT:=hT.symm
 subst hT
 simp +contextual -implicitDefEqProofs only [K3b,SS,rA,rS,rL,rE,reduceCtorEq,c6,c0,Bool.not_true,Bool.not_false]
 refine WC.call (add_nil T) rfl rfl ?_
 rintro _ T' ⟨rfl,hT⟩
 replace hT:=hT.symm
 subst hT
 simp +contextual -implicitDefEqProofs only [K3b,SS,rA,rS,rL,rE,reduceCtorEq,c6,c0,Bool.not_true,Bool.not_false]
 refine WC.call (drop_nil n T) rfl rfl ?_
 rintro _ T' ⟨rfl,hT⟩
 replace hT:=hT.symm
 subst hT
 simp (maxSteps:=1000000) (contextual:=true) (implicitDefEqProofs:=false) only [K3b,SS,rA,rS,rL,rE,reduceCtorEq,a3s67,c6,c0,Bool.not_true,Bool.not_false]
 refine WC.call (want_nil _ T) rfl rfl ?_
 rintro _ T' ⟨rfl,hT⟩
 replace hT:=hT.symm
 subst hT
 simp (maxSteps:=1000000) (contextual:=true) (implicitDefEqProofs:=false) only [K3b,SS,rA,rS,rL,rE,reduceCtorEq,c6,c0,Bool.not_true,Bool.not_false]
 refine WC.call (merge_nil T) rfl rfl ?_
 rintro _ T' ⟨rfl,hT⟩
 replace hT:=hT.symm
 subst hT
 simp (maxSteps:=1000000) (contextual:=true) (implicitDefEqProofs:=false) only [K3b,SS,rA,rS,rL,rE,reduceCtorEq,c6,c0,Bool.not_true,Bool.not_false]
 refine WC.call (fits_nil T) rfl rfl ?_
 rintro _ T' ⟨rfl,hT⟩
 replace hT:=hT.symm
 subst hT
 simp (maxSteps:=1000000) (contextual:=true) (implicitDefEqProofs:=false) only [K3b,SS,rA,rS,rL,rE,reduceCtorEq,c6,c0,Bool.not_true,Bool.not_false]
 refine WC.call (empty_q T) rfl rfl ?_
 rintro _ T' ⟨rfl,hT⟩
 replace hT:=hT.symm
 subst hT
 simp (maxSteps:=1000000) (contextual:=true) (implicitDefEqProofs:=false) only [K3b,SS,rA,rS,rL,rE,reduceCtorEq,c6,c0,Bool.not_true,Bool.not_false]
 refine WC.call (asks_nil T) rfl rfl ?_
 rintro _ T' ⟨rfl,hT⟩
 replace hT:=hT.symm
 subst hT
 simp (maxSteps:=1000000) (contextual:=true) (implicitDefEqProofs:=false) only [K3b,SS,rA,rS,rL,rE,reduceCtorEq,c6,c0,Bool.not_true,Bool.not_false]
 refine WC.call (done_nil T) rfl rfl ?_
 rintro _ T' ⟨rfl,hT⟩
 replace hT:=hT.symm
 subst hT
 simp (maxSteps:=1000000) (contextual:=true) (implicitDefEqProofs:=false) only [K3b,SS,rA,rS,rL,rE,reduceCtorEq,c6,c0,Bool.not_true,Bool.not_false]
 refine WC.call (vers_nil T) rfl rfl ?_
 rintro _ T' ⟨rfl,hT⟩
 replace hT:=hT.symm
 subst hT
 simp (maxSteps:=1000000) (contextual:=true) (implicitDefEqProofs:=false) only [K3b,SS,rA,rS,rL,rE,reduceCtorEq,c6,c0,Bool.not_true,Bool.not_false]
 refine WC.call (since_nil T) rfl rfl ?_
 rintro _ T' ⟨rfl,hT⟩
 replace hT:=hT.symm
 subst hT
 simp (maxSteps:=1000000) (contextual:=true) (implicitDefEqProofs:=false) only [K3b,SS,rA,rS,rL,rE,reduceCtorEq,c6,c0,Bool.not_true,Bool.not_false]
 refine WC.call (waits_nil T) rfl rfl ?_
 rintro _ T' ⟨rfl,hT⟩
 replace hT:=hT.symm
 subst hT
 simp (maxSteps:=1000000) (contextual:=true) (implicitDefEqProofs:=false) only [K3b,SS,rA,rS,rL,rE,reduceCtorEq,c6,c0,Bool.not_true,Bool.not_false]
 refine WC.call (wanted_nil T) rfl rfl ?_
 rintro _ T' ⟨rfl,hT⟩
 replace hT:=hT.symm
 subst hT
 simp (maxSteps:=1000000) (contextual:=true) (implicitDefEqProofs:=false) only [K3b,SS,rA,rS,rL,rE,reduceCtorEq,c6,c0,Bool.not_true,Bool.not_false]
 refine WC.call (known_nil T) rfl rfl ?_
 rintro _ T' ⟨rfl,hT⟩
 replace hT:=hT.symm
 subst hT
 simp (maxSteps:=1000000) (contextual:=true) (implicitDefEqProofs:=false) only [K3b,SS,rA,rS,rL,rE,reduceCtorEq,c6,c0,Bool.not_true,Bool.not_false]
 refine WC.call (base_nil T) rfl rfl ?_
 rintro _ T' ⟨rfl,hT⟩
 replace hT:=hT.symm
 subst hT
 simp (maxSteps:=1000000) (contextual:=true) (implicitDefEqProofs:=false) only [K3b,SS,rA,rS,rL,rE,reduceCtorEq,c6,c0,Bool.not_true,Bool.not_false]
 refine WC.call (len_nil T) rfl rfl ?_
 rintro _ T' ⟨rfl,hT⟩
 replace hT:=hT.symm
 subst hT
 simp (maxSteps:=1000000) (contextual:=true) (implicitDefEqProofs:=false) only [K3b,SS,rA,rS,rL,rE,reduceCtorEq,c6,c0,Bool.not_true,Bool.not_false]
 refine WC.call (view_nil T) rfl rfl ?_
 rintro _ T' ⟨rfl,hT⟩
 replace hT:=hT.symm
 subst hT
 simp (maxSteps:=1000000) (contextual:=true) (implicitDefEqProofs:=false) only [K3b,SS,rA,rS,rL,rE,reduceCtorEq,c6,c0,Bool.not_true,Bool.not_false]
 refine WC.call (len_nil T) rfl rfl ?_
 rintro _ T' ⟨rfl,hT⟩
 replace hT:=hT.symm
 subst hT
 simp (maxSteps:=1000000) (contextual:=true) (implicitDefEqProofs:=false) only [K3b,SS,rA,rS,rL,rE,reduceCtorEq,c6,c0,Bool.not_true,Bool.not_false]
 exact h
def okT (t:List Nat):Bool:=decide (t∈tyObj) && !tyRoot t
theorem good_iff (t:List Nat):sRow t∈wantGood ↔ okT t=true:=by
 constructor
 · intro h
   simp only [wantGood,sRow,List.mem_cons,List.cons.injEq,AV.str.injEq,and_true,List.not_mem_nil,or_false] at h
   rcases h with rfl|rfl|rfl <;> decide
 · intro h
   simp only [okT,Bool.and_eq_true,decide_eq_true_eq,tyObj,List.mem_cons,List.not_mem_nil,or_false] at h
   obtain ⟨h1,h2⟩:=h
   rcases h1 with rfl|rfl|rfl|rfl|rfl
   · exact List.mem_cons_self ..
   · exact List.mem_cons_of_mem _ (List.mem_cons_self ..)
   · exact List.mem_cons_of_mem _ (List.mem_cons_of_mem _ (List.mem_cons_self ..))
   · exact absurd h2 (by decide)
   · exact absurd h2 (by decide)
theorem wantE_small {ts:List (List Nat)} (h:¬ 20 < ts.length):wantE ts=if ts.all okT then 0 else 6:=by
 unfold wantE
 rw [if_neg h]
 by_cases ha:∀ t∈ts,okT t=true
 · rw [if_pos (List.forall_mem_map.2 fun t ht=>(good_iff t).2 (ha t ht)),if_pos (List.all_eq_true.2 ha)]
 · rw [if_neg fun h'=>ha fun t ht=>(good_iff t).1 (List.forall_mem_map.1 h' t ht),if_neg fun h'=>ha (List.all_eq_true.1 h')]
theorem sRow_at {ts:List (List Nat)} {i:Nat} (h:i < ts.length):(ts.map sRow)[i]?=some [.str ts[i]]:=by
 rw [List.getElem?_map,List.getElem?_eq_getElem h]; rfl
theorem sRow_ok (ts:List (List Nat)):rowsOk 1 (ts.map sRow)=true:=rowsOk_all fun r hr=>by
 obtain ⟨x,_,rfl⟩:=List.mem_map.1 hr
 rfl
theorem law_q (room n:Int) (ts:List (List Nat)):EvQ tbl 3 [.int .i64 room,.list false (ts.map sRow),.int .u64 n] [] (fun r _=>r=.bool true):=by
 have e1:ltI 40 (ts.length:Int)=decide (40 < ts.length):=by rw [ltI_eq]; exact decide_eq_decide.2 (by omega)
 have e2:ltI 20 (ts.length:Int)=decide (20 < ts.length):=by rw [ltI_eq]; exact decide_eq_decide.2 (by omega)
 refine EvQ.body (fn:=a3) rfl rfl rfl ?_
 simp +contextual -implicitDefEqProofs only [K3b,SS,rA,rS,rL,rE,reduceCtorEq]
 refine WC.call (awake_q) rfl rfl ?_
 rintro _ _ ⟨rfl,rfl⟩
 simp +contextual -implicitDefEqProofs only [K3b,SS,rA,rS,rL,rE,reduceCtorEq,Bool.not_true,List.length_map,e1]
 by_cases hl:40 < ts.length
 · simp +contextual -implicitDefEqProofs only [K3b,SS,rA,rS,rL,rE,reduceCtorEq,hl,decide_true]
   refine WC.call (awake_q) rfl rfl ?_
   rintro _ _ ⟨rfl,rfl⟩
   simp +contextual -implicitDefEqProofs only [K3b,SS,rA,rS,rL,rE,reduceCtorEq]
   exact WC.ret ⟨_,_,rfl,rfl⟩
 simp +contextual -implicitDefEqProofs only [K3b,SS,rA,rS,rL,rE,reduceCtorEq,hl,decide_false]
 refine WC.call both_q rfl rfl ?_
 rintro _ _ ⟨rfl,rfl⟩
 simp +contextual -implicitDefEqProofs only [K3b,SS,rA,rS,rL,rE,reduceCtorEq]
 refine WC.call (new_nil room n T_b0) rfl rfl ?_
 rintro _ _ ⟨rfl,rfl⟩
 simp +contextual -implicitDefEqProofs only [K3b,SS,rA,rS,rL,rE,reduceCtorEq]
 refine WC.call (new_q room) rfl rfl ?_
 rintro r T hr
 have c6:eqI 6 6=true:=rfl
 have c0:eqI 0 0=true:=rfl
 have c10:eqI 1 0=false:=rfl
 have ctt:(true == true)=true:=rfl
 have cff:(false == false)=true:=rfl
 by_cases h1:1≤room∧room≤64
 · rw [if_pos h1] at hr
   obtain ⟨rfl,rfl⟩:=hr
   have a1:ltI room 1=false:=by simp; omega
   have a2:ltI 64 room=false:=by simp; omega
   simp +contextual -implicitDefEqProofs only [K3b,SS,rA,rS,rL,rE,reduceCtorEq,a1,a2,c6,c0,ctt,Bool.not_true,Bool.not_false,Bool.or_false,Bool.and_true]
   refine nil_tail room n 0 ts (.ptr 31 0) true T_nw ?_
   simp +contextual -implicitDefEqProofs only [K3b,SS,rA,rS,rL,rE,reduceCtorEq,a3s66,Bool.not_true]
   simp +contextual -implicitDefEqProofs only [K3b,SS,rA,rS,rL,rE,reduceCtorEq,a3s65]
   refine WC.call (want_q ts) rfl rfl ?_
   rintro _ _ ⟨rfl,rfl⟩
   simp +contextual -implicitDefEqProofs only [K3b,SS,rA,rS,rL,rE,reduceCtorEq,List.length_map,e2]
   by_cases h20:20 < ts.length
   · have e5:eqI (wantE ts) 2=true:=by simp [wantE,h20]
     simp +contextual -implicitDefEqProofs only [K3b,SS,rA,rS,rL,rE,reduceCtorEq,h20,decide_true,e5]
     exact WC.ret ⟨_,_,rfl,rfl⟩
   simp +contextual -implicitDefEqProofs only [K3b,SS,rA,rS,rL,rE,reduceCtorEq,h20,decide_false]
   refine WC.loopR (fun mm fr T'=>T'=S_rp .dead∧∃ i:Nat,i≤ts.length∧mm=ts.length - i∧fr=[.int .i64 room,.list false (ts.map sRow),.int .u64 n,.bool false,.ptr 2 0,.ptr 30 0,.int .i64 6,.ptr 31 0,.int .i64 0,.bool true,.nilp,.int .i64 6,.int .i64 6,.int .i64 (wantE ts),.bool ((ts.take i).all okT),.int .i64 (i:Int)]) (m:=ts.length) ⟨rfl,0,Nat.zero_le _,rfl,rfl⟩ ?_
   rintro mm fr T' ⟨rfl,i,hi,rfl,rfl⟩
   have e6:ltI (i:Int) (ts.length:Int)=decide (i < ts.length):=by rw [ltI_eq]; exact decide_eq_decide.2 (by omega)
   by_cases h:i < ts.length
   · have e7:wrapA .i64 (addI (i:Int) 1)=((i+1:Nat):Int):=by rw [addI_eq,wrap64 (by omega) (by omega)]; omega
     have hat:=sRow_at h
     have hok:=sRow_ok ts
     have htk:(ts.take (i+1)).all okT=((ts.take i).all okT && okT ts[i]):=by
      rw [List.take_succ_eq_append_getElem h,List.all_append]; simp
     cases hf:(ts.take i).all okT with
     | false =>
      rw [hf,Bool.false_and] at htk
      simp +contextual -implicitDefEqProofs only [K3b,SS,rA,rS,rL,rE,reduceCtorEq,List.length_map,e6,h,decide_true,e7]
      exact WC.next (m':=ts.length - (i+1)) (by omega) ⟨rfl,i+1,by omega,rfl,by rw [htk]⟩
     | true =>
      rw [hf,Bool.true_and] at htk
      simp +contextual -implicitDefEqProofs only [K3b,SS,rA,rS,rL,rE,reduceCtorEq,List.length_map,e6,h,decide_true,e7,hat,hok]
      refine WC.call (ty_q ts[i] .dead) rfl rfl ?_
      rintro _ _ ⟨rfl,k,a,b,c,rfl,hk⟩
      cases hm:decide (ts[i]∈tyObj) with
      | false =>
       rw [hm] at hk
       simp +contextual -implicitDefEqProofs only [K3b,SS,rA,rS,rL,rE,reduceCtorEq,hk,e7]
       exact WC.next (m':=ts.length - (i+1)) (by omega) ⟨rfl,i+1,by omega,rfl,by rw [htk,okT,hm]; rfl⟩
      | true =>
       rw [hm] at hk
       simp +contextual -implicitDefEqProofs only [K3b,SS,rA,rS,rL,rE,reduceCtorEq,hk,e7,hat,hok]
       refine WC.call (root_q ts[i] (S_rp .dead)) rfl rfl ?_
       rintro _ _ ⟨rfl,rfl⟩
       simp +contextual -implicitDefEqProofs only [K3b,SS,rA,rS,rL,rE,reduceCtorEq,e7]
       exact WC.next (m':=ts.length - (i+1)) (by omega) ⟨rfl,i+1,by omega,rfl,by rw [htk,okT,hm]; rfl⟩
   · obtain rfl:i=ts.length:=by omega
     simp +contextual -implicitDefEqProofs only [K3b,SS,rA,rS,rL,rE,reduceCtorEq,List.length_map,e6,h,decide_false]
     refine WC.leave ?_
     rw [List.take_length,wantE_small h20]
     cases ts.all okT with
     | true =>
      simp +contextual -implicitDefEqProofs only [K3b,SS,rA,rS,rL,rE,reduceCtorEq,if_true,c0]
      exact WC.ret ⟨_,_,rfl,rfl⟩
     | false =>
      simp +contextual -implicitDefEqProofs only [K3b,SS,rA,rS,rL,rE,reduceCtorEq,if_false,c6,Bool.false_eq_true,show eqI 6 0=false from rfl,cff]
      exact WC.ret ⟨_,_,rfl,rfl⟩
 · rw [if_neg h1] at hr
   obtain ⟨rfl,rfl⟩:=hr
   have a3:(!ltI room 1 && !ltI 64 room)=false:=by simp; omega
   simp +contextual -implicitDefEqProofs only [K3b,SS,rA,rS,rL,rE,reduceCtorEq,a3,c6,c0,c10,ctt,cff,Bool.not_true,Bool.not_false,Bool.or_false,Bool.and_true]
   refine nil_tail room n 1 ts .nilp false T_b0 ?_
   simp +contextual -implicitDefEqProofs only [K3b,SS,rA,rS,rL,rE,reduceCtorEq,a3s66,Bool.not_false]
   exact WC.ret ⟨_,_,rfl,rfl⟩
theorem errs_am (room n:Int) (ts:List (List Nat)):∃ k st',callF tbl k 3 [.int .i64 room,.list false (ts.map sRow),.int .u64 n] []=some (.bool true,st'):=by
 obtain ⟨r,st',⟨k,hk⟩,rfl⟩:=law_q room n ts
 exact ⟨k,st',hk⟩
end Go.Cb.CodeA
