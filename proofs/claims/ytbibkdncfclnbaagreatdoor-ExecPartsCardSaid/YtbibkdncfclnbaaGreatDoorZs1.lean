import Derived.Test.YtbibkdncfclnbaaGreatDoorXs1
import Derived.Test.YtbibkdncfclnbaaGreatDoorS1
import Derived.Test.YtbibkdncfclnbaaGreatDoorC6
import Derived.Test.YtbibkdncfclnbaaGreatDoorYs1
set_option maxRecDepth 20000
set_option linter.unusedSimpArgs false
set_option linter.unusedVariables false
namespace Go.Cb.CodeA
open Go Go.Cb
open Nat renaming reduceAdd→rA,reduceSub→rS,reduceLeDiff→rL,reduceEqDiff→rE
attribute [local congr] i7 j1 j2 j3 j0 i8 k6 j9 V.runR_congr
structure SD where
 k:Int
 n:List Nat
 fs:List FDef
 ns:List (List Nat)
def SD.td (t:SD):TD:=⟨t.k,t.n,t.fs.map FDef.row,t.ns⟩
def lkD (T:List SD) (n:List Nat):Option SD:=T.find? fun t=>eqN n t.n
theorem a7A (T:List SD) (n:List Nat):lk (T.map SD.td) n=(lkD T n).map SD.td:=by
 unfold lk lkD
 rw [List.find?_map]
 rfl
structure SchD (T:List SD) (so:Nat) (st:St):Prop where
 sch:Sch (T.map SD.td) so st
 fs:∀ t∈T,t.fs.length≤3000
theorem SchD.gr {T:List SD} {so:Nat} {st st':St} (h:SchD T so st) (hg:Gr st st'):SchD T so st':=⟨h.sch.gr hg,h.fs⟩
def J2 (T:List SD) (n:List Nat) (k:Int):Bool:=match lkD T n with
 | some t=>eqI t.k k
 | none=>false
theorem a6i {T:List SD} {so:Nat} {st:St} (h:SchD T so st) (n:List Nat) (k:Int):EvQ tbl 173 [.ptr so 0,.str n,.int .u8 k] st (fun a st'=>st'=st∧a=.bool (J2 T n k)):=by
 refine EvQ.body (fn:=a173) rfl rfl rfl ?_
 simp +contextual -implicitDefEqProofs only [b9q,SS,rA,rS,rL,rE,reduceCtorEq]
 refine WC.call (a3l h.sch n) rfl rfl ?_
 rintro _ st ⟨rfl,rfl⟩
 rw [a7A]
 unfold J2
 cases lkD T n with
 | none =>
  simp +contextual -implicitDefEqProofs only [b9q,SS,rA,rS,rL,rE,reduceCtorEq,S2,Option.map_none,Option.getD_none,TD.zero,TD.row,Option.isSome_none]
  exact WC.ret ⟨_,_,rfl,rfl,rfl⟩
 | some t =>
  simp +contextual -implicitDefEqProofs only [b9q,SS,rA,rS,rL,rE,reduceCtorEq,S2,AN,Option.getD_some,TD.row,SD.td,Option.isSome_some]
  exact WC.ret ⟨_,_,rfl,rfl,rfl⟩
def a2r:List (List Nat):=[[66,111,111,108,101,97,110],[73,68],[73,110,116],[83,116,114,105,110,103]]
theorem c0O (so:Nat) (n:List Nat) (st:St):EvQ tbl 143 [.ptr so 0,.str n] st (fun a st'=>st'=st∧a=.bool (l6 a2r n)):=by
 have hc:=I0 a2r (by decide) n st
 unfold a2r at *
 refine EvQ.body (fn:=a143) rfl rfl rfl ?_
 simp +contextual -implicitDefEqProofs only [c61,SS,rA,rS,rL,rE,reduceCtorEq]
 refine WC.call hc rfl rfl ?_
 rintro _ st ⟨rfl,rfl⟩
 simp +contextual -implicitDefEqProofs only [c61,SS,rA,rS,rL,rE,reduceCtorEq]
 exact WC.ret ⟨_,_,rfl,rfl,rfl⟩
theorem c5D {T:List SD} {so:Nat} {st:St} (h:SchD T so st) (n:List Nat):EvQ tbl 144 [.ptr so 0,.str n] st (fun a st'=>st'=st∧a=.bool (J2 T n 4)):=by
 refine EvQ.body (fn:=a144) rfl rfl rfl ?_
 simp +contextual -implicitDefEqProofs only [c5Q,SS,rA,rS,rL,rE,reduceCtorEq]
 refine WC.call (a6i h n 4) rfl rfl ?_
 rintro _ st ⟨rfl,rfl⟩
 simp +contextual -implicitDefEqProofs only [c5Q,SS,rA,rS,rL,rE,reduceCtorEq]
 exact WC.ret ⟨_,_,rfl,rfl,rfl⟩
def b5B (T:List SD) (n:List Nat):Bool:=if l6 a2r n then true else J2 T n 4
theorem c8e {T:List SD} {so:Nat} {st:St} (h:SchD T so st) (n:List Nat):EvQ tbl 192 [.ptr so 0,.str n] st (fun a st'=>st'=st∧a=.bool (b5B T n)):=by
 unfold b5B
 refine EvQ.body (fn:=a192) rfl rfl rfl ?_
 simp +contextual -implicitDefEqProofs only [b5q,SS,rA,rS,rL,rE,reduceCtorEq]
 refine WC.call (c0O so n st) rfl rfl ?_
 rintro _ st ⟨rfl,rfl⟩
 rcases e9 (l6 a2r n) with hb|hb
 · simp +contextual -implicitDefEqProofs only [b5q,SS,rA,rS,rL,rE,reduceCtorEq,hb,if_true]
   exact WC.ret ⟨_,_,rfl,rfl,rfl⟩
 · simp +contextual -implicitDefEqProofs only [b5q,SS,rA,rS,rL,rE,reduceCtorEq,hb]
   refine WC.call (c5D h n) rfl rfl ?_
   rintro _ st ⟨rfl,rfl⟩
   simp +contextual -implicitDefEqProofs only [b5q,SS,rA,rS,rL,rE,reduceCtorEq]
   exact WC.ret ⟨_,_,rfl,rfl,rfl⟩
def b0i:List Nat:=[77,117,116,97,116,105,111,110]
def a2G (n:List Nat):Bool:=if eqN n j5 then true else eqN n b0i
theorem b7n (n:List Nat) (st:St):EvQ tbl 102 [.str n] st (fun a st'=>st'=st∧a=.bool (a2G n)):=by
 unfold a2G j5 b0i
 refine EvQ.body (fn:=a102) rfl rfl rfl ?_
 simp +contextual -implicitDefEqProofs only [c0Y,SS,rA,rS,rL,rE,reduceCtorEq]
 rcases e9 (eqN n [81,117,101,114,121]) with hb|hb
 · simp +contextual -implicitDefEqProofs only [c0Y,SS,rA,rS,rL,rE,reduceCtorEq,hb]
   exact WC.ret ⟨_,_,rfl,rfl,rfl⟩
 · simp +contextual -implicitDefEqProofs only [c0Y,SS,rA,rS,rL,rE,reduceCtorEq,hb]
   exact WC.ret ⟨_,_,rfl,rfl,rfl⟩
def a7f (T:List SD) (n:List Nat):Bool:=if a2G n then false else if J2 T n 1 then true else if J2 T n 2 then true else J2 T n 3
theorem c6i {T:List SD} {so:Nat} {st:St} (h:SchD T so st) (n:List Nat):EvQ tbl 132 [.ptr so 0,.str n] st (fun a st'=>st'=st∧a=.bool (a7f T n)):=by
 unfold a7f
 refine EvQ.body (fn:=a132) rfl rfl rfl ?_
 simp +contextual -implicitDefEqProofs only [a3j,SS,rA,rS,rL,rE,reduceCtorEq]
 refine WC.call (b7n n st) rfl rfl ?_
 rintro _ st ⟨rfl,rfl⟩
 rcases e9 (a2G n) with hb|hb
 · simp +contextual -implicitDefEqProofs only [a3j,SS,rA,rS,rL,rE,reduceCtorEq,hb,Bool.not_true]
   exact WC.ret ⟨_,_,rfl,rfl,rfl⟩
 rw [hb,if_neg (by decide)]
 simp +contextual -implicitDefEqProofs only [a3j,SS,rA,rS,rL,rE,reduceCtorEq,hb,Bool.not_false]
 refine WC.call (a6i h n 1) rfl rfl ?_
 rintro _ st ⟨rfl,rfl⟩
 rcases e9 (J2 T n 1) with hb|hb
 · simp +contextual -implicitDefEqProofs only [a3j,SS,rA,rS,rL,rE,reduceCtorEq,hb]
   exact WC.ret ⟨_,_,rfl,rfl,rfl⟩
 rw [hb,if_neg (by decide)]
 simp +contextual -implicitDefEqProofs only [a3j,SS,rA,rS,rL,rE,reduceCtorEq,hb]
 refine WC.call (a6i h n 2) rfl rfl ?_
 rintro _ st ⟨rfl,rfl⟩
 rcases e9 (J2 T n 2) with hb|hb
 · simp +contextual -implicitDefEqProofs only [a3j,SS,rA,rS,rL,rE,reduceCtorEq,hb]
   exact WC.ret ⟨_,_,rfl,rfl,rfl⟩
 rw [hb,if_neg (by decide)]
 simp +contextual -implicitDefEqProofs only [a3j,SS,rA,rS,rL,rE,reduceCtorEq,hb]
 refine WC.call (a6i h n 3) rfl rfl ?_
 rintro _ st ⟨rfl,rfl⟩
 simp +contextual -implicitDefEqProofs only [a3j,SS,rA,rS,rL,rE,reduceCtorEq]
 exact WC.ret ⟨_,_,rfl,rfl,rfl⟩
theorem b7h (F:List FDef) (hF:F.length≤3000) (st:St):EvQ tbl 100 [.list false (F.map FDef.row)] st (fun a st'=>st'=st∧a=.list true ((F.map FDef.n).map e8)):=by
 refine EvQ.body (fn:=a100) rfl rfl rfl ?_
 simp +contextual -implicitDefEqProofs only [b1f,SS,rA,rS,rL,rE,reduceCtorEq,AF]
 refine WC.loopR (fun mm fr st'=>st'=st∧∃ (i:Nat) (v3:AV),i≤F.length∧mm=F.length - i∧fr=[.list false (F.map FDef.row),.list true [],.list true (((F.take i).map FDef.n).map e8),v3,.list false (F.map FDef.row),.int .i64 F.length,.int .i64 i]) (m:=F.length) ⟨rfl,0,_,Nat.zero_le _,rfl,rfl⟩ ?_
 rintro mm fr st' ⟨rfl,i,v3,hi,rfl,rfl⟩
 simp +contextual -implicitDefEqProofs only [b1f,SS,rA,rS,rL,rE,reduceCtorEq,ltN]
 by_cases hil:i < F.length
 · have e2:(F.map FDef.row)[i]?=some (F[i]).row:=by rw [AQ,AD hil]; rfl
   have e3:F.take (i+1)=F.take i++[F[i]]:=by rw [List.take_add_one,AD hil]; rfl
   have hl:(((F.take i).map FDef.n).map e8).length≤3000:=by rw [AF,AF,AO]; omega
   revert e2 e3
   generalize F[i]=f
   intro e2 e3
   rw [FDef.row] at e2
   simp +contextual -implicitDefEqProofs only [b1f,SS,rA,rS,rL,rE,reduceCtorEq,hil,e2,a4u,show ((((F.take i).map FDef.n).map e8).length+1)*16≤2 ^ 47 by omega,s9 (show i+1 < 2 ^ 63 by omega)]
   exact WC.next (m':=F.length - (i+1)) (by omega) ⟨rfl,i+1,_,hil,rfl,by rw [e3,AU,AU]; rfl⟩
 · simp +contextual -implicitDefEqProofs only [b1f,SS,rA,rS,rL,rE,reduceCtorEq,hil]
   refine WC.leave ?_
   simp +contextual -implicitDefEqProofs only [b1f,SS,rA,rS,rL,rE,reduceCtorEq]
   exact WC.ret ⟨_,_,rfl,rfl,by rw [List.take_of_length_le (by omega)]; rfl⟩
def c5r:List Nat:=[83,116,114,105,110,103]
def c9T:FDef:=⟨N1,[],.base c5r true,false,Val.none⟩
def W4 (T:List SD) (typ n:List Nat):Option FDef:=match lkD T typ with
 | none=>none
 | some t=>if eqN n N1 && (if a7f T typ then true else a2G typ) then some c9T else if eqI t.k 5 then none else match pI (fun x=>eqN n x) (t.fs.map FDef.n) with
  | some i=>t.fs[i]?
  | none=>none
theorem a8z {T:List SD} {n:List Nat} {t:SD} (h:lkD T n=some t):t∈T:=List.mem_of_find?_eq_some h
theorem c3x {T:List SD} {so:Nat} {st:St} (h:SchD T so st) (typ n:List Nat):EvQ tbl 84 [.ptr so 0,.str typ,.str n] st (fun a st'=>st'=st∧a=.tuple [.agg ((W4 T typ n).getD FDef.none).row,.bool (W4 T typ n).isSome]):=by
 unfold W4
 refine EvQ.body (fn:=a84) rfl rfl rfl ?_
 simp +contextual -implicitDefEqProofs only [K84,SS,rA,rS,rL,rE,reduceCtorEq]
 refine WC.call (a3l h.sch typ) rfl rfl ?_
 rintro _ st ⟨rfl,rfl⟩
 rw [a7A]
 cases hl:lkD T typ with
 | none =>
  simp +contextual -implicitDefEqProofs only [K84,SS,rA,rS,rL,rE,reduceCtorEq,S2,Option.map_none,Option.getD_none,TD.zero,TD.row,Option.isSome_none,AL]
  refine WC.call (b7h [] (by decide) st) rfl rfl ?_
  rintro _ st ⟨rfl,rfl⟩
  simp +contextual -implicitDefEqProofs only [K84,SS,rA,rS,rL,rE,reduceCtorEq,AL]
  refine WC.call (a2t [] (by decide) n st) rfl rfl ?_
  rintro _ st ⟨rfl,rfl⟩
  simp +contextual -implicitDefEqProofs only [K84,SS,rA,rS,rL,rE,reduceCtorEq,nI,pI,show ltI (-1) 0=true from rfl,Bool.not_true]
  exact WC.ret ⟨_,_,rfl,rfl,rfl⟩
 | some t =>
  have hfs:=h.fs t (a8z hl)
  have hcs:=c6i h typ
  have hro:=b7n typ st
  have hli:=b7h t.fs hfs st
  have hix:=a2t (t.fs.map FDef.n) (by rw [AF]; omega) n st
  dsimp only
  simp +contextual -implicitDefEqProofs only [K84,SS,rA,rS,rL,rE,reduceCtorEq,S2,AN,Option.getD_some,TD.row,SD.td,Option.isSome_some]
  unfold N1
  rcases e9 (eqN n [95,95,116,121,112,101,110,97,109,101]) with h1|h1
  · simp +contextual -implicitDefEqProofs only [K84,SS,rA,rS,rL,rE,reduceCtorEq,h1]
    refine WC.call hcs rfl rfl ?_
    rintro _ st ⟨rfl,rfl⟩
    rcases e9 (a7f T typ) with h2|h2
    · simp +contextual -implicitDefEqProofs only [K84,SS,rA,rS,rL,rE,reduceCtorEq,h2]
      have e:n=N1:=(x9 _ _).1 h1
      refine WC.ret ⟨_,_,rfl,rfl,?_⟩
      rw [e]
      rfl
    simp +contextual -implicitDefEqProofs only [K84,SS,rA,rS,rL,rE,reduceCtorEq,h2]
    refine WC.call hro rfl rfl ?_
    rintro _ st ⟨rfl,rfl⟩
    rcases e9 (a2G typ) with h3|h3
    · simp +contextual -implicitDefEqProofs only [K84,SS,rA,rS,rL,rE,reduceCtorEq,h3]
      have e:n=N1:=(x9 _ _).1 h1
      refine WC.ret ⟨_,_,rfl,rfl,?_⟩
      rw [e]
      rfl
    simp +contextual -implicitDefEqProofs only [K84,SS,rA,rS,rL,rE,reduceCtorEq,h3]
    refine WC.call hli rfl rfl ?_
    rintro _ st ⟨rfl,rfl⟩
    simp +contextual -implicitDefEqProofs only [K84,SS,rA,rS,rL,rE,reduceCtorEq]
    refine WC.call hix rfl rfl ?_
    rintro _ st ⟨rfl,rfl⟩
    cases hq:pI (fun x=>eqN n x) (t.fs.map FDef.n) with
    | none =>
     simp +contextual -implicitDefEqProofs only [K84,SS,rA,rS,rL,rE,reduceCtorEq,nI,show ltI (-1) 0=true from rfl,Bool.not_true]
     refine WC.ret ⟨_,_,rfl,rfl,?_⟩
     rw [show (if eqI t.k 5=true then none else none:Option FDef)=none by split <;> rfl]
     rfl
    | some i =>
     obtain ⟨_,_,_,hi⟩:=J8 hq
     rw [AF] at hi
     have e2:(t.fs.map FDef.row)[i]?=some (t.fs[i]).row:=by rw [AQ,AD hi]; rfl
     have e3:t.fs[i]?=some t.fs[i]:=AD hi
     dsimp only
     rw [e3]
     revert e2
     generalize t.fs[i]=f
     intro e2
     rw [FDef.row] at e2
     rcases e9 (eqI t.k 5) with h5|h5
     · simp +contextual -implicitDefEqProofs only [K84,SS,rA,rS,rL,rE,reduceCtorEq,nI,h5,show ltI (i:Int) 0=false by rw [ltI_eq]; simp,Bool.not_false,Bool.not_true,if_true]
       exact WC.ret ⟨_,_,rfl,rfl,rfl⟩
     · simp +contextual -implicitDefEqProofs only [K84,SS,rA,rS,rL,rE,reduceCtorEq,nI,h5,show ltI (i:Int) 0=false by rw [ltI_eq]; simp,Bool.not_false,e2]
       exact WC.ret ⟨_,_,rfl,rfl,rfl⟩
  · simp +contextual -implicitDefEqProofs only [K84,SS,rA,rS,rL,rE,reduceCtorEq,h1]
    refine WC.call hli rfl rfl ?_
    rintro _ st ⟨rfl,rfl⟩
    simp +contextual -implicitDefEqProofs only [K84,SS,rA,rS,rL,rE,reduceCtorEq]
    refine WC.call hix rfl rfl ?_
    rintro _ st ⟨rfl,rfl⟩
    cases hq:pI (fun x=>eqN n x) (t.fs.map FDef.n) with
    | none =>
     simp +contextual -implicitDefEqProofs only [K84,SS,rA,rS,rL,rE,reduceCtorEq,nI,show ltI (-1) 0=true from rfl,Bool.not_true]
     refine WC.ret ⟨_,_,rfl,rfl,?_⟩
     rw [show (if eqI t.k 5=true then none else none:Option FDef)=none by split <;> rfl]
     rfl
    | some i =>
     obtain ⟨_,_,_,hi⟩:=J8 hq
     rw [AF] at hi
     have e2:(t.fs.map FDef.row)[i]?=some (t.fs[i]).row:=by rw [AQ,AD hi]; rfl
     have e3:t.fs[i]?=some t.fs[i]:=AD hi
     dsimp only
     rw [e3]
     revert e2
     generalize t.fs[i]=f
     intro e2
     rw [FDef.row] at e2
     rcases e9 (eqI t.k 5) with h5|h5
     · simp +contextual -implicitDefEqProofs only [K84,SS,rA,rS,rL,rE,reduceCtorEq,nI,h5,show ltI (i:Int) 0=false by rw [ltI_eq]; simp,Bool.not_false,Bool.not_true,if_true]
       exact WC.ret ⟨_,_,rfl,rfl,rfl⟩
     · simp +contextual -implicitDefEqProofs only [K84,SS,rA,rS,rL,rE,reduceCtorEq,nI,h5,show ltI (i:Int) 0=false by rw [ltI_eq]; simp,Bool.not_false,e2]
       exact WC.ret ⟨_,_,rfl,rfl,rfl⟩
end Go.Cb.CodeA
set_option maxRecDepth 20000
set_option linter.unusedSimpArgs false
set_option linter.unusedVariables false
namespace Go.Cb.CodeA
open Go Go.Cb
open Nat renaming reduceAdd→rA,reduceSub→rS,reduceLeDiff→rL,reduceEqDiff→rE
attribute [local congr] i7 j1 j2 j3 j0 i8 k6 j9 V.runR_congr
theorem a7q (st:St) (a b:Cb.Obj):((st++[a])++[b])[st.length]?=some a:=by simp
theorem a6u (st:St) (a b:Cb.Obj):((st++[a])++[b])[(st++[a]).length]?=some b:=p8 _ _
def a6j (T:List SD) (n:List Nat) (v:Val):Bool :=
 if eqI v.kind 0 then true
 else if eqN n [73,110,116] then (if eqI v.kind 1 then eqI v.num (m5 .i64 (m5 .i32 v.num)) else false)
 else if eqN n [83,116,114,105,110,103] then eqI v.kind 2
 else if eqN n [66,111,111,108,101,97,110] then eqI v.kind 3
 else if eqN n [73,68] then (if eqI v.kind 2 then true else eqI v.kind 1)
 else match lkD T n with
  | none=>false
  | some t=>if eqI t.k 4 then (if eqI v.kind 4 then l6 t.ns v.text else false) else false
theorem c8F {T:List SD} {so:Nat} {st:St} (h:SchD T so st) (n:List Nat) {v:Val} (hv:VX v):EvQ tbl 146 [.ptr so 0,.agg [.str n,.list false [],.bool false],.agg v.row] st (fun a st'=>Gr st st'∧a=.bool (a6j T n v)):=by
 obtain ⟨_,_,_,hv6⟩:=hv.vals
 have h6:eqI v.kind 6=false:=by rw [eqI_eq]; simpa using hv6
 have hG:∀ a b:Cb.Obj,Gr st ((st++[a])++[b]):=fun a b i x hx=>l5 (l5 hx)
 have hT:∀ a b:Cb.Obj,EvQ tbl 56 [.ptr so 0,.str n] ((st++[a])++[b]) (fun x st'=>st'=(st++[a])++[b]∧x=S2 (lk (T.map SD.td) n)):=fun a b=>a3l (h.gr (hG a b)).sch n
 rw [v.row_eta]
 unfold a6j
 refine EvQ.body (fn:=a146) rfl rfl rfl ?_
 simp +contextual -implicitDefEqProofs only [N4,SS,rA,rS,rL,rE,reduceCtorEq,a7q,a6u]
 rcases e9 (eqI v.kind 0) with h0|h0
 · simp +contextual -implicitDefEqProofs only [N4,SS,rA,rS,rL,rE,reduceCtorEq,h0,a7q,a6u,Bool.not_false]
   exact WC.ret ⟨_,_,rfl,hG _ _,rfl⟩
 rw [h0,if_neg (by decide)]
 simp +contextual -implicitDefEqProofs only [N4,SS,rA,rS,rL,rE,reduceCtorEq,h0,a7q,a6u,List.length_nil,show ltI 0 (((0:Nat):Int))=false from rfl]
 rcases e9 (eqN n [73,110,116]) with h1|h1
 · rw [if_pos h1]
   rcases e9 (eqI v.kind 1) with h2|h2
   · simp +contextual -implicitDefEqProofs only [N4,SS,rA,rS,rL,rE,reduceCtorEq,h1,h2]
     exact WC.ret ⟨_,_,rfl,hG _ _,rfl⟩
   · simp +contextual -implicitDefEqProofs only [N4,SS,rA,rS,rL,rE,reduceCtorEq,h1,h2]
     exact WC.ret ⟨_,_,rfl,hG _ _,rfl⟩
 rw [h1,if_neg (by decide)]
 simp +contextual -implicitDefEqProofs only [N4,SS,rA,rS,rL,rE,reduceCtorEq,h1]
 rcases e9 (eqN n [83,116,114,105,110,103]) with h1|h1
 · rw [if_pos h1]
   simp +contextual -implicitDefEqProofs only [N4,SS,rA,rS,rL,rE,reduceCtorEq,h1]
   exact WC.ret ⟨_,_,rfl,hG _ _,rfl⟩
 rw [h1,if_neg (by decide)]
 simp +contextual -implicitDefEqProofs only [N4,SS,rA,rS,rL,rE,reduceCtorEq,h1]
 rcases e9 (eqN n [66,111,111,108,101,97,110]) with h1|h1
 · rw [if_pos h1]
   simp +contextual -implicitDefEqProofs only [N4,SS,rA,rS,rL,rE,reduceCtorEq,h1]
   exact WC.ret ⟨_,_,rfl,hG _ _,rfl⟩
 rw [h1,if_neg (by decide)]
 simp +contextual -implicitDefEqProofs only [N4,SS,rA,rS,rL,rE,reduceCtorEq,h1]
 rcases e9 (eqN n [73,68]) with h1|h1
 · rw [if_pos h1]
   rcases e9 (eqI v.kind 2) with h2|h2
   · simp +contextual -implicitDefEqProofs only [N4,SS,rA,rS,rL,rE,reduceCtorEq,h1,h2]
     exact WC.ret ⟨_,_,rfl,hG _ _,rfl⟩
   · simp +contextual -implicitDefEqProofs only [N4,SS,rA,rS,rL,rE,reduceCtorEq,h1,h2]
     exact WC.ret ⟨_,_,rfl,hG _ _,rfl⟩
 rw [h1,if_neg (by decide)]
 simp +contextual -implicitDefEqProofs only [N4,SS,rA,rS,rL,rE,reduceCtorEq,h1,a7q,a6u]
 refine WC.call (hT _ _) rfl rfl ?_
 rintro _ _ ⟨rfl,rfl⟩
 have hd:=b54 h.sch n
 rw [a7A] at hd ⊢
 revert hd
 cases hl:lkD T n with
 | none =>
  intro hd
  dsimp only
  simp +contextual -implicitDefEqProofs only [N4,SS,rA,rS,rL,rE,reduceCtorEq,S2,Option.map_none,Option.getD_none,TD.zero,TD.row,Option.isSome_none,show eqI 0 4=false from rfl,show eqI 0 5=false from rfl]
  exact WC.ret ⟨_,_,rfl,hG _ _,rfl⟩
 | some t =>
  intro hd
  have hd:t.ns.length≤3001:=hd
  dsimp only
  rcases e9 (eqI t.k 4) with h4|h4
  · rw [if_pos h4]
    rcases e9 (eqI v.kind 4) with h2|h2
    · rw [if_pos h2]
      simp +contextual -implicitDefEqProofs only [N4,SS,rA,rS,rL,rE,reduceCtorEq,S2,AN,Option.getD_some,TD.row,SD.td,Option.isSome_some,h4,h2]
      refine WC.call (I0 t.ns (by omega) v.text _) rfl rfl ?_
      rintro _ _ ⟨rfl,rfl⟩
      simp +contextual -implicitDefEqProofs only [N4,SS,rA,rS,rL,rE,reduceCtorEq]
      exact WC.ret ⟨_,_,rfl,hG _ _,rfl⟩
    · simp +contextual -implicitDefEqProofs only [N4,SS,rA,rS,rL,rE,reduceCtorEq,S2,AN,Option.getD_some,TD.row,SD.td,Option.isSome_some,h4,h2]
      exact WC.ret ⟨_,_,rfl,hG _ _,rfl⟩
  · rw [h4,if_neg (by decide)]
    rcases e9 (eqI t.k 5) with h5|h5
    · simp +contextual -implicitDefEqProofs only [N4,SS,rA,rS,rL,rE,reduceCtorEq,S2,AN,Option.getD_some,TD.row,SD.td,Option.isSome_some,h4,h5,h6]
      exact WC.ret ⟨_,_,rfl,hG _ _,rfl⟩
    · simp +contextual -implicitDefEqProofs only [N4,SS,rA,rS,rL,rE,reduceCtorEq,S2,AN,Option.getD_some,TD.row,SD.td,Option.isSome_some,h4,h5]
      exact WC.ret ⟨_,_,rfl,hG _ _,rfl⟩
theorem b9Q {v tv:AV} (hv:v.weak=v∧v.weak1=v∧v.strip=v∧v.stripB=v) (ht:tv.weak1=tv∧tv.weak=tv) (so:Nat) (n:List Nat) (st:St):EvQ tbl 19 [.agg [v,.bool true,tv],.ptr so 0,.str n] st (fun a st'=>Gr st st'∧a=.bool true):=by
 refine EvQ.body (fn:=a19) rfl rfl rfl ?_
 simp +contextual -implicitDefEqProofs only [K19,SS,rA,rS,rL,rE,reduceCtorEq,p8]
 exact WC.ret ⟨_,_,rfl,fun i x hx=>l5 hx,rfl⟩
end Go.Cb.CodeA
set_option maxRecDepth 20000
set_option linter.unusedSimpArgs false
set_option linter.unusedVariables false
namespace Go.Cb.CodeA
open Go Go.Cb
open Nat renaming reduceAdd→rA,reduceSub→rS,reduceLeDiff→rL,reduceEqDiff→rE
attribute [local congr] i7 j1 j2 j3 j0 i8 k6 j9 V.runR_congr
abbrev E1:=Val×Bool×Int
structure CC where
 so:Nat
 vk:Int
 vn:Int
 vs:List Nat
 vks:List (List Nat)
 vls:List Val
def CC.row (C:CC) (p:Bool):List AV:=[.ptr C.so 0,.int .u8 C.vk,.int .i64 C.vn,.str C.vs,.list false (C.vks.map e8),.list false (C.vls.map Val.row),.bool p]
structure CC.OK (C:CC):Prop where
 ks:C.vks.length≤100000000
 ev:C.vk=6→C.vks.length=C.vls.length
def a3p (k:Int) (ks:List (List Nat)) (n:List Nat):Bool:=eqI k 6 && l6 ks n
theorem c5q (ks:List (List Nat)) (n:List Nat):l6 ks n=(pI (fun x=>eqN n x) ks).isSome:=by
 unfold l6
 rw [← b25]
 cases pI (fun x=>eqN n x) ks with
 | none=>rfl
 | some i=>show (!ltI (i:Int) 0)=true; rw [ltI_eq]; simp
theorem b1q {k m:Int} {s:List Nat} {ks:List (List Nat)} {ls:List Val} (hk:ks.length≤100000000) (he:k=6→ks.length=ls.length) (n:List Nat) (st:St) :
 EvQ tbl 79 [.agg [.int .u8 k,.int .i64 m,.str s,.list false (ks.map e8),.list false (ls.map Val.row)],.str n] st (fun a st'=>st'=st∧a=.tuple [.agg (atK k ks ls n).row,.bool (a3p k ks n)]):=by
 unfold a3p
 rw [c5q]
 refine EvQ.body (fn:=a79) rfl rfl rfl ?_
 simp +contextual -implicitDefEqProofs only [K79,SS,rA,rS,rL,rE,reduceCtorEq]
 refine WC.call (a2t ks hk n _) rfl rfl ?_
 rintro _ _ ⟨rfl,rfl⟩
 unfold atK
 cases hq:pI (fun x=>eqN n x) ks with
 | none =>
  simp +contextual -implicitDefEqProofs only [K79,SS,rA,rS,rL,rE,reduceCtorEq,nI,show ltI (-1) 0=true from rfl]
  refine WC.ret ⟨_,_,rfl,rfl,?_⟩
  rw [show (if eqI k 6=true then none else none:Option Val)=none by split <;> rfl,Option.getD_none,Val.none_row]
  simp only [Option.isSome_none,Bool.and_false]
  rfl
 | some i =>
  obtain ⟨_,_,_,hi⟩:=J8 hq
  have ei:ltI (i:Int) 0=false:=by rw [ltI_eq]; simp
  rcases e9 (eqI k 6) with h6|h6
  · have hil:i < ls.length:=by rw [← he (by rw [eqI_eq] at h6; simpa using h6)]; exact hi
    have e2:(ls.map Val.row)[i]?=some (ls[i]).row:=by rw [AQ,AD hil]; rfl
    have e3:ls[i]?=some ls[i]:=AD hil
    rw [if_pos h6]
    dsimp only
    rw [e3]
    revert e2
    generalize ls[i]=u
    intro e2
    obtain ⟨k1,n1,s1,ks1,ls1,e1⟩:=u.row_cells
    rw [Option.getD_some,e1]
    rw [e1] at e2
    simp +contextual -implicitDefEqProofs only [K79,SS,rA,rS,rL,rE,reduceCtorEq,nI,ei,h6,e2]
    exact WC.ret ⟨_,_,rfl,rfl,by rw [Option.isSome_some]; rfl⟩
  · rw [h6,if_neg (by decide)]
    simp +contextual -implicitDefEqProofs only [K79,SS,rA,rS,rL,rE,reduceCtorEq,nI,ei,h6]
    refine WC.ret ⟨_,_,rfl,rfl,?_⟩
    rw [Option.getD_none,Val.none_row]
    rfl
def E7 (e:Int):E1:=(Val.none,false,e)
def t7 (r:E1):AV:=.tuple [.agg r.1.row,.bool r.2.1,.int .i64 r.2.2]
def a8K (C:CC) (p b:Bool) (v:Val) (r:E1):E1 :=
 if eqI v.kind 7 && !p then (if a3p C.vk C.vks v.text && eqI (atK C.vk C.vks C.vls v.text).kind 0 && b then E7 9 else (atK C.vk C.vks C.vls v.text,a3p C.vk C.vks v.text,0)) else if eqI v.kind 0 then (if b then E7 9 else (v,true,0)) else r
def Z7 (f:Val→E1) (bang:Bool):List Val→List Val→E1
 | [],acc=>(.mk 5 0 [] [] acc,true,0)
 | x::xs,acc=>if eqI (f x).2.2 0 then (if (f x).2.1 then Z7 f bang xs (acc++[(f x).1]) else if bang then E7 9 else Z7 f bang xs (acc++[Val.none])) else E7 (f x).2.2
def a1k (f:Val→E1) (bang:Bool) (v:Val):E1:=Z7 f bang (if eqI v.kind 5 then v.vals else [v]) []
def S3 (C:CC) (p:Bool) (N:List Nat→Val→E1):TRef→Val→E1
 | .base n b,v=>a8K C p b v (N n v)
 | .wrap t b,v=>a8K C p b v (a1k (S3 C p N t) t.bang v)
structure Val.Cz (v:Val):Prop where
 ok:v.OK
 rg:v.Rng
theorem Val.Cz.len {v:Val} (h:v.Cz):v.names.length≤3000∧v.vals.length≤3000:=by
 have:=h.ok
 cases this with|mk k n s ks ls h6 hk hl h=>exact ⟨hk,hl⟩
theorem Val.Cz.ev {v:Val} (h:v.Cz):v.kind=6→v.names.length=v.vals.length:=by
 have:=h.ok
 cases this with|mk k n s ks ls h6 hk hl h=>exact h6
theorem Val.Cz.sub {v:Val} (h:v.Cz):∀ u∈v.vals,u.Cz:=fun u hu=>by
 obtain ⟨h1,h2⟩:=h
 cases h1 with|mk k n s ks ls h6 hk hl h1=>cases h2 with|mk _ _ _ _ _ hn h2=>exact ⟨h1 u hu,h2 u hu⟩
theorem Val.Cz.inR {v:Val} (h:v.Cz):-9223372036854775808≤v.num∧v.num≤9223372036854775807:=by
 have:=h.rg
 cases this with|mk k n s ks ls hn h=>exact hn
theorem Val.Cz.none:Val.none.Cz:=⟨Val.none_ok,.mk _ _ _ _ _ (by decide) (by simp)⟩
theorem b65 (acc:List Val) (y:Val) (h:acc.length≤3000):((acc.map Val.row).length+1)*80≤2 ^ 47:=by rw [AF]; omega
theorem a8N (acc:List Val):l3 5 (acc.map Val.row)=true:=a0U acc
theorem b90 (f:Val→E1) (b:Bool) (l:List Val) (i:Nat) (acc:List Val) (h:i < l.length):Z7 f b (l.drop i) acc=if eqI (f l[i]).2.2 0 then (if (f l[i]).2.1 then Z7 f b (l.drop (i+1)) (acc++[(f l[i]).1]) else if b then E7 9 else Z7 f b (l.drop (i+1)) (acc++[Val.none])) else E7 (f l[i]).2.2:=by
 rw [List.drop_eq_getElem_cons h,Z7]
theorem c7d {C:CC} {p:Bool} {G:St→Prop} (f:Val→E1) (T:TRef) (hf:∀ st,G st→∀ x:Val,x.Cz→EvQ tbl 130 [.agg (C.row p),.agg T.row,.agg x.row] st (fun a st'=>G st'∧a=t7 (f x)))
 (st:St) (hst:G st) (v:Val) (hv:v.Cz):EvQ tbl 166 [.agg (C.row p),.agg T.row,.agg v.row] st (fun a st'=>G st'∧a=t7 (a1k f T.bang v)):=by
 unfold CC.row at *
 refine EvQ.body (fn:=a166) rfl rfl rfl ?_
 have e0:=v.row_eta
 have eT:=T.row_eta
 rw [eT] at hf ⊢
 rw [e0]
 generalize hn:T.nm=n at *
 generalize ho:T.of=of at *
 generalize hb:T.bang=b at *
 have main:∀ (l:List Val) (v9:AV),(∀ x∈l,x.Cz)→l.length≤3000→a1k f b v=Z7 f b l []→WC (fun n'=>obind (b0I (k7 tbl n') n' (a166s13.seq ((ACode.blk 1 (a166s15.seq (a166s17.seq ((ACode.blk 2 a166s31).seq a166s34)))).seq a166s40))
  [.agg [.ptr C.so 0,.int .u8 C.vk,.int .i64 C.vn,.str C.vs,.list false (C.vks.map e8),.list false (C.vls.map Val.row),.bool p],.agg [.str n,.list false of,.bool b],.agg [.int .u8 v.kind,.int .i64 v.num,.str v.text,.list false (v.names.map e8),.list false (v.vals.map Val.row)],
   .box [.ptr C.so 0,.int .u8 C.vk,.int .i64 C.vn,.str C.vs,.list false (C.vks.map e8),.list false (C.vls.map Val.row),.bool p],.box [.str n,.list false of,.bool b],.box [.int .u8 v.kind,.int .i64 v.num,.str v.text,.list false (v.names.map e8),.list false (v.vals.map Val.row)],
   .box [.int .u8 0,.int .i64 0,.str [],.list true [],.list true []],.bool false,.int .i64 0,v9,.box [.int .u8 5,.int .i64 0,.str [],.list true [],.list true []],.undef,.undef,.undef,.undef,.list false (l.map Val.row),.int .i64 (l.length:Int),.int .i64 0] st)
  (b5m (b52 0 some) (i6 (k7 tbl n') n' (a166s47.seq ACode.ret)))) (fun o=>∃ r st',finK [ResK.bx 6 true 5,ResK.v 7,ResK.v 8] (some o)=some (r,st')∧G st'∧r=t7 (a1k f b v)):=by
  intro l v9 hl hlen hX
  refine WC.loopR (fun mm fr st'=>G st'∧∃ (i:Nat) (acc:List Val) (w11 w12 w13 w14:AV),i≤l.length∧mm=l.length - i∧acc.length=i∧a1k f b v=Z7 f b (l.drop i) acc∧fr=[.agg [.ptr C.so 0,.int .u8 C.vk,.int .i64 C.vn,.str C.vs,.list false (C.vks.map e8),.list false (C.vls.map Val.row),.bool p],.agg [.str n,.list false of,.bool b],.agg [.int .u8 v.kind,.int .i64 v.num,.str v.text,.list false (v.names.map e8),.list false (v.vals.map Val.row)],
   .box [.ptr C.so 0,.int .u8 C.vk,.int .i64 C.vn,.str C.vs,.list false (C.vks.map e8),.list false (C.vls.map Val.row),.bool p],.box [.str n,.list false of,.bool b],.box [.int .u8 v.kind,.int .i64 v.num,.str v.text,.list false (v.names.map e8),.list false (v.vals.map Val.row)],
   .box [.int .u8 0,.int .i64 0,.str [],.list true [],.list true []],.bool false,.int .i64 0,v9,.box [.int .u8 5,.int .i64 0,.str [],.list true [],.list true (acc.map Val.row)],w11,w12,w13,w14,.list false (l.map Val.row),.int .i64 (l.length:Int),.int .i64 i]) (m:=l.length) ⟨hst,0,[],_,_,_,_,Nat.zero_le _,rfl,rfl,hX,rfl⟩ ?_
  rintro mm fr st' ⟨hG,i,acc,w11,w12,w13,w14,hi,rfl,hacc,hX,rfl⟩
  simp +contextual -implicitDefEqProofs only [X9,SS,rA,rS,rL,rE,reduceCtorEq,ltN]
  by_cases hil:i < l.length
  rotate_left
  · rw [List.drop_of_length_le (by omega),Z7] at hX
    simp +contextual -implicitDefEqProofs only [X9,SS,rA,rS,rL,rE,reduceCtorEq,hil]
    refine WC.leave ?_
    simp +contextual -implicitDefEqProofs only [X9,SS,rA,rS,rL,rE,reduceCtorEq]
    refine WC.ret ⟨_,_,rfl,hG,?_⟩
    rw [hX,t7,Val.row_eq]
    rfl
  have e2:=b1s hil
  have hx:=hf _ hG _ (hl _ (List.getElem_mem hil))
  rw [b90 f b l i acc hil] at hX
  revert e2 hX hx
  generalize l[i]=x
  intro hX e2 hx
  rw [x.row_eta] at e2 hx
  simp +contextual -implicitDefEqProofs only [X9,SS,rA,rS,rL,rE,reduceCtorEq,hil,e2]
  refine WC.call hx rfl rfl ?_
  rintro _ _ ⟨hG',rfl⟩
  revert hX
  generalize f x=r
  obtain ⟨y,ok,e⟩:=r
  intro hX
  dsimp only at hX
  rw [t7,y.row_eta]
  dsimp only
  have hlm:((acc.map Val.row).length+1)*80≤2 ^ 47:=b65 acc y (by omega)
  have hinc:=s9 (show i+1 < 2 ^ 63 by omega)
  rcases e9 (eqI e 0) with he|he
  rotate_left
  · rw [if_neg (by rw [he]; decide)] at hX
    simp +contextual -implicitDefEqProofs only [X9,SS,rA,rS,rL,rE,reduceCtorEq,he]
    refine WC.leaveR ?_
    simp +contextual -implicitDefEqProofs only [X9,SS,rA,rS,rL,rE,reduceCtorEq]
    refine WC.ret ⟨_,_,rfl,hG',?_⟩
    rw [hX,t7,E7,Val.none_row]
    rfl
  rw [if_pos he] at hX
  cases ok with
  | true =>
   rw [if_pos rfl] at hX
   simp +contextual -implicitDefEqProofs only [X9,SS,rA,rS,rL,rE,reduceCtorEq,he,a8N,hlm,hinc]
   have hrow:acc.map Val.row++[[.int .u8 y.kind,.int .i64 y.num,.str y.text,.list false (y.names.map e8),.list false (y.vals.map Val.row)]]=(acc++[y]).map Val.row:=by
    rw [AU,AG,AL,y.row_eta]
   rw [hrow]
   exact WC.next (m':=l.length - (i+1)) (by omega) ⟨hG',i+1,acc++[y],_,_,_,_,hil,rfl,by simp [hacc],hX,rfl⟩
  | false =>
   rw [if_neg (by decide)] at hX
   cases b with
   | true =>
    rw [if_pos rfl] at hX
    simp +contextual -implicitDefEqProofs only [X9,SS,rA,rS,rL,rE,reduceCtorEq,he]
    refine WC.leaveR ?_
    simp +contextual -implicitDefEqProofs only [X9,SS,rA,rS,rL,rE,reduceCtorEq]
    refine WC.ret ⟨_,_,rfl,hG',?_⟩
    rw [hX,t7,E7,Val.none_row]
    rfl
   | false =>
    rw [if_neg (by decide)] at hX
    simp +contextual -implicitDefEqProofs only [X9,SS,rA,rS,rL,rE,reduceCtorEq,he,a8N,hlm,hinc]
    have hrow:acc.map Val.row++[[.int .u8 0,.int .i64 0,.str [],.list false [],.list false []]]=(acc++[Val.none]).map Val.row:=by
     rw [AU,AG,AL,Val.none_row]
    rw [hrow]
    exact WC.next (m':=l.length - (i+1)) (by omega) ⟨hG',i+1,acc++[Val.none],_,_,_,_,hil,rfl,by simp [hacc],hX,rfl⟩
 simp +contextual -implicitDefEqProofs only [X9,SS,rA,rS,rL,rE,reduceCtorEq]
 refine WC.br (fun h5=>?_) (fun h5=>?_)
 · simp +contextual -implicitDefEqProofs only [X9,SS,rA,rS,rL,rE,reduceCtorEq,h5,AF]
   refine main v.vals _ hv.sub ?_ ?_
   · exact hv.len.2
   · rw [a1k,if_pos h5]
 · simp +contextual -implicitDefEqProofs only [X9,SS,rA,rS,rL,rE,reduceCtorEq,h5,AF]
   have:=main [v] (.list true [[.int .u8 v.kind,.int .i64 v.num,.str v.text,.list false (v.names.map e8),.list false (v.vals.map Val.row)]]) (fun x hx=>by simp at hx; subst hx; exact hv) (by simp) (by rw [a1k,h5]; rfl)
   rw [AG,AL,e0] at this
   exact this
theorem c0V {C:CC} (hC:C.OK) {p:Bool} {G:St→Prop} (N:List Nat→Val→E1) (T:TRef) (hN:∀ st,G st→∀ x:Val,x.Cz→EvQ tbl 167 [.agg (C.row p),.str T.bs,.agg x.row] st (fun a st'=>G st'∧a=t7 (N T.bs x))) :
 ∀ st,G st→∀ v:Val,v.Cz→EvQ tbl 130 [.agg (C.row p),.agg T.row,.agg v.row] st (fun a st'=>G st'∧a=t7 (S3 C p N T v)):=by
 induction T with
 | base n b =>
  intro st hst v hv
  have hg:=b1q (m:=C.vn) (s:=C.vs) hC.ks hC.ev v.text st
  have hc:=hN st hst v hv
  rw [show (TRef.base n b).bs=n from rfl] at hc
  unfold CC.row at hc ⊢
  rw [v.row_eta] at hc ⊢
  rw [show (TRef.base n b).row=[.str n,.list false [],.bool b] from rfl,S3]
  refine EvQ.body (fn:=a130) rfl rfl rfl ?_
  simp +contextual -implicitDefEqProofs only [H8,SS,rA,rS,rL,rE,reduceCtorEq]
  rcases e9 (eqI v.kind 7 && !p) with h7|h7
  · rw [a8K,if_pos h7]
    obtain ⟨x,hx⟩:∃ x,atK C.vk C.vks C.vls v.text=x:=⟨_,rfl⟩
    obtain ⟨ok,hok⟩:∃ ok,a3p C.vk C.vks v.text=ok:=⟨_,rfl⟩
    rw [hx,hok] at hg ⊢
    rw [x.row_eta] at hg
    simp +contextual -implicitDefEqProofs only [H8,SS,rA,rS,rL,rE,reduceCtorEq,h7]
    refine WC.call hg rfl rfl ?_
    rintro _ _ ⟨rfl,rfl⟩
    cases ok with
    | false =>
     rw [Bool.false_and,Bool.false_and,if_neg (by decide)]
     simp +contextual -implicitDefEqProofs only [H8,SS,rA,rS,rL,rE,reduceCtorEq,show ∀ b,(false && b)=false from fun _=>rfl]
     exact WC.ret ⟨_,_,rfl,hst,by rw [t7,x.row_eta]; rfl⟩
    | true =>
     rw [Bool.true_and]
     rcases e9 (eqI x.kind 0) with h0|h0
     · rw [h0,Bool.true_and]
       cases b with
       | true =>
        rw [if_pos rfl]
        simp +contextual -implicitDefEqProofs only [H8,SS,rA,rS,rL,rE,reduceCtorEq,h0]
        exact WC.ret ⟨_,_,rfl,hst,by rw [t7,E7,Val.none_row]; rfl⟩
       | false =>
        rw [if_neg (by decide)]
        simp +contextual -implicitDefEqProofs only [H8,SS,rA,rS,rL,rE,reduceCtorEq,h0]
        exact WC.ret ⟨_,_,rfl,hst,by rw [t7,x.row_eta]; rfl⟩
     · rw [h0,Bool.false_and,if_neg (by decide)]
       simp +contextual -implicitDefEqProofs only [H8,SS,rA,rS,rL,rE,reduceCtorEq,h0]
       exact WC.ret ⟨_,_,rfl,hst,by rw [t7,x.row_eta]; rfl⟩
  rw [a8K,if_neg (by rw [h7]; decide)]
  simp +contextual -implicitDefEqProofs only [H8,SS,rA,rS,rL,rE,reduceCtorEq,h7]
  rcases e9 (eqI v.kind 0) with h0|h0
  · rw [if_pos h0]
    simp +contextual -implicitDefEqProofs only [H8,SS,rA,rS,rL,rE,reduceCtorEq,h0]
    cases b with
    | true =>
     rw [if_pos rfl]
     simp +contextual -implicitDefEqProofs only [H8,SS,rA,rS,rL,rE,reduceCtorEq]
     refine WC.ret ⟨_,_,rfl,hst,?_⟩
     rw [t7,E7,Val.none_row]
     rfl
    | false =>
     rw [if_neg (by decide)]
     simp +contextual -implicitDefEqProofs only [H8,SS,rA,rS,rL,rE,reduceCtorEq]
     refine WC.ret ⟨_,_,rfl,hst,?_⟩
     rw [t7,v.row_eta]
     rfl
  rw [if_neg (by rw [h0]; decide)]
  simp +contextual -implicitDefEqProofs only [H8,SS,rA,rS,rL,rE,reduceCtorEq,h0,List.length_nil,show ltI 0 (((0:Nat):Int))=false from rfl]
  refine WC.call hc rfl rfl ?_
  rintro _ _ ⟨hG',rfl⟩
  rw [t7,(N n v).1.row_eta]
  simp +contextual -implicitDefEqProofs only [H8,SS,rA,rS,rL,rE,reduceCtorEq]
  exact WC.ret ⟨_,_,rfl,hG',rfl⟩
 | wrap t b ih =>
  intro st hst v hv
  have hg:=b1q (m:=C.vn) (s:=C.vs) hC.ks hC.ev v.text st
  have hc:=c7d (S3 C p N t) t (ih hN) st hst v hv
  rw [t.row_eta] at hc
  unfold CC.row at hc ⊢
  rw [v.row_eta] at hc ⊢
  rw [show (TRef.wrap t b).row=[.str [],.list false [t.row],.bool b] from rfl,S3,t.row_eta]
  refine EvQ.body (fn:=a130) rfl rfl rfl ?_
  simp +contextual -implicitDefEqProofs only [H8,SS,rA,rS,rL,rE,reduceCtorEq]
  rcases e9 (eqI v.kind 7 && !p) with h7|h7
  · rw [a8K,if_pos h7]
    obtain ⟨x,hx⟩:∃ x,atK C.vk C.vks C.vls v.text=x:=⟨_,rfl⟩
    obtain ⟨ok,hok⟩:∃ ok,a3p C.vk C.vks v.text=ok:=⟨_,rfl⟩
    rw [hx,hok] at hg ⊢
    rw [x.row_eta] at hg
    simp +contextual -implicitDefEqProofs only [H8,SS,rA,rS,rL,rE,reduceCtorEq,h7]
    refine WC.call hg rfl rfl ?_
    rintro _ _ ⟨rfl,rfl⟩
    cases ok with
    | false =>
     rw [Bool.false_and,Bool.false_and,if_neg (by decide)]
     simp +contextual -implicitDefEqProofs only [H8,SS,rA,rS,rL,rE,reduceCtorEq,show ∀ b,(false && b)=false from fun _=>rfl]
     exact WC.ret ⟨_,_,rfl,hst,by rw [t7,x.row_eta]; rfl⟩
    | true =>
     rw [Bool.true_and]
     rcases e9 (eqI x.kind 0) with h0|h0
     · rw [h0,Bool.true_and]
       cases b with
       | true =>
        rw [if_pos rfl]
        simp +contextual -implicitDefEqProofs only [H8,SS,rA,rS,rL,rE,reduceCtorEq,h0]
        exact WC.ret ⟨_,_,rfl,hst,by rw [t7,E7,Val.none_row]; rfl⟩
       | false =>
        rw [if_neg (by decide)]
        simp +contextual -implicitDefEqProofs only [H8,SS,rA,rS,rL,rE,reduceCtorEq,h0]
        exact WC.ret ⟨_,_,rfl,hst,by rw [t7,x.row_eta]; rfl⟩
     · rw [h0,Bool.false_and,if_neg (by decide)]
       simp +contextual -implicitDefEqProofs only [H8,SS,rA,rS,rL,rE,reduceCtorEq,h0]
       exact WC.ret ⟨_,_,rfl,hst,by rw [t7,x.row_eta]; rfl⟩
  rw [a8K,if_neg (by rw [h7]; decide)]
  simp +contextual -implicitDefEqProofs only [H8,SS,rA,rS,rL,rE,reduceCtorEq,h7]
  rcases e9 (eqI v.kind 0) with h0|h0
  · rw [if_pos h0]
    simp +contextual -implicitDefEqProofs only [H8,SS,rA,rS,rL,rE,reduceCtorEq,h0]
    cases b with
    | true =>
     rw [if_pos rfl]
     simp +contextual -implicitDefEqProofs only [H8,SS,rA,rS,rL,rE,reduceCtorEq]
     refine WC.ret ⟨_,_,rfl,hst,?_⟩
     rw [t7,E7,Val.none_row]
     rfl
    | false =>
     rw [if_neg (by decide)]
     simp +contextual -implicitDefEqProofs only [H8,SS,rA,rS,rL,rE,reduceCtorEq]
     refine WC.ret ⟨_,_,rfl,hst,?_⟩
     rw [t7,v.row_eta]
     rfl
  rw [if_neg (by rw [h0]; decide)]
  simp +contextual -implicitDefEqProofs only [H8,SS,rA,rS,rL,rE,reduceCtorEq,h0,AX,List.length_nil,show ltI 0 (((0+1:Nat):Int))=true from rfl,show ltI 0 (((1:Nat):Int))=true from rfl]
  refine WC.call hc rfl rfl ?_
  rintro _ _ ⟨hG',rfl⟩
  rw [t7,(a1k (S3 C p N t) t.bang v).1.row_eta]
  simp +contextual -implicitDefEqProofs only [H8,SS,rA,rS,rL,rE,reduceCtorEq]
  exact WC.ret ⟨_,_,rfl,hG',rfl⟩
end Go.Cb.CodeA
set_option maxRecDepth 20000
set_option linter.unusedSimpArgs false
set_option linter.unusedVariables false
namespace Go.Cb.CodeA
open Go Go.Cb
open Nat renaming reduceAdd→rA,reduceSub→rS,reduceLeDiff→rL,reduceEqDiff→rE
attribute [local congr] i7 j1 j2 j3 j0 i8 k6 j9 V.runR_congr
theorem d2b (n:Int) (h0:-9223372036854775808≤n) (h1:n≤9223372036854775807) (st:St):EvQ tbl 185 [.int .i64 n,.int .i64 10] st (fun a st'=>st'=st∧a=.str (H1 n)):=by
 have hf:EvQ tbl 201 [.int .i64 n,.int .i64 10] st (fun a st'=>st'=st∧a=.str (H1 n)) :=
  EvQ.of_ext (fn:=a201) rfl rfl (by unfold a8Q; exact if_pos ⟨h0,h1⟩) ⟨rfl,rfl⟩
 refine EvQ.body (fn:=a185) rfl rfl rfl ?_
 simp +contextual -implicitDefEqProofs only [c55,SS,rA,rS,rL,rE,reduceCtorEq]
 refine WC.call hf rfl rfl ?_
 rintro _ _ ⟨rfl,rfl⟩
 simp +contextual -implicitDefEqProofs only [c55,SS,rA,rS,rL,rE,reduceCtorEq]
 exact WC.ret ⟨_,_,rfl,rfl,rfl⟩
def nsD (T:List SD) (n:List Nat):List (List Nat):=match lkD T n with
 | some t=>t.ns
 | none=>[]
def fsD (T:List SD) (n:List Nat):List FDef:=match lkD T n with
 | some t=>t.fs
 | none=>[]
def b2y (T:List SD) (p:Bool) (fl:Val→E1) (n:List Nat) (v:Val):E1 :=
 if eqN n [73,110,116] && eqI v.kind 1 && eqI v.num (m5 .i64 (m5 .i32 v.num)) then (v,true,0)
 else if eqN n [83,116,114,105,110,103] && eqI v.kind 2 then (v,true,0)
 else if eqN n [66,111,111,108,101,97,110] && eqI v.kind 3 then (v,true,0)
 else if eqN n [73,68] && eqI v.kind 2 then (v,true,0)
 else if eqN n [73,68] && eqI v.kind 1 then (.mk 2 0 (H1 v.num) [] [],true,0)
 else if (J2 T n 4 && (eqI v.kind 4 || eqI v.kind 2 && p)) && l6 (nsD T n) v.text then (.mk 4 0 v.text [] [],true,0)
 else if J2 T n 5 && eqI v.kind 6 then ((fl v).1,eqI (fl v).2.2 0,(fl v).2.2)
 else E7 8
theorem c4c {T:List SD} {so:Nat} {st:St} (h:SchD T so st) (n:List Nat):EvQ tbl 56 [.ptr so 0,.str n] st (fun a st'=>st'=st∧∃ k nm b,a=.tuple [.agg [.int .u8 k,.str nm,.list false ((fsD T n).map FDef.row),.list false ((nsD T n).map e8)],.bool b]∧eqI k 4=J2 T n 4∧eqI k 5=J2 T n 5):=by
 refine (a3l h.sch n).mono ?_
 rintro a st' ⟨rfl,rfl⟩
 refine ⟨rfl,?_⟩
 rw [a7A]
 unfold J2 fsD nsD
 cases lkD T n with
 | none=>exact ⟨0,[],false,rfl,rfl,rfl⟩
 | some t=>exact ⟨t.k,t.n,true,rfl,rfl,rfl⟩
theorem c5s {T:List SD} {so:Nat} {st:St} (h:SchD T so st) (n:List Nat):(nsD T n).length≤3001:=by
 unfold nsD
 cases hl:lkD T n with
 | none=>simp
 | some t=>exact h.sch.ok t.td (List.mem_map_of_mem (a8z hl))
theorem c5d {T:List SD} {C:CC} {p:Bool} {G:St→Prop} (hG:∀ st,G st→SchD T C.so st) {st:St} (hst:G st) (n:List Nat) (v:Val) (hv:v.Cz) (fl:Val→E1)
 (hF:J2 T n 5=true→∀ st,G st→EvQ tbl 175 [.agg (C.row p),.list false ((fsD T n).map FDef.row),.agg v.row] st (fun a st'=>G st'∧∃ s,a=.tuple [.agg (fl v).1.row,.str s,.int .i64 (fl v).2.2])) :
 EvQ tbl 167 [.agg (C.row p),.str n,.agg v.row] st (fun a st'=>G st'∧a=t7 (b2y T p fl n v)):=by
 have hr:=hv.inR
 unfold CC.row at *
 rw [v.row_eta] at *
 refine EvQ.body (fn:=a167) rfl rfl rfl ?_
 simp +contextual -implicitDefEqProofs only [L1,SS,rA,rS,rL,rE,reduceCtorEq]
 refine WC.call (c4c (hG _ hst) n) rfl rfl ?_
 rintro _ _ ⟨rfl,k,nm,b,rfl,k4,k5⟩
 have hnl:=c5s (hG _ hst) n
 unfold b2y
 simp +contextual -implicitDefEqProofs only [L1,SS,rA,rS,rL,rE,reduceCtorEq]
 rcases e9 (eqN n [73,110,116] && eqI v.kind 1 && eqI v.num (m5 .i64 (m5 .i32 v.num))) with c|c
 · rw [if_pos c]
   simp +contextual -implicitDefEqProofs only [L1,SS,rA,rS,rL,rE,reduceCtorEq,c]
   refine WC.ret ⟨_,_,rfl,hst,?_⟩
   rw [t7,v.row_eta]
   rfl
 rw [c,if_neg (by decide)]
 simp +contextual -implicitDefEqProofs only [L1,SS,rA,rS,rL,rE,reduceCtorEq]
 rcases e9 (eqN n [83,116,114,105,110,103] && eqI v.kind 2) with c|c
 · rw [if_pos c]
   simp +contextual -implicitDefEqProofs only [L1,SS,rA,rS,rL,rE,reduceCtorEq,c]
   refine WC.ret ⟨_,_,rfl,hst,?_⟩
   rw [t7,v.row_eta]
   rfl
 rw [c,if_neg (by decide)]
 simp +contextual -implicitDefEqProofs only [L1,SS,rA,rS,rL,rE,reduceCtorEq]
 rcases e9 (eqN n [66,111,111,108,101,97,110] && eqI v.kind 3) with c|c
 · rw [if_pos c]
   simp +contextual -implicitDefEqProofs only [L1,SS,rA,rS,rL,rE,reduceCtorEq,c]
   refine WC.ret ⟨_,_,rfl,hst,?_⟩
   rw [t7,v.row_eta]
   rfl
 rw [c,if_neg (by decide)]
 simp +contextual -implicitDefEqProofs only [L1,SS,rA,rS,rL,rE,reduceCtorEq]
 rcases e9 (eqN n [73,68] && eqI v.kind 2) with c|c
 · rw [if_pos c]
   simp +contextual -implicitDefEqProofs only [L1,SS,rA,rS,rL,rE,reduceCtorEq,c]
   refine WC.ret ⟨_,_,rfl,hst,?_⟩
   rw [t7,v.row_eta]
   rfl
 rw [c,if_neg (by decide)]
 simp +contextual -implicitDefEqProofs only [L1,SS,rA,rS,rL,rE,reduceCtorEq]
 rcases e9 (eqN n [73,68] && eqI v.kind 1) with c|c
 · rw [if_pos c]
   simp +contextual -implicitDefEqProofs only [L1,SS,rA,rS,rL,rE,reduceCtorEq,c]
   refine WC.call (d2b v.num hr.1 hr.2 _) rfl rfl ?_
   rintro _ _ ⟨rfl,rfl⟩
   simp +contextual -implicitDefEqProofs only [L1,SS,rA,rS,rL,rE,reduceCtorEq]
   refine WC.ret ⟨_,_,rfl,hst,?_⟩
   rw [t7,Val.row_eq]
   rfl
 rw [c,if_neg (by decide)]
 simp +contextual -implicitDefEqProofs only [L1,SS,rA,rS,rL,rE,reduceCtorEq]
 rw [← k4,← k5]
 rw [← k5] at hF
 refine WC.g2 (fun c4=>?_) (fun c4=>?_)
 · simp +contextual -implicitDefEqProofs only [L1,SS,rA,rS,rL,rE,reduceCtorEq,c4]
   refine WC.call (I0 (nsD T n) (by omega) v.text _) rfl rfl ?_
   rintro _ _ ⟨rfl,rfl⟩
   have h4:eqI k 4=true:=by simp only [AA] at c4; exact c4.1
   have h5:eqI k 5=false:=by rw [show k=4 by rw [eqI_eq] at h4; simpa using h4]; rfl
   simp +contextual -implicitDefEqProofs only [L1,SS,rA,rS,rL,rE,reduceCtorEq,c4]
   rcases e9 (l6 (nsD T n) v.text) with cs|cs
   · rw [if_pos cs]
     simp +contextual -implicitDefEqProofs only [L1,SS,rA,rS,rL,rE,reduceCtorEq,cs]
     refine WC.ret ⟨_,_,rfl,hst,?_⟩
     rw [t7,Val.row_eq]
     rfl
   · rw [cs,if_neg (by decide),h5,Bool.false_and,if_neg (by decide)]
     simp +contextual -implicitDefEqProofs only [L1,SS,rA,rS,rL,rE,reduceCtorEq,h5,Bool.false_and]
     refine WC.ret ⟨_,_,rfl,hst,?_⟩
     rw [t7,E7,Val.none_row]
     rfl
 · have c4:(eqI k 4 && (eqI v.kind 4 || eqI v.kind 2 && p))=false:=by simpa using c4
   rw [c4,Bool.false_and,if_neg (by decide)]
   simp +contextual -implicitDefEqProofs only [L1,SS,rA,rS,rL,rE,reduceCtorEq,c4]
   rcases e9 (eqI k 5 && eqI v.kind 6) with c5|c5
   · have hn:eqI k 5=true:=by simp only [AA] at c5; exact c5.1
     rw [if_pos c5]
     simp +contextual -implicitDefEqProofs only [L1,SS,rA,rS,rL,rE,reduceCtorEq,c5]
     refine WC.call (hF hn _ hst) rfl rfl ?_
     rintro _ _ ⟨hst,s,rfl⟩
     rw [(fl v).1.row_eta]
     simp +contextual -implicitDefEqProofs only [L1,SS,rA,rS,rL,rE,reduceCtorEq]
     refine WC.ret ⟨_,_,rfl,hst,?_⟩
     rw [t7,(fl v).1.row_eta]
     rfl
   · rw [c5,if_neg (by decide)]
     simp +contextual -implicitDefEqProofs only [L1,SS,rA,rS,rL,rE,reduceCtorEq,c5]
     refine WC.ret ⟨_,_,rfl,hst,?_⟩
     rw [t7,E7,Val.none_row]
     rfl
def a1K (F:List FDef) (k:List Nat):Bool:=F.any fun f=>eqN f.n k
theorem d03 (f:FDef) (k:List Nat) {o:Nat} {st:St} (h:st[o]?=some (.cells [.str k])):EvQ tbl 195 [.agg f.row,.ptr o 0] st (fun a st'=>st'=st∧a=.bool (eqN f.n k)):=by
 rw [FDef.row]
 refine EvQ.body (fn:=a195) rfl rfl rfl ?_
 simp +contextual -implicitDefEqProofs only [d6U,SS,rA,rS,rL,rE,reduceCtorEq,h]
 exact WC.ret ⟨_,_,rfl,rfl,rfl⟩
theorem c6V (F:List FDef) (hF:F.length≤3000) (k:List Nat) {o:Nat} {st:St} (h:st[o]?=some (.cells [.str k])):EvQ tbl 180 [.list false (F.map FDef.row),.func 195 [] [.ptr o 0]] st (fun a st'=>st'=st∧∃ i,a=.int .i64 i∧ltI i 0=!a1K F k):=by
 refine EvQ.body (fn:=a180) rfl rfl rfl ?_
 simp +contextual -implicitDefEqProofs only [a3Y,SS,rA,rS,rL,rE,reduceCtorEq,AF]
 refine WC.loopR (fun mm fr st'=>st'=st∧∃ (i:Nat) (v3:AV),i≤F.length∧mm=F.length - i∧a1K F k=a1K (F.drop i) k∧fr=[.list false (F.map FDef.row),.func 195 [] [.ptr o 0],.int .i64 0,v3,.int .i64 F.length,.int .i64 i]) (m:=F.length) ⟨rfl,0,_,Nat.zero_le _,rfl,by simp,rfl⟩ ?_
 rintro mm fr st' ⟨rfl,i,v3,hi,rfl,hX,rfl⟩
 simp +contextual -implicitDefEqProofs only [a3Y,SS,rA,rS,rL,rE,reduceCtorEq,ltN]
 by_cases hil:i < F.length
 rotate_left
 · rw [List.drop_of_length_le (by omega)] at hX
   simp +contextual -implicitDefEqProofs only [a3Y,SS,rA,rS,rL,rE,reduceCtorEq,hil]
   refine WC.leave ?_
   simp +contextual -implicitDefEqProofs only [a3Y,SS,rA,rS,rL,rE,reduceCtorEq]
   exact WC.ret ⟨_,_,rfl,rfl,_,rfl,by rw [hX]; rfl⟩
 have e2:(F.map FDef.row)[i]?=some (F[i]).row:=by rw [AQ,AD hil]; rfl
 have hq:=d03 F[i] k h
 rw [List.drop_eq_getElem_cons hil] at hX
 simp only [a1K,List.any_cons] at hX
 revert e2 hX hq
 generalize F[i]=f
 intro hX e2 hq
 rw [FDef.row] at e2 hq
 simp +contextual -implicitDefEqProofs only [a3Y,SS,rA,rS,rL,rE,reduceCtorEq,hil,e2]
 refine WC.callV hq rfl rfl ?_
 rintro _ _ ⟨rfl,rfl⟩
 rcases e9 (eqN f.n k) with hx|hx
 · simp +contextual -implicitDefEqProofs only [a3Y,SS,rA,rS,rL,rE,reduceCtorEq,hx]
   refine WC.leaveR ?_
   simp +contextual -implicitDefEqProofs only [a3Y,SS,rA,rS,rL,rE,reduceCtorEq]
   exact WC.ret ⟨_,_,rfl,rfl,_,rfl,by unfold a1K; rw [hX,hx,ltI_eq]; simp⟩
 · simp +contextual -implicitDefEqProofs only [a3Y,SS,rA,rS,rL,rE,reduceCtorEq,hx,s9 (show i+1 < 2 ^ 63 by omega)]
   exact WC.next (m':=F.length - (i+1)) (by omega) ⟨rfl,i+1,_,hil,rfl,by unfold a1K; rw [hX,hx,Bool.false_or],rfl⟩
theorem c44 (F:List FDef) (hF:F.length≤3000) (k:List Nat) {o:Nat} {st:St} (h:st[o]?=some (.cells [.str k])):EvQ tbl 147 [.list false (F.map FDef.row),.func 195 [] [.ptr o 0]] st (fun a st'=>st'=st∧a=.bool (a1K F k)):=by
 refine EvQ.body (fn:=a147) rfl rfl rfl ?_
 simp +contextual -implicitDefEqProofs only [c6A,SS,rA,rS,rL,rE,reduceCtorEq]
 refine WC.call (c6V F hF k h) rfl rfl ?_
 rintro _ _ ⟨rfl,i,rfl,hi⟩
 simp +contextual -implicitDefEqProofs only [c6A,SS,rA,rS,rL,rE,reduceCtorEq,hi,Bool.not_not]
 exact WC.ret ⟨_,_,rfl,rfl,rfl⟩
theorem a7H {st:St} {o:Nat} (h:o < st.length) (x:Cb.Obj):(st.set o x)[o]?=some x:=List.getElem?_set_self h
theorem b0O {o:Nat} {st:St} {ks:List (List Nat)} {ls:List Val} (h:st[o]?=some (D5 ks ls)) (n:List Nat) (x:Val) (hk:ks.length≤3000) (hl:ls.length≤3000) :
 EvQ tbl 82 [.ptr o 0,.str n,.agg x.row] st (fun a st'=>st'=st.set o (D5 (ks++[n]) (ls++[x]))):=by
 have hlt:o < st.length:=(AB.1 h).1
 have e1:(ks++[n]).map e8=ks.map e8++[[.str n]]:=by rw [AU]; rfl
 have e2:(ls++[x]).map Val.row=ls.map Val.row++[[.int .u8 x.kind,.int .i64 x.num,.str x.text,.list false (x.names.map e8),.list false (x.vals.map Val.row)]]:=by rw [AU,AG,AL,x.row_eta]
 unfold D5 at *
 rw [x.row_eta,e1,e2]
 have g1:((ks.map e8).length+1)*16≤2 ^ 47:=by rw [AF]; omega
 have g2:((ls.map Val.row).length+1)*80≤2 ^ 47:=by rw [AF]; omega
 refine EvQ.body (fn:=a82) rfl rfl rfl ?_
 simp +contextual -implicitDefEqProofs only [K82,SS,rA,rS,rL,rE,reduceCtorEq,h,c56,a7H hlt,List.getElem?_cons_zero,List.getElem?_cons_succ,List.set_cons_zero,List.set_cons_succ,a4u,a8N,g1,g2,List.set_set]
 refine WC.ret ⟨_,_,rfl,rfl⟩
end Go.Cb.CodeA
set_option maxRecDepth 20000
set_option linter.unusedSimpArgs false
set_option linter.unusedVariables false
namespace Go.Cb.CodeA
open Go Go.Cb
open Nat renaming reduceAdd→rA,reduceSub→rS,reduceLeDiff→rL,reduceEqDiff→rE
attribute [local congr] i7 j1 j2 j3 j0 i8 k6 j9 V.runR_congr
def a2A (F:List FDef) (seen:List (List Nat)):List (List Nat)→Int
 | []=>0
 | k::ks=>if l6 seen k then 7 else if a1K F k then a2A F (seen++[k]) ks else 6
theorem c4P (F:List FDef) (K:List (List Nat)) (i:Nat) (h:i < K.length):a2A F (K.take i) (K.drop i)=if l6 (K.take i) K[i] then 7 else if a1K F K[i] then a2A F (K.take (i+1)) (K.drop (i+1)) else 6:=by
 rw [List.drop_eq_getElem_cons h,a2A,List.take_add_one,AD h]
 rfl
def CC.zero (so:Nat):CC:=⟨so,0,0,[],[],[]⟩
theorem CC.zero_ok (so:Nat):(CC.zero so).OK:=⟨by simp [CC.zero],fun h=>by simp [CC.zero] at h⟩
def a8n (C:CC) (N:Bool→List Nat→Val→E1) (f:FDef) (r0:E1):E1:=if eqI r0.2.2 0 && !r0.2.1 && f.has then S3 (CC.zero C.so) false (N false) f.t f.v else r0
def a2J (C:CC) (N:Bool→List Nat→Val→E1) (p:Bool) (f:FDef) (v:Val):E1:=a8n C N f (if a3p v.kind v.names f.n then S3 C p (N p) f.t (atK v.kind v.names v.vals f.n) else (Val.none,false,0))
def goF (C:CC) (N:Bool→List Nat→Val→E1) (p:Bool) (v:Val):List FDef→List (List Nat)→List Val→E1
 | [],ks,ls=>(.mk 6 0 [] ks ls,true,0)
 | f::F,ks,ls=>if eqI (a2J C N p f v).2.2 0 then (if (a2J C N p f v).2.1 then goF C N p v F (ks++[f.n]) (ls++[(a2J C N p f v).1]) else if f.t.bang then E7 9 else goF C N p v F ks ls) else E7 (a2J C N p f v).2.2
def J7 (C:CC) (N:Bool→List Nat→Val→E1) (F:List FDef) (p:Bool) (v:Val):E1:=if eqI (a2A F [] v.names) 0 then goF C N p v F [] [] else E7 (a2A F [] v.names)
theorem b4c (st:St) (a b:Cb.Obj):(st++[a]).set st.length b=st++[b]:=by simp
theorem a6W {st st2:St} (h:Gr st st2) {o:Nat} (ho:st.length≤o) (x:Cb.Obj):Gr st (st2.set o x):=fun i y hi=>by
 rw [List.getElem?_set_ne (by have:=(AB.1 hi).1; omega)]
 exact h i y hi
theorem a0S (st:St) (a:Cb.Obj):(st++[a])[st.length]?=some a:=by simp
theorem d0V {v:Val} (h:v.Cz) (n:List Nat):(atK v.kind v.names v.vals n).Cz:=by
 unfold atK
 split
 · cases pI (fun x=>eqN n x) v.names with
   | none=>exact Val.Cz.none
   | some i =>
    dsimp only
    cases hi:v.vals[i]? with
    | none=>exact Val.Cz.none
    | some u=>exact h.sub u (List.mem_of_getElem? hi)
 · exact Val.Cz.none
theorem b8x {T:List SD} {C:CC} (N:Bool→List Nat→Val→E1) (F:List FDef) (hFl:F.length≤3000) (hFv:∀ f∈F,f.v.Cz)
 (hV:∀ f∈F,∀ (D:CC) (p:Bool),(D=C∨D=CC.zero C.so)→∀ st,SchD T C.so st→∀ x:Val,x.Cz→EvQ tbl 130 [.agg (D.row p),.agg f.t.row,.agg x.row] st (fun a st'=>st'=st∧a=t7 (S3 D p (N p) f.t x)))
 (p:Bool) {st:St} (hst:SchD T C.so st) (v:Val) (hv:v.Cz) :
 EvQ tbl 175 [.agg (C.row p),.list false (F.map FDef.row),.agg v.row] st (fun a st'=>Gr st st'∧∃ s,a=.tuple [.agg (J7 C N F p v).1.row,.str s,.int .i64 (J7 C N F p v).2.2]):=by
 have hev:=hv.ev
 have hlen:=hv.len
 have hg:=fun n st=>b1q (k:=v.kind) (m:=v.num) (s:=v.text) (ks:=v.names) (ls:=v.vals) (by omega) hev n st
 have hat:=d0V hv
 unfold J7
 generalize hK:v.names=K at *
 rw [v.row_eta,hK]
 unfold CC.row
 refine EvQ.body (fn:=a175) rfl rfl rfl ?_
 simp +contextual -implicitDefEqProofs only [n7,SS,rA,rS,rL,rE,reduceCtorEq,AF]
 refine WC.loopR (fun mm fr st'=>Gr st st'∧∃ (i:Nat) (v8 v9:AV),i≤K.length∧mm=K.length - i∧a2A F [] K=a2A F (K.take i) (K.drop i)∧fr=[.agg [.ptr C.so 0,.int .u8 C.vk,.int .i64 C.vn,.str C.vs,.list false (C.vks.map e8),.list false (C.vls.map Val.row),.bool p],.list false (F.map FDef.row),.agg [.int .u8 v.kind,.int .i64 v.num,.str v.text,.list false (K.map e8),.list false (v.vals.map Val.row)],
  .box [.ptr C.so 0,.int .u8 C.vk,.int .i64 C.vn,.str C.vs,.list false (C.vks.map e8),.list false (C.vls.map Val.row),.bool p],.box [.int .u8 v.kind,.int .i64 v.num,.str v.text,.list false (K.map e8),.list false (v.vals.map Val.row)],.box [.int .u8 0,.int .i64 0,.str [],.list true [],.list true []],.str [],.int .i64 0,v8,v9,.undef,.undef,.undef,.undef,.undef,.list false (K.map e8),.int .i64 K.length,.int .i64 i,.undef,.undef,.undef]) (m:=K.length) ⟨Gr.refl _,0,_,_,Nat.zero_le _,rfl,rfl,rfl⟩ ?_
 rintro mm fr st' ⟨hS,i,v8,v9,hi,rfl,hX,rfl⟩
 simp +contextual -implicitDefEqProofs only [n7,SS,rA,rS,rL,rE,reduceCtorEq,ltN]
 by_cases hil:i < K.length
 · have e2:=b7U hil
   rw [c4P F K i hil] at hX
   revert e2 hX
   generalize K[i]=k
   intro hX e2
   have hS':Gr st (st'++[.cells [.str k]]):=fun i x hx=>l5 (hS i x hx)
   have hcq:=I0 (K.take i) (by rw [AO]; omega) k (st'++[.cells [.str k]])
   rw [List.map_take] at hcq
   have hle:i≤K.length:=hi
   simp +contextual -implicitDefEqProofs only [n7,SS,rA,rS,rL,rE,reduceCtorEq,hil,e2,a0S,b4c,AF,hle,a4u]
   refine WC.call hcq rfl rfl ?_
   rintro _ _ ⟨rfl,rfl⟩
   rcases e9 (l6 (K.take i) k) with c1|c1
   · rw [if_pos c1] at hX
     simp +contextual -implicitDefEqProofs only [n7,SS,rA,rS,rL,rE,reduceCtorEq,c1,a0S]
     refine WC.leaveR ?_
     simp +contextual -implicitDefEqProofs only [n7,SS,rA,rS,rL,rE,reduceCtorEq]
     refine WC.ret ⟨_,_,rfl,hS',k,?_⟩
     rw [hX,show eqI 7 0=false from rfl,if_neg (by decide),E7,Val.none_row]
     rfl
   rw [if_neg (by rw [c1]; decide)] at hX
   simp +contextual -implicitDefEqProofs only [n7,SS,rA,rS,rL,rE,reduceCtorEq,c1]
   refine WC.call (c44 F hFl k (a0S _ _)) rfl rfl ?_
   rintro _ _ ⟨rfl,rfl⟩
   rcases e9 (a1K F k) with c2|c2
   · rw [if_pos c2] at hX
     simp +contextual -implicitDefEqProofs only [n7,SS,rA,rS,rL,rE,reduceCtorEq,c2,Bool.not_true,s9 (show i+1 < 2 ^ 63 by omega)]
     exact WC.next (m':=K.length - (i+1)) (by omega) ⟨hS',i+1,_,_,hil,rfl,hX,rfl⟩
   · rw [if_neg (by rw [c2]; decide)] at hX
     simp +contextual -implicitDefEqProofs only [n7,SS,rA,rS,rL,rE,reduceCtorEq,c2,Bool.not_false,a0S]
     refine WC.leaveR ?_
     simp +contextual -implicitDefEqProofs only [n7,SS,rA,rS,rL,rE,reduceCtorEq]
     refine WC.ret ⟨_,_,rfl,hS',k,?_⟩
     rw [hX,show eqI 6 0=false from rfl,if_neg (by decide),E7,Val.none_row]
     rfl
 · rw [List.drop_of_length_le (show K.length≤i by omega),a2A] at hX
   rw [hX,show eqI 0 0=true from rfl,if_pos rfl]
   simp +contextual -implicitDefEqProofs only [n7,SS,rA,rS,rL,rE,reduceCtorEq,hil]
   refine WC.leave ?_
   simp +contextual -implicitDefEqProofs only [n7,SS,rA,rS,rL,rE,reduceCtorEq,a0S,b4c,AF]
   generalize hV17:AV.int .i64 (i:Int)=v17
   generalize ho':st'.length=o
   have ho:st.length≤o:=by rw [← ho']; exact hS.len
   have hS1:Gr st (st'++[D5 [] []])∧(st'++[D5 [] []])[o]?=some (D5 [] []):=⟨fun i x hx=>l5 (hS i x hx),by rw [← ho']; exact a0S _ _⟩
   generalize hR:goF C N p v F [] []=R
   have hX0:R=goF C N p v (F.drop 0) [] []:=hR.symm
   refine WC.loopR (fun mm fr st'=>∃ (i:Nat) (ks:List (List Nat)) (ls:List Val) (v8 v9 v11 v12 v13 v14 v17:AV),(Gr st st'∧st'[o]?=some (D5 ks ls))∧i≤F.length∧mm=F.length - i∧ks.length≤i∧ls.length≤i∧R=goF C N p v (F.drop i) ks ls∧fr=[.agg [.ptr C.so 0,.int .u8 C.vk,.int .i64 C.vn,.str C.vs,.list false (C.vks.map e8),.list false (C.vls.map Val.row),.bool p],.list false (F.map FDef.row),.agg [.int .u8 v.kind,.int .i64 v.num,.str v.text,.list false (K.map e8),.list false (v.vals.map Val.row)],
    .box [.ptr C.so 0,.int .u8 C.vk,.int .i64 C.vn,.str C.vs,.list false (C.vks.map e8),.list false (C.vls.map Val.row),.bool p],.box [.int .u8 v.kind,.int .i64 v.num,.str v.text,.list false (K.map e8),.list false (v.vals.map Val.row)],.box [.int .u8 0,.int .i64 0,.str [],.list true [],.list true []],.str [],.int .i64 0,v8,v9,.ptr o 0,v11,v12,v13,v14,.list false (K.map e8),.int .i64 K.length,v17,.list false (F.map FDef.row),.int .i64 F.length,.int .i64 i]) (m:=F.length) ⟨0,[],[],_,_,_,_,_,_,_,hS1,Nat.zero_le _,rfl,AJ _,AJ _,hX0,rfl⟩ ?_
   clear hX0 hS1 hV17 hX ho' hil hi hR
   clear i
   rintro mm fr st2 ⟨i,ks,ls,v8,v9,v11,v12,v13,v14,v17,hS2,hi,rfl,hkl,hll,hX,rfl⟩
   simp +contextual -implicitDefEqProofs only [n7,SS,rA,rS,rL,rE,reduceCtorEq,ltN]
   by_cases hil:i < F.length
   rotate_left
   · rw [List.drop_of_length_le (show F.length≤i by omega),goF] at hX
     have ho2:=hS2.2
     unfold D5 at ho2
     simp +contextual -implicitDefEqProofs only [n7,SS,rA,rS,rL,rE,reduceCtorEq,hil]
     refine WC.leave ?_
     simp +contextual -implicitDefEqProofs only [n7,SS,rA,rS,rL,rE,reduceCtorEq,ho2]
     refine WC.ret ⟨_,_,rfl,hS2.1,[],?_⟩
     rw [hX,Val.row_eq]
     rfl
   have hinc:=s9 (show i+1 < 2 ^ 63 by omega)
   have hf:F[i]∈F:=List.getElem_mem hil
   have e2:(F.map FDef.row)[i]?=some (F[i]).row:=by rw [AQ,AD hil]; rfl
   rw [List.drop_eq_getElem_cons hil,goF] at hX
   revert e2 hX hf
   generalize F[i]=f
   intro hX hf e2
   rw [FDef.row] at e2
   obtain ⟨x,hx⟩:∃ x,atK v.kind K v.vals f.n=x:=⟨_,rfl⟩
   obtain ⟨okg,hok⟩:∃ b,a3p v.kind K f.n=b:=⟨_,rfl⟩
   have hxo:x.Cz:=hx ▸ hat f.n
   have hgv:a2J C N p f v=a8n C N f (if okg=true then S3 C p (N p) f.t x else (Val.none,false,0)):=by rw [a2J,hK,hok,hx]
   have hgq:=hg f.n st2
   rw [hx,hok,x.row_eta] at hgq
   simp +contextual -implicitDefEqProofs only [n7,SS,rA,rS,rL,rE,reduceCtorEq,hil,e2]
   refine WC.call hgq rfl rfl ?_
   rintro _ _ ⟨rfl,rfl⟩
   cases okg with
   | false =>
    rw [if_neg (by decide)] at hgv
    rw [hgv] at hX
    simp +contextual -implicitDefEqProofs only [n7,SS,rA,rS,rL,rE,reduceCtorEq]
    rcases e9 f.has with hd|hd
    · rw [show a8n C N f (Val.none,false,0)=S3 (CC.zero C.so) false (N false) f.t f.v from if_pos (by rw [hd]; rfl)] at hX
      have hq:=hV f hf (CC.zero C.so) false (.inr rfl) _ (hst.gr hS2.1) f.v (hFv f hf)
      rw [show (CC.zero C.so).row false=[.ptr C.so 0,.int .u8 0,.int .i64 0,.str [],.list false [],.list false [],.bool false] from rfl] at hq
      rw [f.v.row_eta,f.t.row_eta] at hq
      simp +contextual -implicitDefEqProofs only [n7,SS,rA,rS,rL,rE,reduceCtorEq,show (eqI 0 0 && f.has)=true by rw [hd]; rfl]
      refine WC.call hq rfl rfl ?_
      rintro _ _ ⟨rfl,rfl⟩
      revert hX
      generalize S3 (CC.zero C.so) false (N false) f.t f.v=r
      obtain ⟨y2,ok2,e2⟩:=r
      intro hX
      dsimp only at hX
      rw [t7,Val.row_eta y2]
      dsimp only
      simp +contextual -implicitDefEqProofs only [n7,SS,rA,rS,rL,rE,reduceCtorEq]
      rcases e9 (eqI e2 0) with he|he
      rotate_left
      · rw [if_neg (by rw [he]; decide)] at hX
        simp +contextual -implicitDefEqProofs only [n7,SS,rA,rS,rL,rE,reduceCtorEq,he]
        refine WC.leaveR ?_
        simp +contextual -implicitDefEqProofs only [n7,SS,rA,rS,rL,rE,reduceCtorEq]
        refine WC.ret ⟨_,_,rfl,hS2.1,f.n,?_⟩
        rw [hX,E7,Val.none_row]
        rfl
      rw [if_pos he] at hX
      cases ok2 with
      | true =>
       rw [if_pos rfl] at hX
       simp +contextual -implicitDefEqProofs only [n7,SS,rA,rS,rL,rE,reduceCtorEq,he]
       have hpu:=b0O hS2.2 f.n y2 (by omega) (by omega)
       rw [Val.row_eta y2] at hpu
       refine WC.call hpu rfl rfl ?_
       rintro _ _ rfl
       simp +contextual -implicitDefEqProofs only [n7,SS,rA,rS,rL,rE,reduceCtorEq,hinc]
       exact WC.next (m':=F.length - (i+1)) (by omega) ⟨i+1,ks++[f.n],ls++[y2],_,_,_,_,_,_,_,⟨a6W hS2.1 ho _,a7H (AB.1 hS2.2).1 _⟩,hil,rfl,by simp; omega,by simp; omega,hX,rfl⟩
      | false =>
       rw [if_neg (by decide)] at hX
       rcases e9 f.t.bang with hb|hb
       · rw [if_pos hb] at hX
         simp +contextual -implicitDefEqProofs only [n7,SS,rA,rS,rL,rE,reduceCtorEq,he,hb]
         refine WC.leaveR ?_
         simp +contextual -implicitDefEqProofs only [n7,SS,rA,rS,rL,rE,reduceCtorEq]
         refine WC.ret ⟨_,_,rfl,hS2.1,f.n,?_⟩
         rw [hX,E7,Val.none_row]
         rfl
       · rw [if_neg (by rw [hb]; decide)] at hX
         simp +contextual -implicitDefEqProofs only [n7,SS,rA,rS,rL,rE,reduceCtorEq,he,hb,hinc]
         exact WC.next (m':=F.length - (i+1)) (by omega) ⟨i+1,ks,ls,_,_,_,_,_,_,_,hS2,hil,rfl,by omega,by omega,hX,rfl⟩
    · rw [show a8n C N f (Val.none,false,0)=(Val.none,false,0) from if_neg (by dsimp only; rw [hd]; decide)] at hX
      dsimp only at hX
      rw [if_pos (show eqI 0 0=true from rfl),if_neg (by decide)] at hX
      simp +contextual -implicitDefEqProofs only [n7,SS,rA,rS,rL,rE,reduceCtorEq,hd,show eqI 0 0=true from rfl,Bool.not_true,Bool.true_and]
      rcases e9 f.t.bang with hb|hb
      · rw [if_pos hb] at hX
        simp +contextual -implicitDefEqProofs only [n7,SS,rA,rS,rL,rE,reduceCtorEq,hb]
        refine WC.leaveR ?_
        simp +contextual -implicitDefEqProofs only [n7,SS,rA,rS,rL,rE,reduceCtorEq]
        refine WC.ret ⟨_,_,rfl,hS2.1,f.n,?_⟩
        rw [hX,E7,Val.none_row]
        rfl
      · rw [if_neg (by rw [hb]; decide)] at hX
        simp +contextual -implicitDefEqProofs only [n7,SS,rA,rS,rL,rE,reduceCtorEq,hb,hinc]
        exact WC.next (m':=F.length - (i+1)) (by omega) ⟨i+1,ks,ls,_,_,_,_,_,_,_,hS2,hil,rfl,by omega,by omega,hX,rfl⟩
   | true =>
    rw [if_pos rfl] at hgv
    rw [hgv] at hX
    have hq:=hV f hf C p (.inl rfl) _ (hst.gr hS2.1) x hxo
    unfold CC.row at hq
    rw [x.row_eta,f.t.row_eta] at hq
    simp +contextual -implicitDefEqProofs only [n7,SS,rA,rS,rL,rE,reduceCtorEq]
    refine WC.call hq rfl rfl ?_
    rintro _ _ ⟨rfl,rfl⟩
    revert hX
    generalize S3 C p (N p) f.t x=r
    obtain ⟨y,ok,e⟩:=r
    intro hX
    rw [t7,y.row_eta]
    dsimp only
    simp +contextual -implicitDefEqProofs only [n7,SS,rA,rS,rL,rE,reduceCtorEq]
    rcases e9 (eqI e 0 && !ok && f.has) with hd|hd
    · rw [show a8n C N f (y,ok,e)=S3 (CC.zero C.so) false (N false) f.t f.v from if_pos hd] at hX
      have hq:=hV f hf (CC.zero C.so) false (.inr rfl) _ (hst.gr hS2.1) f.v (hFv f hf)
      rw [show (CC.zero C.so).row false=[.ptr C.so 0,.int .u8 0,.int .i64 0,.str [],.list false [],.list false [],.bool false] from rfl] at hq
      rw [f.v.row_eta,f.t.row_eta] at hq
      simp +contextual -implicitDefEqProofs only [n7,SS,rA,rS,rL,rE,reduceCtorEq,hd]
      refine WC.call hq rfl rfl ?_
      rintro _ _ ⟨rfl,rfl⟩
      revert hX
      generalize S3 (CC.zero C.so) false (N false) f.t f.v=r
      obtain ⟨y2,ok2,e2⟩:=r
      intro hX
      dsimp only at hX
      rw [t7,Val.row_eta y2]
      dsimp only
      simp +contextual -implicitDefEqProofs only [n7,SS,rA,rS,rL,rE,reduceCtorEq]
      rcases e9 (eqI e2 0) with he|he
      rotate_left
      · rw [if_neg (by rw [he]; decide)] at hX
        simp +contextual -implicitDefEqProofs only [n7,SS,rA,rS,rL,rE,reduceCtorEq,he]
        refine WC.leaveR ?_
        simp +contextual -implicitDefEqProofs only [n7,SS,rA,rS,rL,rE,reduceCtorEq]
        refine WC.ret ⟨_,_,rfl,hS2.1,f.n,?_⟩
        rw [hX,E7,Val.none_row]
        rfl
      rw [if_pos he] at hX
      cases ok2 with
      | true =>
       rw [if_pos rfl] at hX
       simp +contextual -implicitDefEqProofs only [n7,SS,rA,rS,rL,rE,reduceCtorEq,he]
       have hpu:=b0O hS2.2 f.n y2 (by omega) (by omega)
       rw [Val.row_eta y2] at hpu
       refine WC.call hpu rfl rfl ?_
       rintro _ _ rfl
       simp +contextual -implicitDefEqProofs only [n7,SS,rA,rS,rL,rE,reduceCtorEq,hinc]
       exact WC.next (m':=F.length - (i+1)) (by omega) ⟨i+1,ks++[f.n],ls++[y2],_,_,_,_,_,_,_,⟨a6W hS2.1 ho _,a7H (AB.1 hS2.2).1 _⟩,hil,rfl,by simp; omega,by simp; omega,hX,rfl⟩
      | false =>
       rw [if_neg (by decide)] at hX
       rcases e9 f.t.bang with hb|hb
       · rw [if_pos hb] at hX
         simp +contextual -implicitDefEqProofs only [n7,SS,rA,rS,rL,rE,reduceCtorEq,he,hb]
         refine WC.leaveR ?_
         simp +contextual -implicitDefEqProofs only [n7,SS,rA,rS,rL,rE,reduceCtorEq]
         refine WC.ret ⟨_,_,rfl,hS2.1,f.n,?_⟩
         rw [hX,E7,Val.none_row]
         rfl
       · rw [if_neg (by rw [hb]; decide)] at hX
         simp +contextual -implicitDefEqProofs only [n7,SS,rA,rS,rL,rE,reduceCtorEq,he,hb,hinc]
         exact WC.next (m':=F.length - (i+1)) (by omega) ⟨i+1,ks,ls,_,_,_,_,_,_,_,hS2,hil,rfl,by omega,by omega,hX,rfl⟩
    · rw [show a8n C N f (y,ok,e)=(y,ok,e) from if_neg (by dsimp only; rw [hd]; decide)] at hX
      dsimp only at hX
      simp +contextual -implicitDefEqProofs only [n7,SS,rA,rS,rL,rE,reduceCtorEq,hd]
      rcases e9 (eqI e 0) with he|he
      rotate_left
      · rw [if_neg (by rw [he]; decide)] at hX
        simp +contextual -implicitDefEqProofs only [n7,SS,rA,rS,rL,rE,reduceCtorEq,he]
        refine WC.leaveR ?_
        simp +contextual -implicitDefEqProofs only [n7,SS,rA,rS,rL,rE,reduceCtorEq]
        refine WC.ret ⟨_,_,rfl,hS2.1,f.n,?_⟩
        rw [hX,E7,Val.none_row]
        rfl
      rw [if_pos he] at hX
      cases ok with
      | true =>
       rw [if_pos rfl] at hX
       simp +contextual -implicitDefEqProofs only [n7,SS,rA,rS,rL,rE,reduceCtorEq,he]
       have hpu:=b0O hS2.2 f.n y (by omega) (by omega)
       rw [Val.row_eta y] at hpu
       refine WC.call hpu rfl rfl ?_
       rintro _ _ rfl
       simp +contextual -implicitDefEqProofs only [n7,SS,rA,rS,rL,rE,reduceCtorEq,hinc]
       exact WC.next (m':=F.length - (i+1)) (by omega) ⟨i+1,ks++[f.n],ls++[y],_,_,_,_,_,_,_,⟨a6W hS2.1 ho _,a7H (AB.1 hS2.2).1 _⟩,hil,rfl,by simp; omega,by simp; omega,hX,rfl⟩
      | false =>
       rw [if_neg (by decide)] at hX
       rcases e9 f.t.bang with hb|hb
       · rw [if_pos hb] at hX
         simp +contextual -implicitDefEqProofs only [n7,SS,rA,rS,rL,rE,reduceCtorEq,he,hb]
         refine WC.leaveR ?_
         simp +contextual -implicitDefEqProofs only [n7,SS,rA,rS,rL,rE,reduceCtorEq]
         refine WC.ret ⟨_,_,rfl,hS2.1,f.n,?_⟩
         rw [hX,E7,Val.none_row]
         rfl
       · rw [if_neg (by rw [hb]; decide)] at hX
         simp +contextual -implicitDefEqProofs only [n7,SS,rA,rS,rL,rE,reduceCtorEq,he,hb,hinc]
         exact WC.next (m':=F.length - (i+1)) (by omega) ⟨i+1,ks,ls,_,_,_,_,_,_,_,hS2,hil,rfl,by omega,by omega,hX,rfl⟩
end Go.Cb.CodeA
set_option maxRecDepth 20000
set_option linter.unusedSimpArgs false
set_option linter.unusedVariables false
namespace Go.Cb.CodeA
open Go Go.Cb
open Nat renaming reduceAdd→rA,reduceSub→rS,reduceLeDiff→rL,reduceEqDiff→rE
attribute [local congr] i7 j1 j2 j3 j0 i8 k6 j9 V.runR_congr
def W9 (T:List SD) (p:Bool):List Nat→Val→E1:=b2y T p fun _=>E7 8
theorem b2v {T:List SD} {C:CC} (hC:C.OK) (t:TRef) (ht:J2 T t.bs 5=false) (p:Bool):∀ st,SchD T C.so st→∀ x:Val,x.Cz→EvQ tbl 130 [.agg (C.row p),.agg t.row,.agg x.row] st (fun a st'=>st'=st∧a=t7 (S3 C p (W9 T p) t x)) :=
 fun st hst x hx=>c0V hC (G:=fun s=>s=st) (W9 T p) t (fun st' e y hy=>by
  subst e
  exact c5d (G:=fun s=>s=st') (fun s e=>e ▸ hst) rfl t.bs y hy _ (fun h=>by rw [ht] at h; cases h)) st rfl x hx
def a0J (as:List Arg):Val:=.mk 6 0 [] (as.map Arg.n) (as.map Arg.v)
theorem c0n {as:List Arg} (ha:ArgsOK as) (hr:∀ a∈as,a.v.Rng):(a0J as).Cz:=by
 refine ⟨.mk _ _ _ _ _ (fun _=>by simp) (by rw [AF]; exact ha.1) (by rw [AF]; exact ha.1) fun v hv=>?_,.mk _ _ _ _ _ (by decide) fun v hv=>?_⟩
 · obtain ⟨a,h,rfl⟩:=List.mem_map.1 hv; exact ha.2 a h
 · obtain ⟨a,h,rfl⟩:=List.mem_map.1 hv; exact hr a h
theorem c60 {T:List SD} {C:CC} (hC:C.OK) {F:List FDef} (hFl:F.length≤3000) (hFv:∀ f∈F,f.v.Cz) (hFt:∀ f∈F,J2 T f.t.bs 5=false) {st:St} (hst:SchD T C.so st) {f:FDef} (har:f.ar=F.map FDef.row) {as:List Arg} (ha:ArgsOK as) (hr:∀ a∈as,a.v.Rng) :
 EvQ tbl 135 [.ptr C.so 0,.agg f.row,.list false (as.map Arg.row),.agg [.int .u8 C.vk,.int .i64 C.vn,.str C.vs,.list false (C.vks.map e8),.list false (C.vls.map Val.row)]] st (fun a st'=>Gr st st'∧∃ s,a=.tuple [.agg (J7 C (W9 T) F false (a0J as)).1.row,.str s,.int .i64 (J7 C (W9 T) F false (a0J as)).2.2]):=by
 have hcz:=c0n ha hr
 have hal:=ha.1
 have hq:=fun (st':St) (hg:Gr st st')=>b8x (C:=C) (W9 T) F hFl hFv (fun f hf D p hD st hst x hx=>by
  rcases hD with rfl|rfl
  · exact b2v hC f.t (hFt f hf) p st hst x hx
  · exact b2v (CC.zero_ok _) f.t (hFt f hf) p st hst x hx) false (hst.gr hg) (a0J as) hcz
 generalize J7 C (W9 T) F false (a0J as)=R at *
 have harow:(a0J as).row=[.int .u8 6,.int .i64 0,.str [],.list false ((as.map Arg.n).map e8),.list false ((as.map Arg.v).map Val.row)]:=Val.row_eq _ _ _ _ _
 rw [harow] at hq
 unfold CC.row at hq
 rw [FDef.row,har]
 refine EvQ.body (fn:=a135) rfl rfl rfl ?_
 simp +contextual -implicitDefEqProofs only [a5U,SS,rA,rS,rL,rE,reduceCtorEq,p8,N6,AF]
 have h0:(st++[D5 [] []])[st.length]?=some (D5 [] []):=p8 _ _
 refine WC.loopR (fun mm fr st'=>∃ (i:Nat) (v10:AV),Gr st st'∧st'[st.length]?=some (D5 ((as.take i).map Arg.n) ((as.take i).map Arg.v))∧i≤as.length∧mm=as.length - i ∧
  fr=[.ptr C.so 0,.agg [.str f.n,.list false (F.map FDef.row),.str f.t.nm,.list false f.t.of,.bool f.t.bang,.bool f.has,.int .u8 f.v.kind,.int .i64 f.v.num,.str f.v.text,.list false (f.v.names.map e8),.list false (f.v.vals.map Val.row)],.list false (as.map Arg.row),.agg [.int .u8 C.vk,.int .i64 C.vn,.str C.vs,.list false (C.vks.map e8),.list false (C.vls.map Val.row)],
   .box [.str f.n,.list false (F.map FDef.row),.str f.t.nm,.list false f.t.of,.bool f.t.bang,.bool f.has,.int .u8 f.v.kind,.int .i64 f.v.num,.str f.v.text,.list false (f.v.names.map e8),.list false (f.v.vals.map Val.row)],.box [.int .u8 C.vk,.int .i64 C.vn,.str C.vs,.list false (C.vks.map e8),.list false (C.vls.map Val.row)],.box [.int .u8 0,.int .i64 0,.str [],.list true [],.list true []],.str [],.int .i64 0,.ptr st.length 0,v10,.list false (as.map Arg.row),.int .i64 as.length,.int .i64 i]) (m:=as.length) ⟨0,_,fun i x hx=>l5 hx,h0,Nat.zero_le _,rfl,rfl⟩ ?_
 rintro mm fr st1 ⟨i,v10,hg,ho,hi,rfl,rfl⟩
 simp +contextual -implicitDefEqProofs only [a5U,SS,rA,rS,rL,rE,reduceCtorEq,ltN]
 by_cases hil:i < as.length
 · have e2:(as.map Arg.row)[i]?=some (as[i]).row:=by rw [AQ,AD hil]; rfl
   have e3:as.take (i+1)=as.take i++[as[i]]:=by rw [List.take_add_one,AD hil]; rfl
   have hl:(as.take i).length≤3000:=by rw [AO]; omega
   revert e2 e3
   generalize as[i]=a
   intro e2 e3
   rw [Arg.row,a.v.row_eta] at e2
   have hp:=b0O ho a.n a.v (by rw [AF]; exact hl) (by rw [AF]; exact hl)
   rw [a.v.row_eta] at hp
   simp +contextual -implicitDefEqProofs only [a5U,SS,rA,rS,rL,rE,reduceCtorEq,hil,e2]
   refine WC.call hp rfl rfl ?_
   rintro _ _ rfl
   simp +contextual -implicitDefEqProofs only [a5U,SS,rA,rS,rL,rE,reduceCtorEq,s9 (show i+1 < 2 ^ 63 by omega)]
   refine WC.next (m':=as.length - (i+1)) (by omega) ⟨i+1,_,a6W hg (AJ _) _,?_,hil,rfl,rfl⟩
   rw [a7H (AB.1 ho).1,e3,AU,AU]
   rfl
 · rw [List.take_of_length_le (by omega)] at ho
   have hq:=hq st1 hg
   unfold D5 at ho
   simp +contextual -implicitDefEqProofs only [a5U,SS,rA,rS,rL,rE,reduceCtorEq,hil]
   refine WC.leave ?_
   simp +contextual -implicitDefEqProofs only [a5U,SS,rA,rS,rL,rE,reduceCtorEq,ho]
   refine WC.call hq rfl rfl ?_
   rintro _ st2 ⟨hg2,s,rfl⟩
   rw [R.1.row_eta]
   simp +contextual -implicitDefEqProofs only [a5U,SS,rA,rS,rL,rE,reduceCtorEq]
   exact WC.ret ⟨_,_,rfl,hg.trans hg2,s,rfl⟩
theorem a8l (C:CC) (N:Bool→List Nat→Val→E1) (p:Bool) (v:Val):∀ (F:List FDef) (ks:List (List Nat)) (ls:List Val),ks.length=ls.length→(goF C N p v F ks ls).1.names.length=(goF C N p v F ks ls).1.vals.length∧(goF C N p v F ks ls).1.names.length≤ks.length+F.length
 | [],ks,ls,h=>by rw [goF]; exact ⟨h,Nat.le_add_right _ _⟩
 | f::F,ks,ls,h=>by
  unfold goF
  split
  · split
    · have:=a8l C N p v F (ks++[f.n]) (ls++[(a2J C N p f v).1]) (by simp [h])
      refine ⟨this.1,Nat.le_trans this.2 ?_⟩
      simp; omega
    · split
      · exact ⟨rfl,Nat.zero_le _⟩
      · have:=a8l C N p v F ks ls h
        refine ⟨this.1,Nat.le_trans this.2 ?_⟩
        simp
  · exact ⟨rfl,Nat.zero_le _⟩
theorem b3l (C:CC) (N:Bool→List Nat→Val→E1) (F:List FDef) (p:Bool) (v:Val):(J7 C N F p v).1.names.length=(J7 C N F p v).1.vals.length∧(J7 C N F p v).1.names.length≤F.length:=by
 unfold J7
 split
 · have:=a8l C N p v F [] [] rfl
   exact ⟨this.1,by simpa using this.2⟩
 · exact ⟨rfl,Nat.zero_le _⟩
end Go.Cb.CodeA
set_option maxRecDepth 20000
set_option linter.unusedSimpArgs false
set_option linter.unusedVariables false
namespace Go.Cb.CodeA
open Go Go.Cb
theorem FRun.sizes {K:Cfg} {l:List Sel} {s:List (List Nat)} {F:List Sel} {s':List (List Nat)} (h:FRun K l s F s'):Go.Cb.CodeA.sizes F+q6 K.frags s'≤Go.Cb.CodeA.sizes l+q6 K.frags s:=by
 induction h with
 | nil s=>exact AJ _
 | skipC _ _ ih=>rw [m0]; omega
 | fieldC _ _ _ ih=>rw [m0,m0]; omega
 | noneC _ _ _ _ _ ih=>rw [m0]; omega
 | @otherC k al nm on as ds sub l s s2 F i f a b c d e g h' _ ih =>
  obtain ⟨x,h1,h2,_⟩:=J8 d
  have:=R1 s nm g K.frags i f e (by rw [e] at h1; cases h1; exact h2)
  rw [m0]; omega
 | @spreadC k al nm on as ds sub l s s2 F i f s1 F1 a b c d e g h' _ _ ih ih2 =>
  obtain ⟨x,h1,h2,_⟩:=J8 d
  have:=R1 s nm g K.frags i f e (by rw [e] at h1; cases h1; exact h2)
  rw [m0,a0K]; omega
 | inNoC _ _ _ _ _ ih=>rw [m0]; omega
 | inlC _ _ _ _ _ _ ih ih2=>rw [m0,a0K,a0X]; omega
theorem FRun.all {K:Cfg} {P:Sel→Prop} (hsub:∀ k al nm on as ds sub,P (.mk k al nm on as ds sub)→∀ x∈sub,P x) (hK:∀ f∈K.frags,∀ x∈f.sub,P x) {l:List Sel} {s:List (List Nat)} {F:List Sel} {s':List (List Nat)} (h:FRun K l s F s'):(∀ x∈l,P x)→∀ x∈F,P x:=by
 induction h with
 | nil s=>exact fun h=>h
 | skipC _ _ ih=>exact fun h=>ih fun x hx=>h x (by simp [hx])
 | fieldC _ _ _ ih =>
  intro h x hx
  rcases List.mem_cons.1 hx with rfl|hx
  · exact h _ (by simp)
  · exact ih (fun x hx=>h x (by simp [hx])) x hx
 | noneC _ _ _ _ _ ih=>exact fun h=>ih fun x hx=>h x (by simp [hx])
 | otherC _ _ _ _ _ _ _ _ ih=>exact fun h=>ih fun x hx=>h x (by simp [hx])
 | spreadC _ _ _ _ e _ _ _ _ ih ih2 =>
  intro h x hx
  rcases AP.1 hx with hx|hx
  · exact ih (hK _ (List.mem_of_getElem? e)) x hx
  · exact ih2 (fun x hx=>h x (by simp [hx])) x hx
 | inNoC _ _ _ _ _ ih=>exact fun h=>ih fun x hx=>h x (by simp [hx])
 | inlC _ _ _ _ _ _ ih ih2 =>
  intro h x hx
  rcases AP.1 hx with hx|hx
  · exact ih (hsub _ _ _ _ _ _ _ (h _ (List.mem_cons_self ..))) x hx
  · exact ih2 (fun x hx=>h x (by simp [hx])) x hx
theorem a6e:∀ (F:List Sel) (k:List Nat),k∈R7 F→∃ x∈F,B2 x=k:=by
 refine a0Q (by simp [R7]) fun F y ih=>?_
 intro k hk
 rw [X0] at hk
 split at hk
 · obtain ⟨x,h1,h2⟩:=ih k hk; exact ⟨x,by simp [h1],h2⟩
 · rcases AP.1 hk with hk|hk
   · obtain ⟨x,h1,h2⟩:=ih k hk; exact ⟨x,by simp [h1],h2⟩
   · simp at hk; exact ⟨y,by simp,hk.symm⟩
theorem b6N:∀ F:List Sel,(R7 F).length≤F.length:=by
 refine a0Q (by simp [R7]) fun F y ih=>?_
 rw [X0]
 split
 · simp; omega
 · simp; omega
theorem a3G (p:Sel→Bool):∀ F:List Sel,sizes (F.filter p)≤sizes F
 | []=>AJ _
 | x::F=>by
  have:=a3G p F
  rw [List.filter_cons,m0]
  split
  · rw [m0]; omega
  · omega
theorem b0Y {F:List Sel} {g:List Nat×List Sel} (hg:g∈G5 F):g.2≠[]∧(∀ x∈g.2,x∈F)∧sizes g.2≤sizes F:=by
 rw [a8V] at hg
 obtain ⟨k,hk,rfl⟩:=List.mem_map.1 hg
 obtain ⟨x,h1,h2⟩:=a6e F k hk
 refine ⟨?_,fun y hy=>(List.mem_filter.1 hy).1,a3G _ _⟩
 have:x∈a0I F k:=List.mem_filter.2 ⟨h1,(x9 _ _).2 h2.symm⟩
 exact List.ne_nil_of_mem this
theorem a4G (F:List Sel):(G5 F).length≤F.length:=by
 rw [a8V,AF]; exact b6N F
noncomputable def a0r (K:Cfg) (l:List Sel):List (List Nat×List Sel):=by
 classical exact if h:∃ F s',FRun K l [] F s' then G5 h.choose else []
theorem a8L {K:Cfg} {l F:List Sel} {s':List (List Nat)} (h:FRun K l [] F s'):a0r K l=G5 F:=by
 unfold a0r
 have hx:∃ F s',FRun K l [] F s':=⟨F,s',h⟩
 rw [dif_pos hx]
 obtain ⟨s2,h2⟩:=hx.choose_spec
 rw [(h.det h2).1]
theorem a6k (K:Cfg) (l:List Sel):(∃ F s',FRun K l [] F s'∧a0r K l=G5 F)∨a0r K l=[]:=by
 by_cases hx:∃ F s',FRun K l [] F s'
 · obtain ⟨F,s',h⟩:=hx
   exact .inl ⟨F,s',h,a8L h⟩
 · right
   unfold a0r
   rw [dif_neg hx]
structure Cfg.Fit (K:Cfg):Prop where
 ok:K.OK
 un:q6 K.frags []≤2001
 rg:∀ f∈K.frags,∀ x∈f.sub,x.Rg
theorem Sel.OK.sub_ok:∀ k al nm on as ds sub,Sel.OK (.mk k al nm on as ds sub)→∀ x∈sub,Sel.OK x:=fun _ _ _ _ _ _ _ h=>a6p h
theorem Sel.Rg.sub_rg:∀ k al nm on as ds sub,Sel.Rg (.mk k al nm on as ds sub)→∀ x∈sub,Sel.Rg x:=fun _ _ _ _ _ _ _ h=>by cases h; assumption
theorem c6O {K:Cfg} (hK:K.Fit) {N:Nat} {l:List Sel} (hl:SelX N l):∀ g∈a0r K l,g.2≠[]∧SelX (N+2001) g.2:=fun g hg=>by
 rcases a6k K l with ⟨F,s',h,e⟩|e
 · rw [e] at hg
   obtain ⟨h1,h2,h3⟩:=b0Y hg
   have hs:=h.sizes
   have hu:=hK.un
   have hsz:=hl.sz
   refine ⟨h1,fun x hx=>h.all (P:=Sel.OK) Sel.OK.sub_ok (fun f hf=>(hK.ok.frags.2 f hf).2) hl.ok x (h2 x hx),fun x hx=>h.all (P:=Sel.Rg) Sel.Rg.sub_rg hK.rg hl.rg x (h2 x hx),by omega⟩
 · rw [e] at hg; cases hg
theorem b93 {K:Cfg} (hK:K.Fit) {N:Nat} {l:List Sel} (hl:SelX N l):(a0r K l).length≤N+2001:=by
 rcases a6k K l with ⟨F,s',h,e⟩|e
 · rw [e]
   have h1:=a4G F
   have h2:=h.size.1
   have hu:=hK.un
   have hsz:=hl.sz
   omega
 · rw [e]; exact Nat.zero_le _
def a1n (T:List SD) (n:List Nat):List (List Nat):=a4m (T.map SD.td) n
def Cfg.cc (K:Cfg):CC:=⟨K.so,K.vk,K.vn,K.vs,K.vks,K.vls⟩
def idF:FDef:=⟨idN,[],.base [73,68] true,false,Val.none⟩
noncomputable def mkE (T:List SD) (K:Cfg) (es:List Ent) (v tv:AV):REnv where
 so:=K.so
 ops:=K.ops
 frs:=K.frags.map Frag.row
 es:=es
 v:=v
 whole:=true
 tv:=tv
 vk:=K.vk
 vn:=K.vn
 vs:=K.vs
 vks:=K.vks.map e8
 vls:=K.vls.map Val.row
 fld:=W4 T
 grp:=fun typ l=>a0r { K with typ:=typ } l
 poss:=a1n T
 leaf:=b5B T
 fits:=a6j T
 knows:=fun _=>true
 args:=fun _ as=>((J7 K.cc (W9 T) [idF] false (a0J as)).1,(J7 K.cc (W9 T) [idF] false (a0J as)).2.2)
theorem Gr.pre {B st:St} (h:Gr B st):∀ i x,i < B.length→B[i]?=some x→st[i]?=some x:=fun i x _ hx=>h i x hx
theorem c8C {T:List SD} {K:Cfg} {es:List Ent} {v tv:AV} {B:St} (hS:SchD T K.so B) (hK:K.Fit) (hKp:K.poss=a1n T) (hpl:∀ n,(a1n T n).length≤10000) (hQ:∀ n f,W4 T j5 n=some f→f.ar.isEmpty=false→f.ar=[idF.row]) (hI:J2 T [73,68] 5=false)
 (he:EntsAt v es B) (hs:K6 es) (hl:es.length≤1000) (hg:∀ e∈es,a1S e) (ht:tv.weak1=tv∧tv.plain=true∧tv.weak=tv):(mkE T K es v tv).OK B where
 ents:=he
 sorted:=hs
 esl:=hl
 good:=hg
 tvw:=ht
 fld:=fun st h typ n=>c3x (hS.gr h) typ n
 grp:=fun st h typ l hl=>by
  have hsz:=hl.sz
  have hll:=a1I l
  have hu:=hK.un
  refine (c0U (K:={ K with typ:=typ }) ⟨hK.ok.ks,hK.ok.ev,hK.ok.frags,hK.ok.poss⟩ l ⟨by omega,hl.ok⟩ (show sizes l+q6 K.frags []≤_ by omega) st ?_).mono ?_
  · intro n st' hst'
    have hS':SchD T K.so st':=(hS.gr h).gr fun i x hx=>hst' i x (AB.1 hx).1 hx
    have:=b8v hS'.sch n
    rw [show ({ K with typ:=typ }:Cfg).poss=a1n T from hKp]
    exact this
  · rintro a st' ⟨h1,F,s',out,gs,h2,h3,h4,h5⟩
    exact ⟨h1,out,gs,h3,h4,by rw [h5]; exact (a8L h2).symm⟩
 grpx:=fun typ l N hl=>c6O (K:={ K with typ:=typ }) ⟨⟨hK.ok.ks,hK.ok.ev,hK.ok.frags,hK.ok.poss⟩,hK.un,hK.rg⟩ hl
 grpl:=fun typ l hl=>Nat.le_trans (b93 (K:={ K with typ:=typ }) ⟨⟨hK.ok.ks,hK.ok.ev,hK.ok.frags,hK.ok.poss⟩,hK.un,hK.rg⟩ hl) (by decide)
 poss:=fun st h n=>b8v (hS.gr h).sch n
 possl:=fun n=>Nat.le_trans (hpl n) (by decide)
 leaf:=fun st h n=>c8e (hS.gr h) n
 fits:=fun st h n v hv=>c8F (hS.gr h) n hv
 knows:=fun st h n=>by
  obtain ⟨y1,y2,y3,y4,y5,y6,y7⟩:=he.wk
  exact b9Q (by first|exact ⟨y2,y1,y3,y4⟩|exact ⟨y1,y2,y3,y4⟩) ⟨ht.1,ht.2.2⟩ K.so n st
 args:=fun st h n f hf hne as ha hr=>c60 (C:=K.cc) ⟨Nat.le_trans hK.ok.ks (by decide),hK.ok.ev⟩ (F:=[idF]) (by decide) (fun f hf=>by simp at hf; subst hf; exact Val.Cz.none) (fun f hf=>by simp at hf; subst hf; exact hI) (hS.gr h) (hQ n f hf hne) ha hr
 argsx:=fun f as=>by
  have h:=b3l K.cc (W9 T) [idF] false (a0J as)
  exact ⟨Nat.le_trans h.2 (by decide),fun _=>h.1⟩
end Go.Cb.CodeA
set_option maxRecDepth 20000
set_option linter.unusedSimpArgs false
set_option linter.unusedVariables false
namespace Go.Cb.CodeA
open Go Go.Cb
open Nat renaming reduceAdd→rA,reduceSub→rS,reduceLeDiff→rL,reduceEqDiff→rE
attribute [local congr] i7 j1 j2 j3 j0 i8 k6 j9 V.runR_congr
theorem b1U {E:REnv} {B:St} (hE:E.OK B):∀ n,b10 E B n
 | 0=>fun h=>fun _ _ _ _ _ hf=>absurd h.le (by omega)
 | n+1=>b9H hE (b1U hE n) (a9p hE (b1U hE n))
noncomputable def T7 (E:REnv) (sub:List Sel):a2P:=u9 E (valF E 5002) j5 Ent.none [] (E.grp j5 sub) [] [] ⟨[],false,0⟩
noncomputable def a2E (E:REnv) (sub:List Sel):Int×Val×List (Pth×Int):=if (T7 E sub).2.steps > 5000 then (2,Val.none,[]) else if (T7 E sub).2.part then (11,Val.none,[]) else (0,(T7 E sub).1.1,(T7 E sub).2.ps)
def ProbAt (pv:AV) (ps:List (Pth×Int)) (st:St):Prop:=(ps=[]∧(pv=.nils∨pv=.list false []))∨∃ o,pv=.sl o 0 ps.length 2∧st[o]?=some (.cells (I9 ps))
theorem ProbAt.gr {pv:AV} {ps:List (Pth×Int)} {st st':St} (h:ProbAt pv ps st) (hg:Gr st st'):ProbAt pv ps st':=by
 rcases h with h|⟨o,h1,h2⟩
 · exact .inl h
 · exact .inr ⟨o,h1,hg _ _ h2⟩
theorem PAt.prob {b:Nat} {pv:AV} {ps:List (Pth×Int)} {st:St} (h:PAt b pv ps st):ProbAt pv ps st:=by
 rcases h with ⟨rfl,rfl⟩|⟨o,_,h1,h2⟩
 · exact .inl ⟨rfl,.inl rfl⟩
 · exact .inr ⟨o,h1,h2⟩
theorem ProbAt.wk {pv:AV} {ps:List (Pth×Int)} {st:St} (h:ProbAt pv ps st):pv.weak=pv∧pv.weak1=pv∧pv.strip=pv∧pv.stripB=pv∧pv.plain=true∧pv.cells=[pv]∧pv.cellsW=[pv]:=by
 rcases h with ⟨_,rfl|rfl⟩|⟨o,rfl,_⟩ <;> exact ⟨rfl,rfl,rfl,rfl,rfl,rfl,rfl⟩
def a5V (e:Int) (d:Val) (pv:AV):AV:=.agg [.int .i64 e,.int .u8 d.kind,.int .i64 d.num,.str d.text,.list false (d.names.map e8),.list false (d.vals.map Val.row),pv]
def c0B (R:Int×Val×List (Pth×Int)) (st:St) (a:AV) (st':St):Prop:=Gr st st'∧∃ pv,a=a5V R.1 R.2.1 pv∧ProbAt pv R.2.2 st'∧R.2.2.length≤100000∧∀ x∈R.2.2,x.1.length≤100000
theorem b8u (m:Bool) (n:List Nat) (V S F:List (List AV)) (st:St):EvQ tbl 37 [.agg [.list false [[.bool m,.str n,.list false V,.list false S]],.list false F],.str []] st (fun a st'=>Gr st st'∧a=.tuple [.agg [.bool m,.str n,.list false V,.list false S],.int .i64 0]):=by
 refine EvQ.body (fn:=a37) rfl rfl rfl ?_
 simp +contextual -implicitDefEqProofs only [K37,SS,rA,rS,rL,rE,reduceCtorEq,p8,Z2,AX,List.length_nil,show eqI (((0+1:Nat)):Int) 1=true from rfl,List.getElem?_cons_zero]
 exact WC.ret ⟨_,_,rfl,fun i x hx=>l5 hx,rfl⟩
theorem c3h (so:Nat) (st:St):EvQ tbl 38 [.ptr so 0,.list false [],.agg [.int .u8 0,.int .i64 0,.str [],.list false [],.list false []]] st (fun a st'=>Gr st st'∧a=.tuple [.agg [.int .u8 6,.int .i64 0,.str [],.list false [],.list false []],.str [],.int .i64 0]):=by
 refine EvQ.body (fn:=a38) rfl rfl rfl ?_
 simp +contextual -implicitDefEqProofs only [K38,SS,rA,rS,rL,rE,reduceCtorEq,p8,N6,List.length_nil]
 refine WC.loopR (fun mm fr st'=>st'=st++[D5 [] []]∧fr=[.ptr so 0,.list false [],.agg [.int .u8 0,.int .i64 0,.str [],.list false [],.list false []],.box [.int .u8 0,.int .i64 0,.str [],.list false [],.list false []],.box [.int .u8 0,.int .i64 0,.str [],.list true [],.list true []],.str [],.int .i64 0,.ptr st.length 0,.undef,.undef,.undef,.undef,.list false [],.int .i64 ((0:Nat):Int),.int .i64 0]) (m:=0) ⟨rfl,rfl⟩ ?_
 rintro mm fr st' ⟨rfl,rfl⟩
 simp +contextual -implicitDefEqProofs only [K38,SS,rA,rS,rL,rE,reduceCtorEq,show ltI 0 ((0:Nat):Int)=false from rfl]
 refine WC.leave ?_
 have h0:(st++[D5 [] []])[st.length]?=some (D5 [] []):=p8 _ _
 unfold D5 at *
 simp +contextual -implicitDefEqProofs only [K38,SS,rA,rS,rL,rE,reduceCtorEq,h0,p8,AL]
 exact WC.ret ⟨_,_,rfl,fun i x hx=>l5 hx,rfl⟩
theorem gtI (a b:Int):ltI b a=decide (a > b):=ltI_eq _ _
theorem c4t {E:REnv} {B:St} (hE:∀ B',Gr B B'→E.OK B') {V:List (List AV)} {nm:List Nat} {sub:List Sel} (hsub:SelX 2001 sub) {name:List Nat} {whole:Bool} (hw:E.whole=whole)
 (hc:EvQ tbl 37 [.agg [.list false E.ops,.list false E.frs],.str name] B (fun a st'=>Gr B st'∧a=.tuple [.agg [.bool false,.str nm,.list false V,.list false (sub.map Sel.row)],.int .i64 0]))
 {gk gn:Int} {gs:List Nat} {gks gls:List (List AV)} (hv:∀ st,Gr B st→EvQ tbl 38 [.ptr E.so 0,.list false V,.agg [.int .u8 gk,.int .i64 gn,.str gs,.list false gks,.list false gls]] st (fun a st'=>Gr st st'∧∃ w,a=.tuple [.agg [.int .u8 E.vk,.int .i64 E.vn,.str E.vs,.list false E.vks,.list false E.vls],.str w,.int .i64 0])) :
 EvQ tbl 17 [.ptr E.so 0,.agg [E.v,.bool E.whole,E.tv],.agg [.list false E.ops,.list false E.frs],.str name,.agg [.int .u8 gk,.int .i64 gn,.str gs,.list false gks,.list false gls]] B (c0B (a2E E sub) B):=by
 obtain ⟨t1,t2,t3⟩:=(hE B (Gr.refl _)).tvw
 obtain ⟨y1,y2,y3,y4,y5,y6,y7⟩:=(hE B (Gr.refl _)).ents.wk
 have e00:eqI 0 0=true:=rfl
 refine EvQ.body (fn:=a17) rfl rfl rfl ?_
 simp +contextual -implicitDefEqProofs only [K17,SS,rA,rS,rL,rE,reduceCtorEq]
 refine WC.call hc rfl rfl ?_
 rintro _ st1 ⟨hg1,rfl⟩
 simp +contextual -implicitDefEqProofs only [K17,SS,rA,rS,rL,rE,reduceCtorEq,e00,Bool.not_true]
 refine WC.call (hv st1 hg1) rfl rfl ?_
 rintro _ st2 ⟨hg2,w,rfl⟩
 have hg:=hg1.trans hg2
 have hE2:=hE st2 hg
 have hrun:RunAt E st2 ⟨[],false,0⟩ .nils (st2++[.cells (F4 E ⟨[],false,0⟩ .nils)]):=⟨p8 _ _,.inl ⟨rfl,rfl⟩,Gr.app _ _,by decide,by simp⟩
 have hob:=a9p hE2 (b1U hE2 5002) hrun (typ:=j5) (x:=Ent.none) (l:=sub) (path:=[]) ⟨rfl,by decide,by simp [Ent.none]⟩ hsub (Nat.le_refl _) (Nat.le_refl _) (by decide)
 unfold j5 at hob
 rw [show Ent.none.row=[.str [],.str [],.list false [],.list false []] from rfl,AL] at hob
 have hR:u9 E (valF E 5002) [81,117,101,114,121] Ent.none [] (E.grp [81,117,101,114,121] sub) [] [] ⟨[],false,0⟩=T7 E sub:=rfl
 rw [hR] at hob
 unfold a2E
 revert hob
 generalize T7 E sub=r
 obtain ⟨⟨d,ok⟩,s⟩:=r
 intro hob
 unfold F4 at hob
 dsimp only at hob ⊢
 simp +contextual -implicitDefEqProofs only [K17,SS,rA,rS,rL,rE,reduceCtorEq,e00,Bool.not_true,t1,t2,t3,y1,y2,y3,y4,y5,y6,y7]
 refine WC.call hob rfl rfl ?_
 rintro _ st3 ⟨pv,rfl,hG⟩
 have hg3:Gr B st3:=fun i x hx=>hG.run.gr _ _ (hg i x hx)
 have hob3:=hG.run.ob
 have hpr:=hG.run.pr.prob
 obtain ⟨w1,w2,w3,w4,w5,w6,w7⟩:=hpr.wk
 unfold F4 at hob3
 dsimp only at hob3 hpr
 rw [d.row_eta]
 simp +contextual -implicitDefEqProofs only [K17,SS,rA,rS,rL,rE,reduceCtorEq,hob3,gtI,w1,w2,w3,w4,w5,w6,w7]
 rcases e9 (decide ((s.steps:Int) > 5000)) with h1|h1
 · have h1':s.steps > 5000:=by simp at h1; omega
   rw [if_pos h1']
   simp +contextual -implicitDefEqProofs only [K17,SS,rA,rS,rL,rE,reduceCtorEq,h1]
   exact WC.ret ⟨_,_,rfl,hg3,_,rfl,.inl ⟨rfl,.inr rfl⟩,Nat.zero_le _,by simp⟩
 have h1':¬ s.steps > 5000:=by simp at h1; omega
 rw [if_neg h1']
 simp +contextual -implicitDefEqProofs only [K17,SS,rA,rS,rL,rE,reduceCtorEq,h1,hob3,w1,w2,w3,w4,w5,w6,w7]
 rcases e9 s.part with h2|h2
 · rw [if_pos h2]
   simp +contextual -implicitDefEqProofs only [K17,SS,rA,rS,rL,rE,reduceCtorEq,h2]
   exact WC.ret ⟨_,_,rfl,hg3,_,rfl,.inl ⟨rfl,.inr rfl⟩,Nat.zero_le _,by simp⟩
 rw [h2,if_neg (by decide)]
 simp +contextual -implicitDefEqProofs only [K17,SS,rA,rS,rL,rE,reduceCtorEq,h2,hob3,w1,w2,w3,w4,w5,w6,w7]
 refine WC.ret ⟨_,_,rfl,hg3,pv,?_,hpr,by have h1:=hG.few; have h2:=hG.run.le; dsimp only at h1 h2 ⊢; omega,hG.run.pl⟩
 show AV.agg [.int .i64 0,.int .u8 d.kind,.int .i64 d.num,.str d.text,.list false (d.names.map e8),.list false (d.vals.map Val.row),pv.weak1]=_
 rw [w2]
 rfl
end Go.Cb.CodeA
