import Derived.Test.YthnliekianmljaaGreatDoorC7
set_option maxRecDepth 100000
set_option linter.unusedSimpArgs false
set_option linter.unusedVariables false
namespace Go.Cb.CodeA
open Go Go.Cb
open Nat renaming reduceAdd → rA, reduceSub → rS, reduceLeDiff → rL, reduceEqDiff → rE
attribute [local congr] obind_congr gv_congr2 gv2_congr brT_congr seqK_congr blkK_congr m1_congr gm_congr

/-- with other directives -/
def Sel.re (d : List Dir) : Sel → Sel
 | .mk k al nm on as _ sub => .mk k al nm on as d sub
theorem re_size (d : List Dir) (x : Sel) : (x.re d).size = x.size := by cases x; rw [Sel.re, size_mk, size_mk]
theorem re_ok {d : List Dir} (hd : DirsOK d) {x : Sel} (h : x.OK) : (x.re d).OK := by
 cases h with | mk k al nm on as ds sub ha _ hl hs => exact .mk _ _ _ _ _ _ _ ha hd hl hs
theorem re_sizes (d : List Dir) (l : List Sel) : sizes (l.map (Sel.re d)) = sizes l := by
 induction l with
 | nil => rfl
 | cons x l ih => rw [List.map_cons, sizes_cons, sizes_cons, re_size, ih]
theorem FRun.re {K : Cfg} {d1 d2 : List Dir} (h1 : wantB K d1 = true) (h2 : wantB K d2 = true) : ∀ (l : List Sel) {s : List (List Nat)} {F : List Sel} {s' : List (List Nat)}, FRun K (l.map (Sel.re d1)) s F s' → ∃ F2, FRun K (l.map (Sel.re d2)) s F2 s' ∧ F2.map keyS = F.map keyS
 | [], s, F, s', h => by cases h; exact ⟨[], .nil _, rfl⟩
 | .mk k al nm on as ds sub :: l, s, F, s', h => by
  rw [List.map_cons, Sel.re] at h
  rw [List.map_cons, Sel.re]
  cases h with
  | skipC a _ => rw [h1] at a; cases a
  | fieldC a b c => obtain ⟨F2, g1, g2⟩ := FRun.re h1 h2 l c; exact ⟨_, .fieldC h2 b g1, by rw [List.map_cons, List.map_cons, g2]; rfl⟩
  | noneC a b c d e => obtain ⟨F2, g1, g2⟩ := FRun.re h1 h2 l e; exact ⟨_, .noneC h2 b c d g1, g2⟩
  | otherC a b c d e f g h => obtain ⟨F2, g1, g2⟩ := FRun.re h1 h2 l h; exact ⟨_, .otherC h2 b c d e f g g1, g2⟩
  | spreadC a b c d e f g h7 h8 => obtain ⟨F2, g1, g2⟩ := FRun.re h1 h2 l h8; exact ⟨_, .spreadC h2 b c d e f g h7 g1, by rw [List.map_append, List.map_append, g2]⟩
  | inNoC a b c d e => obtain ⟨F2, g1, g2⟩ := FRun.re h1 h2 l e; exact ⟨_, .inNoC h2 b c d g1, g2⟩
  | inlC a b c d h7 h8 => obtain ⟨F2, g1, g2⟩ := FRun.re h1 h2 l h8; exact ⟨_, .inlC h2 b c d h7 g1, by rw [List.map_append, List.map_append, g2]⟩
/-- selections that nobody wants -/
def Off (K : Cfg) (x : Sel) : Prop := match x with | .mk _ _ _ _ _ ds _ => wantB K ds = false
theorem FRun.off {K : Cfg} : ∀ (l : List Sel) {s : List (List Nat)} {F : List Sel} {s' : List (List Nat)}, (∀ x ∈ l, Off K x) → FRun K l s F s' → F = []
 | [], s, F, s', _, h => by cases h; rfl
 | .mk k al nm on as ds sub :: l, s, F, s', ho, h => by
  have h0 : wantB K ds = false := ho (.mk k al nm on as ds sub) (by simp)
  cases h with
  | skipC a b => exact FRun.off l (fun x hx => ho x (by simp [hx])) b
  | fieldC a _ _ => rw [h0] at a; cases a
  | noneC a _ _ _ _ => rw [h0] at a; cases a
  | otherC a _ _ _ _ _ _ _ => rw [h0] at a; cases a
  | spreadC a _ _ _ _ _ _ _ _ => rw [h0] at a; cases a
  | inNoC a _ _ _ _ => rw [h0] at a; cases a
  | inlC a _ _ _ _ _ => rw [h0] at a; cases a
theorem keysF_map (F : List Sel) : keysF F = (F.map keyS).foldl (fun ks k => if hasN ks k then ks else ks ++ [k]) [] := by rw [List.foldl_map]; rfl
theorem ofKey_map (F : List Sel) (k : List Nat) : (ofKey F k).length = ((F.map keyS).filter fun x => eqN k x).length := by
 unfold ofKey
 rw [List.filter_map, List.length_map]
 rfl
def yesA : List Arg := [⟨[105, 102], .mk 3 1 [] [] []⟩]
def noA : List Arg := [⟨[105, 102], .mk 3 0 [] [] []⟩]
def dirB : List Dir := [⟨[115, 107, 105, 112], noA⟩, ⟨[105, 110, 99, 108, 117, 100, 101], yesA⟩]
def dirC : List Dir := [⟨[105, 110, 99, 108, 117, 100, 101], noA⟩]
def dirD : List Dir := [⟨[115, 107, 105, 112], yesA⟩]
theorem yesA_ok : ArgsOK yesA := ⟨by decide, fun a ha => by simp [yesA] at ha; subst ha; exact (Val.simple 3 1 [] (by decide)).1⟩
theorem noA_ok : ArgsOK noA := ⟨by decide, fun a ha => by simp [noA] at ha; subst ha; exact (Val.simple 3 0 [] (by decide)).1⟩
theorem dirB_ok : DirsOK dirB := ⟨by decide, fun a ha => by simp [dirB] at ha; rcases ha with rfl | rfl; exact noA_ok; exact yesA_ok⟩
theorem dirC_ok : DirsOK dirC := ⟨by decide, fun a ha => by simp [dirC] at ha; subst ha; exact noA_ok⟩
theorem dirD_ok : DirsOK dirD := ⟨by decide, fun a ha => by simp [dirD] at ha; subst ha; exact yesA_ok⟩
theorem want_nil (K : Cfg) : wantB K [] = true := rfl
theorem want_B (K : Cfg) : wantB K dirB = true := rfl
theorem want_C (K : Cfg) : wantB K dirC = false := rfl
theorem want_D (K : Cfg) : wantB K dirD = false := rfl
theorem yesA_rows : yesA.map Arg.row = [[.str [105, 102], .int .u8 3, .int .i64 1, .str [], .list false [], .list false []]] := by simp [yesA, Arg.row, Val.row_eq]
theorem noA_rows : noA.map Arg.row = [[.str [105, 102], .int .u8 3, .int .i64 0, .str [], .list false [], .list false []]] := by simp [noA, Arg.row, Val.row_eq]
theorem always_pure {K : Cfg} {l F F2 : List Sel} {s1 s2 : List (List Nat)} (h : FRun K (l.map (Sel.re [])) [] F s1) (h2 : FRun K (l.map (Sel.re dirB)) [] F2 s2) : F2.map keyS = F.map keyS := by
 obtain ⟨G, g1, g2⟩ := FRun.re (want_nil K) (want_B K) l h
 obtain ⟨rfl, rfl⟩ := g1.det h2
 exact g2
theorem re_row (d : List Dir) (k : Int) (al nm on : List Nat) (as : List Arg) (ds : List Dir) (sub : List Sel) : ((Sel.mk k al nm on as ds sub).re d).row = [.int .u8 k, .str al, .str nm, .str on, .list false (as.map Arg.row), .list false (d.map Dir.row), .list false (sub.map Sel.row)] := by rw [Sel.re, Sel.row_eq]
theorem always_law (s : List Nat) : EvQ tbl 4 [.str s] [] (fun a _ => a = .bool true) := by
 refine EvQ.body (fn := a4) rfl rfl rfl ?_
 simp +contextual -implicitDefEqProofs only [K4, SS, rA,rS,rL,rE,reduceCtorEq]
 refine WC.call (EvQ.of_ev (Q := fun a st => a = .bool true ∧ st = T_aw) awake_1 ⟨rfl, rfl⟩) rfl rfl ?_
 rintro _ st1 ⟨rfl, hst1⟩
 simp +contextual -implicitDefEqProofs only [K4, SS, rA,rS,rL,rE,reduceCtorEq]
 refine WC.br (fun hk => ?_) (fun hk => ?_)
 · simp +contextual -implicitDefEqProofs only [K4, SS, rA,rS,rL,rE,reduceCtorEq]
   rw [hst1]
   refine WC.call (EvQ.of_ev (Q := fun a st => a = .bool true) awake_2 rfl) rfl rfl ?_
   rintro _ st2 rfl
   simp +contextual -implicitDefEqProofs only [K4, SS, rA,rS,rL,rE,reduceCtorEq]
   exact WC.ret ⟨_, _, rfl, rfl⟩
 simp +contextual -implicitDefEqProofs only [K4, SS, rA,rS,rL,rE,reduceCtorEq]
 refine WC.call (doc_q s st1) rfl rfl ?_
 rintro _ st2 ⟨D, at', e, rfl, hD, ho, hf, _, hS, t, rfl, ht⟩
 by_cases he : e = 0
 rotate_left
 · have hk2 : eqI e 0 = false := by rw [eqI_eq]; simpa using he
   simp +contextual -implicitDefEqProofs only [K4, SS, rA,rS,rL,rE,reduceCtorEq, Docm.row, hk2]
   exact WC.ret ⟨_, _, rfl, rfl⟩
 have hk2 : eqI e 0 = true := by rw [eqI_eq, he]; rfl
 simp +contextual -implicitDefEqProofs only [K4, SS, rA,rS,rL,rE,reduceCtorEq, Docm.row, hk2, List.length_map]
 refine WC.br (fun hz => ?_) (fun hz => ?_)
 · simp +contextual -implicitDefEqProofs only [K4, SS, rA,rS,rL,rE,reduceCtorEq]
   exact WC.ret ⟨_, _, rfl, rfl⟩
 have hpos : 0 < D.ops.length := by
  rw [eqI_eq] at hz
  simp at hz
  cases hq : D.ops with
  | nil => exact absurd hq hz
  | cons a l => simp
 obtain ⟨ob, rfl⟩ := ht he
 have hsz := docs_of (s := s) (e := e) (hS he)
 simp +contextual -implicitDefEqProofs only [K4, SS, rA,rS,rL,rE,reduceCtorEq]
 rw [hst1]
 refine WC.call (EvQ.of_ev (Q := fun a st => a = .tuple [.ptr 52 0, .ptr 80 0] ∧ st = T_bc ob) (both_c ob) ⟨rfl, rfl⟩) rfl rfl ?_
 rintro _ st3 ⟨rfl, hst3⟩
 have hsch : Sch l0 52 st3 := by rw [hst3]; exact sch_bc ob
 clear hst3 hst1
 have e2 : (D.ops.map Op.row)[0]? = some (D.ops[0]).row := by rw [List.getElem?_map, List.getElem?_eq_getElem hpos]; rfl
 have hop := hD.ops _ (List.getElem_mem hpos)
 have hos := osize_mem (List.getElem_mem hpos)
 revert e2 hop hos
 generalize D.ops[0] = op
 obtain ⟨om, on, ovs, sub⟩ := op
 intro e2 hop hos
 have hsub : SelsOK sub := hop.sub
 have hos : sizes sub ≤ osize D.ops := hos
 have hsl := hsub.1
 have e2 : (D.ops.map Op.row)[0]? = some [.bool om, .str on, .list false (ovs.map VDef.row), .list false (sub.map Sel.row)] := e2
 simp +contextual -implicitDefEqProofs only [K4, SS, rA,rS,rL,rE,reduceCtorEq, e2]
 refine WC.loopR (fun mm fr st' => st' = st3 ∧ ∃ (i : Nat) (Lc : List Sel) (v12 : AV), i ≤ sub.length ∧ mm = sub.length - i ∧ Lc.length = i ∧ (∀ x ∈ Lc, Off (cfg0 52 D QueryN) x) ∧ (∀ x ∈ Lc, x.OK) ∧ sizes Lc = sizes (sub.take i) ∧ fr = [AV.str s, .bool false, .box [.list false (D.ops.map Op.row), .list false (D.frags.map Frag.row)], .int .i64 e, .ptr 52 0, .list true [[.str [105, 102], .int .u8 3, .int .i64 1, .str [], .list false [], .list false []]], .list true [[.str [105, 102], .int .u8 3, .int .i64 0, .str [], .list false [], .list false []]], .list true (((sub.take i).map (Sel.re [])).map Sel.row), .list true (((sub.take i).map (Sel.re dirB)).map Sel.row), .list true (Lc.map Sel.row), .list false (sub.map Sel.row), .int .i64 i, v12, .undef, .undef, .undef]) (m := sub.length) ⟨rfl, 0, [], _, Nat.zero_le _, rfl, rfl, by simp, by simp, by simp [sizes], rfl⟩ ?_
 rintro mm fr st4 ⟨rfl, i, Lc, v12, hi, rfl, hLl, hLo, hLk, hLs, rfl⟩
 have hle : ∀ l : List Sel, l.length ≤ sizes l := by
  intro l
  induction l with
  | nil => simp [sizes]
  | cons x l ih => cases x; rw [sizes_cons, size_mk, List.length_cons]; omega
 by_cases hil : i < sub.length
 · have hi1 := inc64 (show i + 1 < 2 ^ 63 by omega)
   have e3 : (sub.map Sel.row)[i]? = some (sub[i]).row := by rw [List.getElem?_map, List.getElem?_eq_getElem hil]; rfl
   have hxo := hsub.2 _ (List.getElem_mem hil)
   have htk : sub.take (i + 1) = sub.take i ++ [sub[i]] := by rw [List.take_add_one, List.getElem?_eq_getElem hil]; rfl
   revert e3 hxo htk
   generalize sub[i] = x
   intro e3 hxo htk
   obtain ⟨xk, xal, xnm, xon, xas, xds, xsub⟩ := x
   rw [Sel.row_eq] at e3
   have ha : ∀ d, ((sub.take i).map (Sel.re d)).map Sel.row = ((sub.take i).map (Sel.re d)).map Sel.row := fun _ => rfl
   have hl1 : ∀ d, (((sub.take i).map (Sel.re d)).map Sel.row).length = i := fun d => by rw [List.length_map, List.length_map, List.length_take]; omega
   have hl2 : (Lc.map Sel.row).length = i := by rw [List.length_map, hLl]
   have hb : (i + 1) * 128 ≤ 2 ^ 47 := by omega
   have hsz1 : sizes [Sel.mk xk xal xnm xon xas xds xsub] = sizes [(Sel.mk xk xal xnm xon xas xds xsub).re dirC] := by rw [sizes_one, sizes_one, re_size]
   have nxt : ∀ (dc : List Dir) (w12 : AV), DirsOK dc → wantB (cfg0 52 D QueryN) dc = false → ∃ (j : Nat) (Lc' : List Sel) (v12 : AV), j ≤ sub.length ∧ sub.length - (i + 1) = sub.length - j ∧ Lc'.length = j ∧ (∀ x ∈ Lc', Off (cfg0 52 D QueryN) x) ∧ (∀ x ∈ Lc', x.OK) ∧ sizes Lc' = sizes (sub.take j) ∧ [AV.str s, .bool false, .box [.list false (D.ops.map Op.row), .list false (D.frags.map Frag.row)], .int .i64 e, .ptr 52 0, .list true [[.str [105, 102], .int .u8 3, .int .i64 1, .str [], .list false [], .list false []]], .list true [[.str [105, 102], .int .u8 3, .int .i64 0, .str [], .list false [], .list false []]], .list true (((sub.take i).map (Sel.re [])).map Sel.row ++ [[.int .u8 xk, .str xal, .str xnm, .str xon, .list false (xas.map Arg.row), .list false (([] : List Dir).map Dir.row), .list false (xsub.map Sel.row)]]), .list true (((sub.take i).map (Sel.re dirB)).map Sel.row ++ [[.int .u8 xk, .str xal, .str xnm, .str xon, .list false (xas.map Arg.row), .list false (dirB.map Dir.row), .list false (xsub.map Sel.row)]]), .list true (Lc.map Sel.row ++ [[.int .u8 xk, .str xal, .str xnm, .str xon, .list false (xas.map Arg.row), .list false (dc.map Dir.row), .list false (xsub.map Sel.row)]]), .list false (sub.map Sel.row), .int .i64 ((i + 1 : Nat) : Int), w12, .undef, .undef, .undef] = [AV.str s, .bool false, .box [.list false (D.ops.map Op.row), .list false (D.frags.map Frag.row)], .int .i64 e, .ptr 52 0, .list true [[.str [105, 102], .int .u8 3, .int .i64 1, .str [], .list false [], .list false []]], .list true [[.str [105, 102], .int .u8 3, .int .i64 0, .str [], .list false [], .list false []]], .list true (((sub.take j).map (Sel.re [])).map Sel.row), .list true (((sub.take j).map (Sel.re dirB)).map Sel.row), .list true (Lc'.map Sel.row), .list false (sub.map Sel.row), .int .i64 j, v12, .undef, .undef, .undef] := by
    intro dc w12 hdo hdw
    refine ⟨i + 1, Lc ++ [(Sel.mk xk xal xnm xon xas xds xsub).re dc], w12, hil, rfl, by rw [List.length_append, hLl]; rfl, fun x hx => ?_, fun x hx => ?_, ?_, ?_⟩
    · rcases List.mem_append.1 hx with h | h
      · exact hLo x h
      · simp at h; subst h; exact hdw
    · rcases List.mem_append.1 hx with h | h
      · exact hLk x h
      · simp at h; subst h; exact re_ok hdo hxo
    · rw [sizes_app, htk, sizes_app, hLs, sizes_one, sizes_one, re_size]
    · rw [htk]
      simp only [List.map_append, List.map_cons, List.map_nil, re_row]
   have r1 : dirB.map Dir.row = [[.str [115, 107, 105, 112], .list false [[.str [105, 102], .int .u8 3, .int .i64 0, .str [], .list false [], .list false []]]], [.str [105, 110, 99, 108, 117, 100, 101], .list false [[.str [105, 102], .int .u8 3, .int .i64 1, .str [], .list false [], .list false []]]]] := by simp only [dirB, List.map_cons, List.map_nil, Dir.row, yesA_rows, noA_rows]
   have r2 : dirC.map Dir.row = [[.str [105, 110, 99, 108, 117, 100, 101], .list false [[.str [105, 102], .int .u8 3, .int .i64 0, .str [], .list false [], .list false []]]]] := by simp only [dirC, List.map_cons, List.map_nil, Dir.row, noA_rows]
   have r3 : dirD.map Dir.row = [[.str [115, 107, 105, 112], .list false [[.str [105, 102], .int .u8 3, .int .i64 1, .str [], .list false [], .list false []]]]] := by simp only [dirD, List.map_cons, List.map_nil, Dir.row, yesA_rows]
   rw [r1] at nxt
   have h02 : (0 : Nat) < 2 := by decide
   have h12 : (1 : Nat) < 2 := by decide
   have h20 : ¬ (2 : Int) = 0 := by decide
   simp +contextual -implicitDefEqProofs only [K4, SS, rA,rS,rL,rE,reduceCtorEq, List.length_map, hil, e3, rowsSel, hl1, hl2, hb, h02, h12, h20]
   refine WC.br (fun hm => ?_) (fun hm => ?_)
   · simp +contextual -implicitDefEqProofs only [K4, SS, rA,rS,rL,rE,reduceCtorEq, List.length_map, hil, e3, rowsSel, hl1, hl2, hb, hi1, h02, h12, h20]
     have := fun w12 => nxt dirD w12 dirD_ok (want_D _)
     simp only [r3] at this
     exact WC.next (m' := sub.length - (i + 1)) (by omega) ⟨rfl, this _⟩
   · simp +contextual -implicitDefEqProofs only [K4, SS, rA,rS,rL,rE,reduceCtorEq, List.length_map, hil, e3, rowsSel, hl1, hl2, hb, hi1, h02, h12, h20]
     have := fun w12 => nxt dirC w12 dirC_ok (want_C _)
     simp only [r2] at this
     exact WC.next (m' := sub.length - (i + 1)) (by omega) ⟨rfl, this _⟩
 have hin : i = sub.length := by omega
 subst hin
 rw [List.take_length] at hLs
 have hnl : ¬ sub.length < sub.length := Nat.lt_irrefl _
 simp +contextual -implicitDefEqProofs only [K4, SS, rA,rS,rL,rE,reduceCtorEq, List.length_map, List.take_length, hnl]
 refine WC.leave ?_
 simp +contextual -implicitDefEqProofs only [K4, SS, rA,rS,rL,rE,reduceCtorEq]
 have hsubk : ∀ d, DirsOK d → (sub.map (Sel.re d)).length ≤ 9000 ∧ ∀ x ∈ sub.map (Sel.re d), x.OK := fun d hd => ⟨by rw [List.length_map]; omega, fun x hx => by obtain ⟨y, hy, rfl⟩ := List.mem_map.1 hx; exact re_ok hd (hsub.2 y hy)⟩
 refine WC.call (fields_0 (so := 52) (D := D) (typ := QueryN) hf hD (hsubk [] dirsOK_nil) (by rw [re_sizes]; omega) hsch) rfl rfl ?_
 rintro _ st5 ⟨hg5, F, s1, out, gs, hr, rfl, hG, hgs⟩
 have hlen := grp_len hgs
 have fin : ∀ (v13 : AV), v13.weak = v13 → v13.strip = v13 → v13.stripB = v13 → (∀ call bx (st : St), semLenL call [v13] bx st = some (.int .i64 gs.length, bx, st)) → (gs.length = 0 ∨ ∃ o, v13 = .sl o 0 gs.length 2 ∧ st5[o]? = some (.cells (gcells gs))) →
  WC (fun n => exec (callF tbl n) n (a4s64.seq (a4s69.seq ((a4s71.seq (ACode.blk 2 (a4s73.seq ((ACode.blk 3 a4s78).seq a4s81)).loop)).seq (a4s88.seq ACode.ret)))) [AV.str s, .bool false, .box [.list false (D.ops.map Op.row), .list false (D.frags.map Frag.row)], .int .i64 e, .ptr 52 0, .list true [[.str [105, 102], .int .u8 3, .int .i64 1, .str [], .list false [], .list false []]], .list true [[.str [105, 102], .int .u8 3, .int .i64 0, .str [], .list false [], .list false []]], .list true ((sub.map (Sel.re [])).map Sel.row), .list true ((sub.map (Sel.re dirB)).map Sel.row), .list true (Lc.map Sel.row), .list false (sub.map Sel.row), .int .i64 sub.length, v12, v13, .undef, .undef] st5) (fun o => ∃ r st', finK [ResK.v 1] (some o) = some (r, st') ∧ r = AV.bool true) := by
  intro v13 w1 w2 w3 wl wo
  simp +contextual -implicitDefEqProofs only [K4, SS, rA,rS,rL,rE,reduceCtorEq, w1, w2, w3]
  refine WC.call (fields_0 (so := 52) (D := D) (typ := QueryN) hf hD (hsubk dirB dirB_ok) (by rw [re_sizes]; omega) (hsch.gr hg5)) rfl rfl ?_
  rintro _ st6 ⟨hg6, F2, s2, out2, gs2, hr2, rfl, hG2, hgs2⟩
  have hkk := always_pure hr hr2
  have hks : keysF F2 = keysF F := by rw [keysF_map, keysF_map, hkk]
  have hl2 : gs2.length = gs.length := by rw [grp_len hgs2, hks, hlen]
  have hgl : gs.length ≤ 9000 := by
   have h1 := hr.size.1
   have h2 := (grpF_len F).1
   rw [← hgs, List.length_map] at h2
   rw [re_sizes] at h1
   have h3 : unseen (cfg0 52 D QueryN).frags [] = fsize D.frags := rfl
   omega
  have fin2 : ∀ (v14 : AV), v14.weak = v14 → v14.strip = v14 → v14.stripB = v14 → (∀ call bx (st : St), semLenL call [v14] bx st = some (.int .i64 gs.length, bx, st)) → (gs.length = 0 ∨ ∃ o, v14 = .sl o 0 gs.length 2 ∧ st6[o]? = some (.cells (gcells gs2))) →
   WC (fun n => exec (callF tbl n) n (a4s69.seq ((a4s71.seq (ACode.blk 2 (a4s73.seq ((ACode.blk 3 a4s78).seq a4s81)).loop)).seq (a4s88.seq ACode.ret))) [AV.str s, .bool false, .box [.list false (D.ops.map Op.row), .list false (D.frags.map Frag.row)], .int .i64 e, .ptr 52 0, .list true [[.str [105, 102], .int .u8 3, .int .i64 1, .str [], .list false [], .list false []]], .list true [[.str [105, 102], .int .u8 3, .int .i64 0, .str [], .list false [], .list false []]], .list true ((sub.map (Sel.re [])).map Sel.row), .list true ((sub.map (Sel.re dirB)).map Sel.row), .list true (Lc.map Sel.row), .list false (sub.map Sel.row), .int .i64 sub.length, v12, v13, v14, .undef] st6) (fun o => ∃ r st', finK [ResK.v 1] (some o) = some (r, st') ∧ r = AV.bool true) := by
   intro v14 u1 u2 u3 ul uo
   have hself : eqI (gs.length : Int) (gs.length : Int) = true := by rw [eqI_eq]; simp
   simp +contextual -implicitDefEqProofs only [K4, SS, rA,rS,rL,rE,reduceCtorEq, w1, w2, w3, wl, u1, u2, u3, ul, hself]
   refine WC.call (fields_0 (so := 52) (D := D) (typ := QueryN) (l := Lc) hf hD ⟨by omega, hLk⟩ (by omega) (hsch.gr (hg5.trans hg6))) rfl rfl ?_
   rintro _ st7 ⟨hg7, F3, s3, out3, gs3, hr3, rfl, hG3, hgs3⟩
   obtain rfl : F3 = [] := FRun.off Lc hLo hr3
   have hl3 : gs3.length = 0 := grp_len hgs3
   obtain rfl : gs3 = [] := List.eq_nil_of_length_eq_zero hl3
   have wl3 : ∀ call bx (st : St), semLenL call [out3.weak] bx st = some (.int .i64 ((0 : Nat) : Int), bx, st) := by
    intro call bx st
    rcases hG3.out with ⟨_, rfl⟩ | ⟨o3, rfl, _⟩ <;> rfl
   have w33 : out3.weak.stripB = out3.weak ∧ out3.weak.weak = out3.weak := by
    rcases hG3.out with ⟨_, rfl⟩ | ⟨o3, rfl, _⟩ <;> exact ⟨rfl, rfl⟩
   obtain ⟨w31, w32⟩ := w33
   simp +contextual -implicitDefEqProofs only [K4, SS, rA,rS,rL,rE,reduceCtorEq, w1, w2, w3, wl, u1, u2, u3, ul, hself, w31, w32, wl3, show eqI ((0 : Nat) : Int) 0 = true from rfl]
   refine WC.loopR (fun mm fr st' => st' = st7 ∧ ∃ (k : Nat), k ≤ gs.length ∧ mm = gs.length - k ∧ fr = [AV.str s, .bool false, .box [.list false (D.ops.map Op.row), .list false (D.frags.map Frag.row)], .int .i64 e, .ptr 52 0, .list true [[.str [105, 102], .int .u8 3, .int .i64 1, .str [], .list false [], .list false []]], .list true [[.str [105, 102], .int .u8 3, .int .i64 0, .str [], .list false [], .list false []]], .list true ((sub.map (Sel.re [])).map Sel.row), .list true ((sub.map (Sel.re dirB)).map Sel.row), .list true (Lc.map Sel.row), .list false (sub.map Sel.row), .int .i64 sub.length, v12, v13, v14, .int .i64 k]) (m := gs.length) ⟨rfl, 0, Nat.zero_le _, rfl, rfl⟩ ?_
   rintro mm fr st8 ⟨rfl, k, hk, rfl, rfl⟩
   by_cases hkl : k < gs.length
   rotate_left
   · simp +contextual -implicitDefEqProofs only [K4, SS, rA,rS,rL,rE,reduceCtorEq, w1, w2, w3, wl, u1, u2, u3, ul, hkl]
     refine WC.leave ?_
     simp +contextual -implicitDefEqProofs only [K4, SS, rA,rS,rL,rE,reduceCtorEq]
     exact WC.ret ⟨_, _, rfl, rfl⟩
   rcases wo with h0 | ⟨o, rfl, ho1⟩
   · omega
   rcases uo with h0 | ⟨o2, rfl, ho2⟩
   · omega
   have hk2 : k < gs2.length := by omega
   have hkl' : (k : Int) < (gs.length : Int) := by omega
   have hd1 := gcells_at hkl
   have hd2 := gcells_at hk2
   obtain ⟨k1, f1⟩ := grp_at hgs hkl
   obtain ⟨k2, f2⟩ := grp_at hgs2 hk2
   rw [hks, k1] at k2
   have ek : gs[k].key = gs2[k].key := by simpa using k2
   have hfl : gs2[k].fs.length = gs[k].fs.length := by rw [f2, f1, ← ek, ofKey_map, ofKey_map, hkk]
   have ho1' := hg7 _ _ (hg6 _ _ ho1)
   have ho2' := hg7 _ _ ho2
   have hk1 := inc64 (show k + 1 < 2 ^ 63 by omega)
   revert hd1 hd2 ek hfl
   generalize gs[k] = x
   generalize gs2[k] = y
   intro hd1 hd2 ek hfl
   obtain ⟨xk, xo, xf⟩ := x
   obtain ⟨yk, yo, yf⟩ := y
   dsimp only at hd1 hd2 ek hfl
   obtain ⟨hd1, hd1'⟩ := hd1
   obtain ⟨hd2, hd2'⟩ := hd2
   subst ek
   rw [hfl] at hd2 hd2'
   have hxx : eqN xk xk = true := (eqN_iff' _ _).2 rfl
   have hff : eqI (xf.length : Int) (xf.length : Int) = true := by rw [eqI_eq]; simp
   simp +contextual -implicitDefEqProofs only [K4, SS, rA,rS,rL,rE,reduceCtorEq, hkl, hkl', ho1', ho2', hd1, hd1', hd2, hd2', hxx, hff, hk1]
   exact WC.next (m' := gs.length - (k + 1)) (by omega) ⟨rfl, k + 1, hkl, rfl, rfl⟩
  rcases hG2.out with ⟨h0, rfl⟩ | ⟨o2, rfl, _, ho2, _⟩
  · have h0' : gs.length = 0 := by rw [← hl2, h0]; rfl
    have := fin2 (.list false []) rfl rfl rfl (fun _ _ _ => by rw [h0']; rfl) (Or.inl h0')
    simp +contextual -implicitDefEqProofs only [K4, SS, rA,rS,rL,rE,reduceCtorEq] at this ⊢
    exact this
  · rw [hl2] at *
    have := fin2 (.sl o2 0 gs.length 2) rfl rfl rfl (fun _ _ _ => rfl) (Or.inr ⟨o2, rfl, ho2⟩)
    simp +contextual -implicitDefEqProofs only [K4, SS, rA,rS,rL,rE,reduceCtorEq] at this ⊢
    exact this
 rcases hG.out with ⟨h0, rfl⟩ | ⟨o, rfl, _, ho1, _⟩
 · have h0' : gs.length = 0 := by rw [h0]; rfl
   have := fin (.list false []) rfl rfl rfl (fun _ _ _ => by rw [h0']; rfl) (Or.inl h0')
   simp +contextual -implicitDefEqProofs only [K4, SS, rA,rS,rL,rE,reduceCtorEq] at this ⊢
   exact this
 · have := fin (.sl o 0 gs.length 2) rfl rfl rfl (fun _ _ _ => rfl) (Or.inr ⟨o, rfl, ho1⟩)
   simp +contextual -implicitDefEqProofs only [K4, SS, rA,rS,rL,rE,reduceCtorEq] at this ⊢
   exact this
theorem always_am (s : List Nat) : ∃ n st', callF tbl n 4 [.str s] [] = some (.bool true, st') := am_of (always_law s)
end Go.Cb.CodeA
