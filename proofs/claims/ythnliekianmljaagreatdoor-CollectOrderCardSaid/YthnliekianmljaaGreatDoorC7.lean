import Derived.Test.YthnliekianmljaaGreatDoorC6
import Derived.Test.YthnliekianmljaaGreatDoorMaw
import Derived.Test.YthnliekianmljaaGreatDoorMax
import Derived.Test.YthnliekianmljaaGreatDoorMbc
import Derived.Test.YthnliekianmljaaGreatDoorXAms3
import Derived.KernelRfl
set_option maxRecDepth 100000
set_option linter.unusedSimpArgs false
set_option linter.unusedVariables false
namespace Go.Cb.CodeA
open Go Go.Cb
attribute [local congr] obind_congr gv_congr2 gv2_congr brT_congr seqK_congr blkK_congr m1_congr gm_congr

theorem awake_1 : Ev tbl 9 [] [] (.bool true) T_aw := Go.Cb.G.ev_ofG m_aw
theorem awake_2 : Ev tbl 9 [] T_aw (.bool true) T_ax := Go.Cb.G.ev_ofG m_ax
def rdTD (r : List AV) : TD := match r with
 | [.int _ k, .str n, .list _ fr, .list _ ns] => ⟨k, n, fr, ns.map fun x => match x with | [.str s] => s | _ => []⟩
 | _ => ⟨0, [], [], []⟩
def l0 : List TD := (match V13 with | .list _ xs => xs | _ => []).map rdTD
theorem l0_ok : (l0.all fun t => decide (t.ns.length ≤ 3001)) = true := by kernel_rfl
theorem l0_len : (decide (l0.length ≤ 3001)) = true := by kernel_rfl
/-- a collector's surroundings: no variables -/
def cfg0 (so : Nat) (D : Docm) (typ : List Nat) : Cfg := ⟨so, D.ops.map Op.row, D.frags, typ, 0, 0, [], [], [], possS l0⟩
theorem poss_len (n : List Nat) : (possS l0 n).length ≤ 10000 := by
 have hl := of_decide_eq_true l0_len
 unfold possS
 cases h : lk l0 n with
 | none => simp
 | some t =>
  have := of_decide_eq_true (List.all_eq_true.1 l0_ok t (List.mem_of_find?_eq_some h))
  dsimp only
  split
  · simp
  · split
    · omega
    · split
      · simp
      · rw [List.length_map]
        have := List.length_filter_le (oneOf n) l0
        omega
theorem cfg0_ok (so : Nat) (D : Docm) (typ : List Nat) (h : D.frags.length ≤ 3000) (h2 : D.Els) : (cfg0 so D typ).OK := ⟨by simp [cfg0], fun h => by simp [cfg0] at h, ⟨h, h2.frags⟩, poss_len⟩
theorem poss_h {so : Nat} {D : Docm} {typ : List Nat} {st : St} (h : Sch l0 so st) : PossH (cfg0 so D typ) st st.length := fun n st' hg =>
 poss_s (h.gr fun i x hx => hg i x (List.getElem?_eq_some_iff.1 hx).1 hx) n
/-- Fields of a document's selections, without variables -/
theorem fields_0 {so : Nat} {D : Docm} {typ : List Nat} (hf : D.frags.length ≤ 3000) (hD : D.Els) {l : List Sel} (hl : l.length ≤ 9000 ∧ ∀ s ∈ l, s.OK) (hsz : sizes l + fsize D.frags ≤ 9000) {st : St} (h : Sch l0 so st) :
 EvQ tbl 12 [.ptr so 0, .agg [.list false (D.ops.map Op.row), .list false (D.frags.map Frag.row)], .str typ, .list false (l.map Sel.row), .agg [.int .u8 0, .int .i64 0, .str [], .list false [], .list false []]] st (FieldsR (cfg0 so D typ) l st) :=
 fields_q (cfg0_ok so D typ hf hD) l hl hsz st (poss_h h)
theorem GrpS.same {c : Nat} {st st' : St} {out : AV} {gs : List Grp} (h : GrpS c st out gs) (hg : Gr st st') : GrpS c st' out gs := h.ext fun i x _ hx => hg i x hx
theorem grp_len {gs : List Grp} {F : List Sel} (h : gs.map Grp.pr = grpF F) : gs.length = (keysF F).length := by
 have := congrArg List.length h
 rw [grpF_eq] at this
 simpa using this
theorem grp_at {gs : List Grp} {F : List Sel} (h : gs.map Grp.pr = grpF F) {i : Nat} (hi : i < gs.length) : (keysF F)[i]? = some gs[i].key ∧ gs[i].fs = ofKey F gs[i].key := by
 have h1 : (gs.map Grp.pr)[i]? = some (gs[i].key, gs[i].fs) := by rw [List.getElem?_map, List.getElem?_eq_getElem hi]; rfl
 rw [h, grpF_eq, List.getElem?_map] at h1
 cases hk : (keysF F)[i]? with
 | none => rw [hk] at h1; cases h1
 | some k =>
  rw [hk] at h1
  simp at h1
  exact ⟨by rw [h1.1], by rw [← h1.2, h1.1]⟩
theorem gcells_at {gs : List Grp} {i : Nat} (hi : i < gs.length) : (gcells gs).drop (i * 2) = .str gs[i].key :: .sl gs[i].fo 0 gs[i].fs.length 7 :: gcells (gs.drop (i + 1)) ∧ (gcells gs).drop (i * 2 + 1) = .sl gs[i].fo 0 gs[i].fs.length 7 :: gcells (gs.drop (i + 1)) := by
 have h := gcells_drop gs i
 rw [List.drop_eq_getElem_cons hi, gcells_cons] at h
 refine ⟨h, ?_⟩
 have h2 := congrArg (List.drop 1) h
 rw [List.drop_drop] at h2
 exact h2
abbrev QueryN : List Nat := [81, 117, 101, 114, 121]
theorem am_of {f : Nat} {as : List AV} (h : EvQ tbl f as [] (fun a _ => a = .bool true)) : ∃ n st', callF tbl n f as [] = some (.bool true, st') := by
 obtain ⟨a, st', ⟨n, hn⟩, rfl⟩ := h
 exact ⟨n, st', hn⟩
end Go.Cb.CodeA
