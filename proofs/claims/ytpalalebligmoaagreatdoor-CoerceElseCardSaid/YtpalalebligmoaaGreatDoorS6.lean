/- What functions of the abstract machine answer. No conditions but those that each theorem names. -/
import Derived.Test.YtpalalebligmoaaGreatDoorS5
set_option maxRecDepth 20000
set_option linter.unusedSimpArgs false
set_option linter.unusedVariables false
namespace Go.Cb.CodeA
open Go Go.Cb
attribute [local congr] obind_congr gv_congr2 gv2_congr brT_congr seqK_congr blkK_congr m1_congr gm_congr
theorem Sch.set {st : St} (h : Sch st) {o : Nat} (ho : 24 ≤ o) (x : Cb.Obj) : Sch (st.set o x) := by
  obtain ⟨h1, h2, h3⟩ := h
  exact ⟨by rw [List.getElem?_set_ne (by omega)]; exact h1, by rw [List.getElem?_set_ne (by omega)]; exact h2, by rw [List.getElem?_set_ne (by omega)]; exact h3⟩
theorem Sch.len {st : St} (h : Sch st) : 24 ≤ st.length := (List.getElem?_eq_some_iff.1 h.r).1
theorem set_app (st : St) (a b : Cb.Obj) : (st ++ [a]).set st.length b = st ++ [b] := by simp
theorem get_app (st : St) (a : Cb.Obj) : (st ++ [a])[st.length]? = some a := by simp
end Go.Cb.CodeA
