import Derived.Test.YtpalalebligmoaaGreatDoorS6
set_option maxRecDepth 20000
set_option linter.unusedSimpArgs false
set_option linter.unusedVariables false
namespace Go.Cb.CodeA
open Go Go.Cb
open Nat (reduceAdd reduceSub reduceLeDiff reduceEqDiff)
attribute [local congr] obind_congr gv_congr2 gv2_congr brT_congr seqK_congr blkK_congr m1_congr gm_congr
def N0 (p : Bool) (n : List Nat) (v : Val) : CRes := namedF p (fun _ => cErr 8) n v
theorem value0_q (T : Ty) (hT : T.leaf ≠ [73]) (p : Bool) (G : St → Prop) (hG : ∀ st, G st → Sch st) : ∀ st, G st → ∀ x : Val, x.Ok → EvQ tbl 26 [.agg (Cc p), .agg T.row, .agg x.row] st (fun a st' => G st' ∧ a = ansR (valueF p (N0 p) T x)) :=
  value_q (N0 p) T fun st hst x hx => named_q hG hst T.leaf x hx _ fun h => absurd h hT
theorem FI_len : FI.length ≤ 3000 := by decide
theorem FI_cases {Q : FD → Prop} (h0 : Q ⟨[97], .one sInt false, false, Val.none⟩) (h1 : Q ⟨[98], .lst [] (.one sE true) false, true, .mk 5 0 [] [] [.mk 4 0 [65] [] []]⟩) (h2 : Q ⟨[99], .one sID true, false, Val.none⟩) : ∀ f ∈ FI, Q f := by
  intro f hf
  simp only [FI, List.mem_cons, List.not_mem_nil, or_false] at hf
  rcases hf with rfl | rfl | rfl <;> assumption
theorem okA : (Val.mk 4 0 [65] [] []).Ok := .of (by decide) (by decide) (by decide) (by decide) (by simp)
theorem okAs : (Val.mk 5 0 [] [] [.mk 4 0 [65] [] []]).Ok := .of (by decide) (by decide) (by decide) (by decide) (by intro v hv; simp at hv; subst hv; exact okA)
theorem FI_ok : ∀ f ∈ FI, f.v.Ok := FI_cases Val.Ok.none okAs Val.Ok.none
theorem FI_leaf : ∀ f ∈ FI, f.T.leaf ≠ [73] := FI_cases (by decide) (by decide) (by decide)
def NF (p : Bool) (n : List Nat) (v : Val) : CRes := namedF p (fieldsF N0 FI p) n v
theorem fieldsI_q (p : Bool) {st : St} (hst : Sch st) (v : Val) (hv : v.Ok) : EvQ tbl 76 [.agg (Cc p), .list false (FI.map FD.row), .agg v.row] st (fun a st' => Sch st' ∧ ∃ s, a = .tuple [.agg (fieldsF N0 FI p v).1.row, .str s, .int .i64 (fieldsF N0 FI p v).2.2]) :=
  fields_q N0 FI FI_len FI_ok (fun f hf p G hG st hst x hx => value0_q f.T (FI_leaf f hf) p G hG st hst x hx) p hst v hv
/-- a value as one of any type -/
def valF (p : Bool) (T : Ty) (v : Val) : CRes := valueF p (NF p) T v
theorem val_q (T : Ty) (p : Bool) {st : St} (hst : Sch st) {v : Val} (hv : v.Ok) : EvQ tbl 26 [.agg (Cc p), .agg T.row, .agg v.row] st (fun a st' => Sch st' ∧ a = ansR (valF p T v)) :=
  value_q (NF p) T (fun st hst x hx => named_q (fun _ h => h) hst T.leaf x hx _ fun _ st hst => fieldsI_q p hst x hx) st hst v hv
theorem literal_q (T : Ty) {st : St} (hst : Sch st) {v : Val} (hv : v.Ok) : EvQ tbl 19 [.ptr 14 0, .agg T.row, .agg v.row, .agg Val.none.row] st (fun a st' => Sch st' ∧ a = ansR (valF false T v)) := by
  have hq := val_q T false hst hv
  rw [Cc, v.row_eta, T.row_eta] at hq
  rw [v.row_eta, T.row_eta, Val.none_row]
  refine EvQ.body (fn := a19) rfl rfl rfl ?_
  simp +contextual -implicitDefEqProofs only [K19, SS, reduceAdd,reduceSub,reduceLeDiff,reduceEqDiff,reduceCtorEq]
  refine WC.call hq rfl rfl ?_
  rintro _ _ ⟨hS, rfl⟩
  rw [ansR, (valF false T v).1.row_eta]
  simp +contextual -implicitDefEqProofs only [K19, SS, reduceAdd,reduceSub,reduceLeDiff,reduceEqDiff,reduceCtorEq]
  exact WC.ret ⟨_, _, rfl, hS, rfl⟩
end Go.Cb.CodeA
