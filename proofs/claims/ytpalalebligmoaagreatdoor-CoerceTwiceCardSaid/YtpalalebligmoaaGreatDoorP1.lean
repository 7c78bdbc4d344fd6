import Derived.Test.YtpalalebligmoaaGreatDoorS7
set_option maxRecDepth 20000
set_option linter.unusedSimpArgs false
set_option linter.unusedVariables false
namespace Go.Cb.CodeA
open Go Go.Cb
theorem cErr_ok (e : Int) : (cErr e).1.Ok := Val.Ok.none
theorem preF_ok {p b : Bool} {v : Val} {r : CRes} (hv : v.Ok) (hr : r.1.Ok) : (preF p b v r).1.Ok := by
  unfold preF
  split
  · exact cErr_ok _
  · split
    · split
      · exact cErr_ok _
      · exact hv
    · exact hr
theorem listG_ok {f : Val → CRes} {b : Bool} : ∀ (l acc : List Val), (∀ x ∈ l, (f x).1.Ok) → (∀ x ∈ acc, x.Ok) → acc.length + l.length ≤ 3000 → (listG f b l acc).1.Ok
  | [], acc, _, ha, hl => .of (by decide) (by simpa using hl) (by intro e; cases e) (by decide) ha
  | x :: l, acc, hf, ha, hl => by
    have hl' : acc.length + (l.length + 1) ≤ 3000 := by simpa using hl
    have h1 : ∀ y : Val, y.Ok → ∀ z ∈ acc ++ [y], z.Ok := fun y hy z hz => by
      rcases List.mem_append.1 hz with h | h
      · exact ha z h
      · simp at h; subst h; exact hy
    have h2 : ∀ y : Val, (acc ++ [y]).length + l.length ≤ 3000 := fun y => by simp; omega
    rw [listG]
    split
    · split
      · exact listG_ok l _ (fun z hz => hf z (by simp [hz])) (h1 _ (hf x (by simp))) (h2 _)
      · split
        · exact cErr_ok _
        · exact listG_ok l _ (fun z hz => hf z (by simp [hz])) (h1 _ Val.Ok.none) (h2 _)
    · exact cErr_ok _
theorem listF_ok {f : Val → CRes} {b : Bool} {v : Val} (hv : v.Ok) (hf : ∀ x : Val, x.Ok → (f x).1.Ok) : (listF f b v).1.Ok := by
  unfold listF
  split
  · exact listG_ok _ _ (fun x hx => hf x (hv.sub x hx)) (by simp) (by have := hv.len.2; simpa using this)
  · exact listG_ok _ _ (fun x hx => by simp at hx; subst hx; exact hf x hv) (by simp) (by simp)
theorem valueF_ok {p : Bool} {N : List Nat → Val → CRes} : ∀ (T : Ty), (∀ x : Val, x.Ok → (N T.leaf x).1.Ok) → ∀ v : Val, v.Ok → (valueF p N T v).1.Ok
  | .one n b, hN, v, hv => preF_ok hv (hN v hv)
  | .lst n t b, hN, v, hv => preF_ok hv (listF_ok hv fun x hx => valueF_ok t hN x hx)
theorem namedF_ok {p : Bool} {fl : Val → CRes} {n : List Nat} {v : Val} (hv : v.Ok) (hf : (fl v).1.Ok) : (namedF p fl n v).1.Ok := by
  unfold namedF
  split
  · exact hv
  split
  · exact hv
  split
  · exact hv
  split
  · exact hv
  split
  · exact .of (by decide) (by decide) (by intro e; cases e) (by decide) (by simp)
  split
  · exact .of (by decide) (by decide) (by intro e; cases e) (by decide) (by simp)
  split
  · exact hf
  · exact cErr_ok _
theorem N0_ok {p : Bool} {n : List Nat} {v : Val} (hv : v.Ok) : (N0 p n v).1.Ok := namedF_ok hv (cErr_ok _)
theorem dflF_ok {f : FD} (hf : f.v.Ok) {r : CRes} (hr : r.1.Ok) : (dflF N0 f r).1.Ok := by
  unfold dflF
  split
  · exact valueF_ok f.T (fun x hx => N0_ok hx) _ hf
  · exact hr
theorem giveF_ok {p : Bool} {f : FD} (hf : f.v.Ok) {v : Val} (hv : v.Ok) : (giveF N0 p f v).1.Ok := by
  unfold giveF
  refine dflF_ok hf ?_
  cases h : v.at f.name with
  | none => exact Val.Ok.none
  | some x => exact valueF_ok f.T (fun x hx => N0_ok hx) _ (at_ok hv h)
theorem goF_ok {p : Bool} {v : Val} (hv : v.Ok) : ∀ (F : List FD) (ks : List (List Nat)) (ls : List Val), (∀ f ∈ F, f.v.Ok) → (∀ x ∈ ls, x.Ok) → ks.length = ls.length → ls.length + F.length ≤ 3000 → (goF N0 p v F ks ls).1.Ok
  | [], ks, ls, _, hl, he, hn => .of (by rw [he]; simpa using hn) (by simpa using hn) (fun _ => he) (by decide) hl
  | f :: F, ks, ls, hF, hl, he, hn => by
    have hn' : ls.length + (F.length + 1) ≤ 3000 := by simpa using hn
    rw [goF]
    split
    · split
      · refine goF_ok hv F _ _ (fun g hg => hF g (by simp [hg])) (fun z hz => ?_) (by simp [he]) (by simp; omega)
        rcases List.mem_append.1 hz with h | h
        · exact hl z h
        · simp at h; subst h; exact giveF_ok (hF f (by simp)) hv
      · split
        · exact cErr_ok _
        · exact goF_ok hv F _ _ (fun g hg => hF g (by simp [hg])) hl he (by omega)
    · exact cErr_ok _
theorem fieldsF_ok {p : Bool} {v : Val} (hv : v.Ok) : (fieldsF N0 FI p v).1.Ok := by
  unfold fieldsF
  split
  · exact goF_ok hv FI _ _ FI_ok (by simp) rfl (by decide)
  · exact cErr_ok _
theorem valF_ok (p : Bool) (T : Ty) {v : Val} (hv : v.Ok) : (valF p T v).1.Ok := valueF_ok T (fun x hx => namedF_ok hx (fieldsF_ok hx)) v hv

/-! an object's fields in another order -/
end Go.Cb.CodeA
