/- What functions of the abstract machine answer. No conditions but those that each theorem names. -/
import Derived.Test.YthnliekianmljaaGreatDoorMboth
set_option maxRecDepth 100000
namespace Go.Cb.CodeA
open Go Go.Cb Go.Cb.F
theorem ev_fin {f : Nat} {fn : AFn} {as : List AV} {st : St} {r : AV × St} (htb : tbl f = some fn) (he : fn.ext = none) (hl : as.length = fn.np)
    (h : ∃ e fr' st', XC tbl fn.code (as ++ List.replicate (fn.nv - fn.np) .undef) st (e, fr', st') ∧ finK fn.results (some (e, fr', st')) = some r) : Ev tbl f as st r.1 r.2 := by
  obtain ⟨e, fr', st', h1, h2⟩ := h
  exact Ev.of_body htb he hl h1 h2
theorem seq_fin {a b : ACode} {fr fr1 : List AV} {st st1 : St} {rs : List ResK} {r : AV × St} (h : XC tbl a fr st (.normal, fr1, st1))
    (h' : ∃ e fr' st', XC tbl b fr1 st1 (e, fr', st') ∧ finK rs (some (e, fr', st')) = some r) : ∃ e fr' st', XC tbl (.seq a b) fr st (e, fr', st') ∧ finK rs (some (e, fr', st')) = some r := by
  obtain ⟨e, fr', st', h1, h2⟩ := h'
  exact ⟨e, fr', st', XC.seq h h1, h2⟩
theorem awake_ev : Ev tbl 9 [] [] (.bool true) T_aw := by
  refine ev_fin (fn := a9) (r := (.bool true, T_aw)) (by kernel_rfl) (by kernel_rfl) (by kernel_rfl) ?_
  refine seq_fin (a := a9s1) (b := a9s13) (xc_of0 (out := (.normal, [.bool false, .undef, .undef, .undef], [])) z9s1_r (fun c n => by kernel_rfl)) ?_
  refine seq_fin (a := a9s3) (b := a9s12) (xc_ofC z9s3_r both_a (out := (.normal, [.bool false, .ptr 2 0, .undef, .undef], T_ar)) (fun c n => by kernel_rfl) (fun n => by kernel_rfl)) ?_
  exact xc_fin zs_ok z9s12_r (k := 3000) (by kernel_rfl)
end Go.Cb.CodeA
