import Derived.Test.YtpalalebligmoaaGreatDoorCodeA
import Derived.Test.YtpalalebligmoaaGreatDoorXAms2
import Derived.KernelRfl
set_option maxRecDepth 100000
namespace Go.Cb.CodeA
open Go Go.Cb

/-- does it answer true, twice over? -/
def twiceTrue (n f : Nat) : Bool := match callF tbl n f [] [] with
  | some (.bool true, st) => match callF tbl n f [] st with
    | some (.bool true, _) => true
    | _ => false
  | _ => false
theorem awake_twice : twiceTrue 100 9 = true := by kernel_rfl
theorem awake_evs : ∃ st1 st2, Ev tbl 9 [] [] (.bool true) st1 ∧ Ev tbl 9 [] st1 (.bool true) st2 := by
  have h := awake_twice
  unfold twiceTrue at h
  split at h
  · rename_i st1 h1
    split at h
    · rename_i st2 h2
      exact ⟨st1, st2, ⟨_, h1⟩, ⟨_, h2⟩⟩
    · cases h
  · cases h
end Go.Cb.CodeA
