/- A type that is declared twice is told, and so is one that nobody declares: SchemaTwice answers true whatever the text and the number, as its row says. No further conditions. -/
import Derived.Test.YtkfbiiedabbgfaaDoorRowA
import Derived.Test.YtkfbiiedabbgfaaDoorQs2
namespace Go.Proofs.YtkfbiiedabbgfaaDoor
open Go.Cb Go.Cb.CodeA
theorem twice_am : TwiceAM := by
  intro s k hs h0 h1
  obtain ⟨st1, st2, a1, a2⟩ := awake_evs
  obtain ⟨kn, rfl⟩ := Int.eq_ofNat_of_zero_le h0
  obtain ⟨a, st', ⟨n, hn⟩, rfl⟩ := twice_law a1 a2 s kn (by omega)
  exact ⟨n, st', hn⟩
theorem schemaTwice : Rows.SchemaTwiceCardSaid := twice_card twice_am
#print axioms schemaTwice
end Go.Proofs.YtkfbiiedabbgfaaDoor
