/- Proved here: the reference's motion to a line. -/
import Derived.Test.YtngkpgocjeiheaaFFoolscapref5Line
import Derived.Test.YtngkpgocjeiheaaQ3
namespace Go.Proofs.Ytngkpgocjeiheaa.Pure
open Go.RowKit Go.Proofs.Ytngkpgocjeiheaa.V Go.Proofs.YtngkpgocjeiheaaW.PrintWords Go.Proofs.YtngkpgocjeiheaaW.PrintLast Go.Proofs.YtngkpgocjeiheaaW.PrintMore

theorem line_ref {l : List ByteArray} (hl : Small l) (t : Int) (jump : Bool) (k : Nat) (hk : 1300 ≤ k) :
    foolscapref5_line.f k l t jump = some (lineS l t jump) := by
  obtain ⟨k, rfl⟩ : ∃ m, k = m + 1 := ⟨k - 1, by omega⟩
  unfold foolscapref5_line.f lineS
  simp only [foolscapref5_line.j0, foolscapref5_none.f, Option.bind_some]
  by_cases h0 : t < 0
  · rw [if_pos h0, if_pos trivial, if_neg (by omega)]
  · rw [if_neg h0]
    by_cases h1 : t ≥ l.length
    · rw [decide_eq_true h1, if_pos rfl, if_neg (by omega)]
    · have hz := hl.at (j := t) (by omega) (by omega)
      rw [decide_eq_false h1, if_neg (by decide), if_pos (by omega), if_pos (by omega), if_pos (by omega), first_ref _ (by omega) k (by omega)]
      rfl


end Go.Proofs.Ytngkpgocjeiheaa.Pure
