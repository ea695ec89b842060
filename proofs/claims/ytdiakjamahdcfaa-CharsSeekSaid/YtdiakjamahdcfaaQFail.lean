/- Proved here: where the program's motions within a line fail at once. -/
import Derived.Test.YtdiakjamahdcfaaFCharsFails
import Derived.Test.YtdiakjamahdcfaaQ2
namespace Go.Proofs.Ytdiakjamahdcfaa.Pure
open Go.RowKit Go.Proofs.Ytdiakjamahdcfaa.V Go.Proofs.YtdiakjamahdcfaaW.PrintWords Go.Proofs.YtdiakjamahdcfaaW.PrintLast Go.Proofs.YtdiakjamahdcfaaW.PrintMore

theorem fails_chars (l : List ByteArray) (a b n : Int) : chars_fails.f l a b n = some (!decide (PlaceP l a b ∧ 1 ≤ n)) := by
  unfold chars_fails.f
  by_cases h1 : n < 1
  · rw [if_pos h1, decide_eq_false (fun h => by omega)]
    rfl
  · rw [if_neg h1, place_class]
    simp only [Option.bind_some]
    by_cases h2 : PlaceP l a b
    · rw [decide_eq_true h2, decide_eq_true ⟨h2, by omega⟩]
    · rw [decide_eq_false h2, decide_eq_false (fun h => h2 h.1)]

end Go.Proofs.Ytdiakjamahdcfaa.Pure
