/- Proved here: what a place and a count are, for the reference. -/
import Derived.Test.YtdiakjamahdcfaaFFoolscapref5May
import Derived.Test.YtdiakjamahdcfaaQ2
namespace Go.Proofs.Ytdiakjamahdcfaa.Pure
open Go.RowKit Go.Proofs.Ytdiakjamahdcfaa.V Go.Proofs.YtdiakjamahdcfaaW.PrintWords Go.Proofs.YtdiakjamahdcfaaW.PrintLast Go.Proofs.YtdiakjamahdcfaaW.PrintMore

theorem place_ref (l : List ByteArray) (a b : Int) : foolscapref5_Place.f l a b = some (decide (PlaceP l a b)) := place_class l a b

theorem may_ref (l : List ByteArray) (a b n : Int) : foolscapref5_may.f l a b n = some (decide (PlaceP l a b ∧ 1 ≤ n)) := by
  unfold foolscapref5_may.f
  rw [place_ref]
  simp only [Option.bind_some]
  by_cases h : PlaceP l a b
  · rw [decide_eq_true h, if_pos rfl]
    congr 1
    simp only [decide_eq_decide]
    exact ⟨fun h2 => ⟨h, h2⟩, fun h2 => h2.2⟩
  · rw [decide_eq_false h, if_neg (by decide), decide_eq_false (fun h2 => h h2.1)]


end Go.Proofs.Ytdiakjamahdcfaa.Pure
