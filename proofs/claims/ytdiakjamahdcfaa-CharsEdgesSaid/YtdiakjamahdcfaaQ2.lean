/- Proved here: what a place of lines is, for the program; the place that two numbers name. -/
import Derived.Test.YtdiakjamahdcfaaFClassPlace
import Derived.Test.YtdiakjamahdcfaaFFoolscapseatPlace
import Derived.Test.YtdiakjamahdcfaaQ0
namespace Go.Proofs.Ytdiakjamahdcfaa.Pure
open Go.RowKit Go.Proofs.Ytdiakjamahdcfaa.V Go.Proofs.YtdiakjamahdcfaaW.PrintWords Go.Proofs.YtdiakjamahdcfaaW.PrintLast Go.Proofs.YtdiakjamahdcfaaW.PrintMore

/-- is (a, b) a place of the lines? -/
def PlaceP (l : List ByteArray) (a b : Int) : Prop := 0 ≤ a ∧ a < l.length ∧ 0 ≤ b ∧ b ≤ (rdOf ByteArray.empty l a).size
instance (l : List ByteArray) (a b : Int) : Decidable (PlaceP l a b) := by unfold PlaceP; infer_instance

theorem place_class (l : List ByteArray) (a b : Int) : class_Place.f l a b = some (decide (PlaceP l a b)) := by
  unfold class_Place.f
  by_cases h1 : a ≥ 0
  · rw [if_pos h1]
    by_cases h2 : a < l.length
    · rw [if_pos h2]
      by_cases h3 : b ≥ 0
      · rw [if_pos h3, if_pos h1]
        congr 1
        simp only [decide_eq_decide]
        exact ⟨fun h => ⟨h1, h2, h3, h⟩, fun h => h.2.2.2⟩
      · rw [if_neg h3, decide_eq_false (fun h => h3 h.2.2.1)]
    · rw [if_neg h2, decide_eq_false (fun h => h2 h.2.1)]
  · rw [if_neg h1, decide_eq_false (fun h => h1 h.1)]

/-- the place that two numbers name. -/
theorem seat_place {l : List ByteArray} (hl : Small l) (a b : Int) (ha : 0 ≤ a) (ha2 : a ≤ 65535) (hb : 0 ≤ b) (hb2 : b ≤ 65535) :
    ∃ x y, foolscapseat_Place.f l a b = some (x, y) ∧ PlaceP l x y := by
  obtain ⟨h1, h2, h3⟩ := hl
  have e : Int.tmod a l.length = a % l.length := Int.tmod_eq_emod_of_nonneg ha
  have g0 : 0 ≤ a % (l.length : Int) := Int.emod_nonneg _ (by omega)
  have g1 : a % (l.length : Int) < l.length := Int.emod_lt_of_pos _ (by omega)
  have hz := Small.at ⟨h1, h2, h3⟩ g0 g1
  unfold foolscapseat_Place.f
  rw [if_neg (by omega), w64 (x := a) (by omega) (by omega), e, if_pos g0, if_pos g1, w64 (x := b) (by omega) (by omega), w64 (x := ((rdOf ByteArray.empty l (a % (l.length : Int))).size : Int) + 1) (by omega) (by omega), if_neg (by omega)]
  refine ⟨_, _, rfl, g0, g1, ?_, ?_⟩
  · rw [Int.tmod_eq_emod_of_nonneg hb]
    exact Int.emod_nonneg _ (by omega)
  · rw [Int.tmod_eq_emod_of_nonneg hb]
    have := Int.emod_lt_of_pos b (b := ((rdOf ByteArray.empty l (a % (l.length : Int))).size : Int) + 1) (by omega)
    omega

end Go.Proofs.Ytdiakjamahdcfaa.Pure
