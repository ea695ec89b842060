/- Proved here: the program's motions left and right, as plain functions. -/
import Derived.Test.YtdiakjamahdcfaaFCharsLeft
import Derived.Test.YtdiakjamahdcfaaFCharsRight
import Derived.Test.YtdiakjamahdcfaaQFail
namespace Go.Proofs.Ytdiakjamahdcfaa.Pure
open Go.RowKit Go.Proofs.Ytdiakjamahdcfaa.V Go.Proofs.YtdiakjamahdcfaaW.PrintWords Go.Proofs.YtdiakjamahdcfaaW.PrintLast Go.Proofs.YtdiakjamahdcfaaW.PrintMore

/-- the motion left. -/
def leftS (l : List ByteArray) (p0 p1 n : Int) : Mv := if (PlaceP l p0 p1 ∧ 1 ≤ n) ∧ p1 ≠ 0 then (p0, p1 - mn n p1, 0, false, -1, true) else no
/-- how far right a motion may lead. -/
def edge (l : List ByteArray) (p0 : Int) (past : Bool) : Int := if past = true then (rdOf ByteArray.empty l p0).size else (rdOf ByteArray.empty l p0).size - 1
/-- the motion right. -/
def rightS (l : List ByteArray) (p0 p1 n : Int) (past : Bool) : Mv :=
  if (PlaceP l p0 p1 ∧ 1 ≤ n) ∧ (rdOf ByteArray.empty l p0).size ≠ 0 ∧ p1 < edge l p0 past then (p0, p1 + mn n (edge l p0 past - p1), 0, false, -1, true) else no

theorem left_chars {l : List ByteArray} (hl : Small l) (p0 p1 n : Int) : chars_Left.f l p0 p1 n = some (leftS l p0 p1 n) := by
  unfold chars_Left.f leftS
  rw [fails_chars]
  simp only [Option.bind_some, chars_to.f]
  by_cases hp : PlaceP l p0 p1 ∧ 1 ≤ n
  · rw [decide_eq_true hp, Bool.not_true, if_neg (by decide)]
    by_cases h0 : p1 = 0
    · rw [if_pos h0, if_neg (fun h => h.2 h0)]
    · obtain ⟨⟨a1, a2, a3, a4⟩, h1⟩ := id hp
      have hz := hl.at a1 a2
      have hm : 0 ≤ mn n p1 ∧ mn n p1 ≤ p1 := by unfold mn; split <;> omega
      rw [if_neg h0, if_pos ⟨hp, h0⟩, w64 (by omega) (by omega)]
  · rw [decide_eq_false hp, Bool.not_false, if_pos rfl, if_neg (fun h => hp h.1)]

theorem empty_line (s : ByteArray) : (s.toList == ([] : List UInt8)) = decide (s.size = 0) := by
  have h : s.toList = s.data.toList := ByteArray.toList_eq s
  rw [h]
  have : s.size = s.data.toList.length := by simp
  rw [this]
  cases s.data.toList <;> rfl

theorem right_chars {l : List ByteArray} (hl : Small l) (p0 p1 n : Int) (past : Bool) (k : Nat) (hk : 1 ≤ k) : chars_Right.f k l p0 p1 n past = some (rightS l p0 p1 n past) := by
  obtain ⟨k, rfl⟩ : ∃ m, k = m + 1 := ⟨k - 1, by omega⟩
  unfold chars_Right.f rightS
  rw [fails_chars]
  simp only [Option.bind_some, chars_Right.j0, chars_to.f]
  by_cases hp : PlaceP l p0 p1 ∧ 1 ≤ n
  · rw [decide_eq_true hp, Bool.not_true, if_neg (by decide)]
    obtain ⟨⟨a1, a2, a3, a4⟩, h1⟩ := id hp
    have hz := hl.at a1 a2
    rw [if_pos a1, if_pos a2, empty_line]
    by_cases h0 : (rdOf ByteArray.empty l p0).size = 0
    · rw [decide_eq_true h0, if_pos rfl, if_neg (fun h => h.2.1 h0)]
    · rw [decide_eq_false h0, if_neg (by decide), if_pos a1, if_pos a2, w64 (x := ((rdOf ByteArray.empty l p0).size : Int) - 1) (by omega) (by omega), w64 (x := ((rdOf ByteArray.empty l p0).size : Int) - 1 + 1) (by omega) (by omega)]
      cases past with
      | true =>
        simp only [edge, if_true]
        by_cases h2 : p1 ≥ ((rdOf ByteArray.empty l p0).size : Int) - 1 + 1
        · rw [if_pos h2, if_neg (fun h => by omega)]
        · have hm : 0 ≤ mn n (((rdOf ByteArray.empty l p0).size : Int) - p1) ∧ mn n (((rdOf ByteArray.empty l p0).size : Int) - p1) ≤ ((rdOf ByteArray.empty l p0).size : Int) - p1 := by unfold mn; split <;> omega
          rw [if_neg h2, if_pos ⟨hp, h0, by omega⟩, w64 (x := ((rdOf ByteArray.empty l p0).size : Int) - 1 + 1 - p1) (by omega) (by omega),
            show ((rdOf ByteArray.empty l p0).size : Int) - 1 + 1 - p1 = (rdOf ByteArray.empty l p0).size - p1 by omega, w64 (by omega) (by omega)]
      | false =>
        simp only [edge, Bool.false_eq_true, if_false]
        by_cases h2 : p1 ≥ ((rdOf ByteArray.empty l p0).size : Int) - 1
        · rw [if_pos h2, if_neg (fun h => by omega)]
        · have hm : 0 ≤ mn n (((rdOf ByteArray.empty l p0).size : Int) - 1 - p1) ∧ mn n (((rdOf ByteArray.empty l p0).size : Int) - 1 - p1) ≤ ((rdOf ByteArray.empty l p0).size : Int) - 1 - p1 := by unfold mn; split <;> omega
          rw [if_neg h2, if_pos ⟨hp, h0, by omega⟩, w64 (x := ((rdOf ByteArray.empty l p0).size : Int) - 1 - p1) (by omega) (by omega), w64 (by omega) (by omega)]
  · rw [decide_eq_false hp, Bool.not_false, if_pos rfl, if_pos trivial, if_neg (fun h => hp h.1)]

end Go.Proofs.Ytdiakjamahdcfaa.Pure
