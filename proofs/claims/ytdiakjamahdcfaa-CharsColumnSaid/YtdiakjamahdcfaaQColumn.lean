/- Proved here: the program's motions to a column and to a line's end, as plain functions. -/
import Derived.Test.YtdiakjamahdcfaaFCharsLast
import Derived.Test.YtdiakjamahdcfaaFCharsColumn
import Derived.Test.YtdiakjamahdcfaaQFail
namespace Go.Proofs.Ytdiakjamahdcfaa.Pure
open Go.RowKit Go.Proofs.Ytdiakjamahdcfaa.V Go.Proofs.YtdiakjamahdcfaaW.PrintWords Go.Proofs.YtdiakjamahdcfaaW.PrintLast Go.Proofs.YtdiakjamahdcfaaW.PrintMore

/-- the last byte's column. -/
def lastS (l : List ByteArray) (t : Int) : Int := mx (((rdOf ByteArray.empty l t).size : Int) - 1) 0
/-- the motion to a line's end, n - 1 lines below. -/
def endS2 (l : List ByteArray) (p0 p1 n : Int) : Mv := if (PlaceP l p0 p1 ∧ 1 ≤ n) ∧ n ≤ l.length - p0 then (p0 + n - 1, lastS l (p0 + n - 1), 1, false, 1073741824, true) else no
/-- the motion to a column. -/
def columnS (l : List ByteArray) (p0 p1 n : Int) : Mv := if PlaceP l p0 p1 ∧ 1 ≤ n then (p0, mn (mn n 1073741824 - 1) (lastS l p0), 0, false, mn n 1073741824 - 1, true) else no

theorem mn_cap {n : Int} (h : 1 ≤ n) : 1 ≤ mn n 1073741824 ∧ mn n 1073741824 ≤ 1073741824 ∧ mn n 1073741824 ≤ n := by unfold mn; split <;> omega

theorem last_chars {l : List ByteArray} (hl : Small l) (p0 p1 n : Int) : chars_Last.f l p0 p1 n = some (endS2 l p0 p1 n) := by
  unfold chars_Last.f endS2
  rw [fails_chars]
  simp only [Option.bind_some]
  by_cases hp : PlaceP l p0 p1 ∧ 1 ≤ n
  · rw [decide_eq_true hp, Bool.not_true, if_neg (by decide)]
    obtain ⟨⟨a1, a2, a3, a4⟩, h1⟩ := id hp
    have h40 := hl.2.1
    rw [w64 (x := (l.length : Int) - p0) (by omega) (by omega)]
    by_cases h2 : n > l.length - p0
    · rw [if_pos h2, if_neg (fun h => by omega)]
    · have hz := hl.at (j := p0 + n - 1) (by omega) (by omega)
      rw [if_neg h2, w64 (x := p0 + n) (by omega) (by omega), w64 (x := p0 + n - 1) (by omega) (by omega), if_pos (by omega), if_pos (by omega), if_pos ⟨hp, by omega⟩, w64 (by omega) (by omega)]
      rfl
  · rw [decide_eq_false hp, Bool.not_false, if_pos rfl, if_neg (fun h => hp h.1)]

theorem column_chars {l : List ByteArray} (hl : Small l) (p0 p1 n : Int) : chars_Column.f l p0 p1 n = some (columnS l p0 p1 n) := by
  unfold chars_Column.f columnS
  rw [fails_chars]
  simp only [Option.bind_some, chars_to.f]
  by_cases hp : PlaceP l p0 p1 ∧ 1 ≤ n
  · rw [decide_eq_true hp, Bool.not_true, if_neg (by decide), if_pos hp]
    obtain ⟨⟨a1, a2, a3, a4⟩, h1⟩ := hp
    have hz := hl.at a1 a2
    have hc := mn_cap h1
    rw [if_pos a1, if_pos a2, w64 (x := mn n 1073741824 - 1) (by omega) (by omega), w64 (by omega) (by omega)]
    rfl
  · rw [decide_eq_false hp, Bool.not_false, if_pos rfl, if_neg hp]

end Go.Proofs.Ytdiakjamahdcfaa.Pure
