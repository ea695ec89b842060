/- Proved here: the program's motions down and up. -/
import Derived.Test.YtngkpgocjeiheaaFVertDown
import Derived.Test.YtngkpgocjeiheaaFVertUp
import Derived.Test.YtngkpgocjeiheaaQ2
namespace Go.Proofs.Ytngkpgocjeiheaa.Pure
open Go.RowKit Go.Proofs.Ytngkpgocjeiheaa.V Go.Proofs.YtngkpgocjeiheaaW.PrintWords Go.Proofs.YtngkpgocjeiheaaW.PrintLast Go.Proofs.YtngkpgocjeiheaaW.PrintMore

/-- the move by lines that wants a column. -/
def vertS (l : List ByteArray) (p0 p1 n want : Int) (up : Bool) : Mv :=
  if PlaceP l p0 p1 ∧ 1 ≤ n ∧ (if up = true then n ≤ p0 else n < l.length - p0) then
    ((if up = true then p0 - n else p0 + n), mn (mn (mx want 0) 1073741824) (mx (((rdOf ByteArray.empty l (if up = true then p0 - n else p0 + n)).size : Int) - 1) 0), 2, false, mn (mx want 0) 1073741824, true)
  else no

theorem line_vert (l : List ByteArray) (hl : l.length ≤ 40) (p0 p1 n : Int) (hn : n < 9223372036854775808) (up : Bool) (k : Nat) (hk : 1 ≤ k) :
    ∃ t b, vert_line.f k l p0 p1 n up = some (t, b) ∧ (b = true ↔ 0 ≤ n ∧ PlaceP l p0 p1 ∧ (if up = true then n ≤ p0 else n < l.length - p0)) ∧ (b = true → t = if up = true then p0 - n else p0 + n) := by
  obtain ⟨k, rfl⟩ : ∃ m, k = m + 1 := ⟨k - 1, by omega⟩
  unfold vert_line.f
  simp only [vert_line.j0]
  by_cases h0 : n < 0
  · rw [if_pos h0, if_pos trivial]
    exact ⟨0, false, rfl, ⟨fun h => (by cases h), fun h => (by omega)⟩, fun h => (by cases h)⟩
  · rw [if_neg h0, place_class]
    simp only [Option.bind_some]
    by_cases hp : PlaceP l p0 p1
    · rw [decide_eq_true hp]
      simp only [Bool.not_true, Bool.false_eq_true, if_false]
      have hp' := hp
      obtain ⟨a1, a2, a3, a4⟩ := hp
      cases up with
      | true =>
        simp only [if_true]
        refine ⟨_, _, rfl, ?_, fun h => w64 (by omega) (by omega)⟩
        rw [decide_eq_true_iff]
        exact ⟨fun h => ⟨by omega, hp', h⟩, fun h => h.2.2⟩
      | false =>
        simp only [Bool.false_eq_true, if_false]
        have e1 : wrap64 ((l.length : Int) - p0) = l.length - p0 := w64 (by omega) (by omega)
        rw [e1]
        refine ⟨_, _, rfl, ?_, fun h => ?_⟩
        · rw [decide_eq_true_iff]
          exact ⟨fun h => ⟨by omega, hp', h⟩, fun h => h.2.2⟩
        · rw [decide_eq_true_iff] at h
          rw [mn_le (by omega)]
          exact w64 (by omega) (by omega)
    · rw [decide_eq_false hp]
      simp only [Bool.not_false, if_true]
      exact ⟨0, false, rfl, ⟨fun h => (by cases h), fun h => absurd h.2.1 hp⟩, fun h => (by cases h)⟩

theorem by_vert {l : List ByteArray} (hl : Small l) (p0 p1 n want : Int) (hn : n < 9223372036854775808) (up : Bool) (k : Nat) (hk : 1 ≤ k) :
    vert_by.f k l p0 p1 n want up = some (vertS l p0 p1 n want up) := by
  obtain ⟨t, b, h1, h2, h3⟩ := line_vert l hl.2.1 p0 p1 n hn up k hk
  unfold vert_by.f vertS
  rw [h1]
  simp only [Option.bind_some]
  cases b with
  | false =>
    rw [if_neg (by decide), if_neg]
    intro h
    exact absurd (h2.2 ⟨by omega, h.1, h.2.2⟩) (by decide)
  | true =>
    obtain ⟨g1, g2, g3⟩ := h2.1 rfl
    have g4 := h3 rfl
    rw [if_pos rfl]
    by_cases h5 : n < 1
    · rw [if_pos h5, if_neg (by omega)]
    · rw [if_neg h5]
      obtain ⟨a1, a2, a3, a4⟩ := id g2
      have ht : 0 ≤ t ∧ t < l.length := by cases up <;> simp at g3 g4 <;> omega
      have hz := hl.at ht.1 ht.2
      rw [if_pos ht.1, if_pos ht.2, if_pos ⟨g2, by omega, g3⟩, ← g4, w64 (by omega) (by omega)]

theorem down_vert {l : List ByteArray} (hl : Small l) (p0 p1 n want : Int) (hn : n < 9223372036854775808) (k : Nat) (hk : 1 ≤ k) :
    vert_Down.f k l p0 p1 n want = some (vertS l p0 p1 n want false) := by
  unfold vert_Down.f
  rw [by_vert hl p0 p1 n want hn false k hk]
  rfl

theorem up_vert {l : List ByteArray} (hl : Small l) (p0 p1 n want : Int) (hn : n < 9223372036854775808) (k : Nat) (hk : 1 ≤ k) :
    vert_Up.f k l p0 p1 n want = some (vertS l p0 p1 n want true) := by
  unfold vert_Up.f
  rw [by_vert hl p0 p1 n want hn true k hk]
  rfl


end Go.Proofs.Ytngkpgocjeiheaa.Pure
