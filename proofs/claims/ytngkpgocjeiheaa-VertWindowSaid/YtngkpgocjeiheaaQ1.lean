/- Proved here: the program's and the reference's class of a byte, and first byte that is no blank, are the same plain functions. -/
import Derived.Test.YtngkpgocjeiheaaFClassFirst
import Derived.Test.YtngkpgocjeiheaaFFoolscapref5First
import Derived.Test.YtngkpgocjeiheaaQ0
namespace Go.Proofs.Ytngkpgocjeiheaa.Pure
open Go.RowKit Go.Proofs.Ytngkpgocjeiheaa.V Go.Proofs.YtngkpgocjeiheaaW.PrintWords Go.Proofs.YtngkpgocjeiheaaW.PrintLast Go.Proofs.YtngkpgocjeiheaaW.PrintMore

theorem of_class (k : Nat) (c : Int) (b : Bool) (hk : 5 ≤ k) : class_Of.f k c b = some (ofS c b) := by
  obtain ⟨k, rfl⟩ : ∃ m, k = m + 1 + 1 + 1 + 1 + 1 := ⟨k - 5, by omega⟩
  unfold class_Of.f
  simp only [class_Of.j0, class_Of.j1, class_Of.j2, class_Of.j3]
  by_cases h1 : c = 32
  · subst h1; simp [ofS]
  · rw [if_neg h1]
    by_cases h2 : c = 9
    · subst h2; simp [ofS]
    · have h3 : (c == 9) = false := by simpa using h2
      rw [ofS_else h1 h2]
      simp only [h3, Bool.false_eq_true, if_false]
      cases b with
      | true => rfl
      | false =>
        simp only [Bool.false_eq_true, if_false]
        (repeat' split) <;> first | rfl | (exfalso; (try simp only [decide_eq_true_eq] at *); omega)

theorem of_ref (k : Nat) (c : Int) (b : Bool) (hk : 1 ≤ k) : foolscapref5_Of.f k c b = some (ofS c b) := by
  obtain ⟨k, rfl⟩ : ∃ m, k = m + 1 := ⟨k - 1, by omega⟩
  unfold foolscapref5_Of.f
  simp only [foolscapref5_Of.j0]
  by_cases h1 : c = 32
  · subst h1; simp [ofS]
  · rw [if_neg h1]
    by_cases h2 : c = 9
    · subst h2; simp [ofS]
    · have h3 : (c == 9) = false := by simpa using h2
      rw [ofS_else h1 h2]
      simp only [h3, Bool.false_eq_true, if_false]
      cases b with
      | true => rfl
      | false =>
        simp only [Bool.false_eq_true, if_false]
        (repeat' split) <;> first | rfl | (exfalso; omega)

/-- the first byte that is no blank, from i on. -/
def firstS (s : ByteArray) (i : Nat) : Int :=
  if i < s.size then (if ofS (bt s i) true = 0 then firstS s (i + 1) else i) else mx ((s.size : Int) - 1) 0
termination_by s.size - i

theorem first_class_l (s : ByteArray) (hs : s.size ≤ 140737488351232) (d : Nat) : ∀ (k i : Nat), i ≤ s.size → s.size - i = d → d + 6 ≤ k →
    class_First.l0 k s (s.size : Int) (i : Int) = some (firstS s i) := by
  induction d with
  | zero =>
    intro k i hi hd hk
    obtain ⟨k, rfl⟩ : ∃ m, k = m + 1 := ⟨k - 1, by omega⟩
    simp only [class_First.l0]
    unfold firstS
    rw [if_neg (by omega), if_neg (by omega), w64 (by omega) (by omega)]
  | succ d ih =>
    intro k i hi hd hk
    obtain ⟨k, rfl⟩ : ∃ m, k = m + 1 := ⟨k - 1, by omega⟩
    simp only [class_First.l0]
    unfold firstS
    rw [if_pos (by omega), if_pos (by omega), if_pos (by omega), if_pos (by omega), of_class k _ _ (by omega)]
    simp only [Option.bind_some]
    split
    · rw [w64 (by omega) (by omega)]
      exact ih k (i + 1) (by omega) (by omega) (by omega)
    · rfl

theorem first_class (s : ByteArray) (hs : s.size ≤ 140737488351232) (k : Nat) (hk : s.size + 6 ≤ k) : class_First.f k s = some (firstS s 0) := by
  unfold class_First.f
  exact first_class_l s hs s.size k 0 (by omega) (by omega) (by omega)

theorem first_ref_l (s : ByteArray) (hs : s.size ≤ 140737488351232) (d : Nat) : ∀ (k i : Nat), i ≤ s.size → s.size - i = d → d + 6 ≤ k →
    foolscapref5_First.l0 k s (i : Int) = some (firstS s i) := by
  induction d with
  | zero =>
    intro k i hi hd hk
    obtain ⟨k, rfl⟩ : ∃ m, k = m + 1 := ⟨k - 1, by omega⟩
    simp only [foolscapref5_First.l0]
    unfold firstS
    rw [if_neg (by omega), if_neg (by omega), w64 (by omega) (by omega)]
  | succ d ih =>
    intro k i hi hd hk
    obtain ⟨k, rfl⟩ : ∃ m, k = m + 1 := ⟨k - 1, by omega⟩
    simp only [foolscapref5_First.l0]
    unfold firstS
    rw [if_pos (by omega), if_pos (by omega), if_pos (by omega), of_ref k _ _ (by omega)]
    simp only [Option.bind_some]
    split
    · rw [w64 (by omega) (by omega)]
      exact ih k (i + 1) (by omega) (by omega) (by omega)
    · rfl

theorem first_ref (s : ByteArray) (hs : s.size ≤ 140737488351232) (k : Nat) (hk : s.size + 6 ≤ k) : foolscapref5_First.f k s = some (firstS s 0) := by
  unfold foolscapref5_First.f
  exact first_ref_l s hs s.size k 0 (by omega) (by omega) (by omega)



end Go.Proofs.Ytngkpgocjeiheaa.Pure
