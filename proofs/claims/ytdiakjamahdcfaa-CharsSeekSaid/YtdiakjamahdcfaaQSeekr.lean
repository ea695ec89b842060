/- Proved here: the reference's search within a line is the same plain function. -/
import Derived.Test.YtdiakjamahdcfaaFFoolscapref5Seek
import Derived.Test.YtdiakjamahdcfaaFFoolscaplaw7Same
import Derived.Test.YtdiakjamahdcfaaQSeek
import Derived.Test.YtdiakjamahdcfaaQ2r
namespace Go.Proofs.Ytdiakjamahdcfaa.Pure
open Go.RowKit Go.Proofs.Ytdiakjamahdcfaa.V Go.Proofs.YtdiakjamahdcfaaW.PrintWords Go.Proofs.YtdiakjamahdcfaaW.PrintLast Go.Proofs.YtdiakjamahdcfaaW.PrintMore

/-- what the reference makes of what is found. -/
def endS (key p0 : Int) : Option Nat → Mv
  | some j => if key = 102 then (p0, j, 1, false, -1, true) else if key = 116 then (p0, j - 1, 1, false, -1, true) else if key = 84 then (p0, j + 1, 0, false, -1, true) else (p0, j, 0, false, -1, true)
  | none => no

theorem ref_j6_no (key n at_ p0 p1 : Int) (h1 : 1 ≤ n) (k : Nat) (hk : 2 ≤ k) : foolscapref5_Seek.j6 k key n at_ p0 p1 = some no := by
  obtain ⟨k, rfl⟩ : ∃ m, k = m + 1 + 1 := ⟨k - 2, by omega⟩
  simp only [foolscapref5_Seek.j6, foolscapref5_Seek.j7, foolscapref5_none.f, Option.bind_some]
  rw [if_pos (by omega), if_pos trivial]

theorem ref_j6_yes (key p0 p1 : Int) (j : Nat) (hj : j ≤ 1200) (k : Nat) (hk : 2 ≤ k) : foolscapref5_Seek.j6 k key 0 (j : Int) p0 p1 = some (endS key p0 (some j)) := by
  obtain ⟨k, rfl⟩ : ∃ m, k = m + 1 + 1 := ⟨k - 2, by omega⟩
  simp only [foolscapref5_Seek.j6, foolscapref5_Seek.j7, foolscapref5_none.f, foolscapref5_to.f, Option.bind_some, endS]
  rw [if_neg (by omega), decide_eq_false (by omega), if_neg (by decide), w64 (by omega) (by omega), w64 (by omega) (by omega)]
  split
  · rfl
  · split
    · rfl
    · split <;> rfl

theorem ref_l0_end (key c p0 p1 at_ x : Int) (s : ByteArray) (k : Nat) (hk : 4 ≤ k) (j : Nat) (hj : j ≤ 1200) (h : at_ = j) : foolscapref5_Seek.l0 k key c 0 s at_ x p0 p1 = some (endS key p0 (some j)) := by
  obtain ⟨k, rfl⟩ : ∃ m, k = m + 1 + 1 := ⟨k - 2, by omega⟩
  simp only [foolscapref5_Seek.l0, foolscapref5_Seek.j2]
  rw [decide_eq_false (by omega)]
  simp only [Bool.false_eq_true, if_false, ite_self]
  rw [h]
  exact ref_j6_yes key p0 p1 j hj k (by omega)

theorem ref_l1_end (key c p0 p1 at_ x : Int) (s : ByteArray) (k : Nat) (hk : 4 ≤ k) (j : Nat) (hj : j ≤ 1200) (h : at_ = j) : foolscapref5_Seek.l1 k key c 0 s at_ x p0 p1 = some (endS key p0 (some j)) := by
  obtain ⟨k, rfl⟩ : ∃ m, k = m + 1 + 1 := ⟨k - 2, by omega⟩
  simp only [foolscapref5_Seek.l1, foolscapref5_Seek.j5]
  rw [decide_eq_false (by omega)]
  simp only [Bool.false_eq_true, if_false, ite_self]
  rw [h]
  exact ref_j6_yes key p0 p1 j hj k (by omega)

theorem ref_fwd (s : ByteArray) (hs : s.size ≤ 1200) (key c p0 p1 : Int) (d : Nat) : ∀ (k i : Nat) (n at_ : Int), s.size - i = d → 1 ≤ n → n < 9223372036854775808 → i ≤ 1201 → 2 * d + 6 ≤ k →
    foolscapref5_Seek.l0 k key c n s at_ (i : Int) p0 p1 = some (endS key p0 (fwd s c d i n)) := by
  induction d with
  | zero =>
    intro k i n at_ hd h1 hn hi hk
    obtain ⟨k, rfl⟩ : ∃ m, k = m + 1 + 1 := ⟨k - 2, by omega⟩
    simp only [foolscapref5_Seek.l0, foolscapref5_Seek.j2, fwd, endS]
    rw [if_neg (by omega), if_neg (by decide)]
    exact ref_j6_no key n at_ p0 p1 h1 k (by omega)
  | succ d ih =>
    intro k i n at_ hd h1 hn hi hk
    obtain ⟨k, rfl⟩ : ∃ m, k = m + 1 + 1 := ⟨k - 2, by omega⟩
    simp only [foolscapref5_Seek.l0, foolscapref5_Seek.j2, fwd]
    rw [if_pos (by omega), decide_eq_true (by omega), if_pos rfl, if_pos (by omega), if_pos (by omega), w64 (x := (i : Int) + 1) (by omega) (by omega)]
    by_cases h3 : bt s (i : Int) = c
    · rw [if_pos h3, if_pos h3, w64 (x := n - 1) (by omega) (by omega)]
      by_cases h4 : n = 1
      · rw [if_pos h4, h4, show (1 : Int) - 1 = 0 by omega]
        exact ref_l0_end key c p0 p1 _ _ s k (by omega) i (by omega) rfl
      · rw [if_neg h4]
        exact ih k (i + 1) (n - 1) _ (by omega) (by omega) (by omega) (by omega) (by omega)
    · rw [if_neg h3, if_neg h3]
      exact ih k (i + 1) n _ (by omega) h1 hn (by omega) (by omega)

theorem ref_bwd (s : ByteArray) (hs : s.size ≤ 1200) (key c p0 p1 : Int) (m : Nat) : ∀ (k : Nat) (n at_ : Int), m ≤ s.size → 1 ≤ n → n < 9223372036854775808 → 2 * m + 6 ≤ k →
    foolscapref5_Seek.l1 k key c n s at_ ((m : Int) - 1) p0 p1 = some (endS key p0 (bwd s c m n)) := by
  induction m with
  | zero =>
    intro k n at_ hd h1 hn hk
    obtain ⟨k, rfl⟩ : ∃ m, k = m + 1 + 1 := ⟨k - 2, by omega⟩
    simp only [foolscapref5_Seek.l1, foolscapref5_Seek.j5, bwd, endS]
    rw [if_neg (by omega), if_neg (by decide)]
    exact ref_j6_no key n at_ p0 p1 h1 k (by omega)
  | succ m ih =>
    intro k n at_ hd h1 hn hk
    obtain ⟨k, rfl⟩ : ∃ m, k = m + 1 + 1 := ⟨k - 2, by omega⟩
    simp only [foolscapref5_Seek.l1, foolscapref5_Seek.j5, bwd]
    rw [show ((m + 1 : Nat) : Int) - 1 = (m : Int) by omega, if_pos (by omega), decide_eq_true (by omega), if_pos rfl, if_pos (by omega), if_pos (by omega), w64 (x := (m : Int) - 1) (by omega) (by omega)]
    by_cases h3 : bt s (m : Int) = c
    · rw [if_pos h3, if_pos h3, w64 (x := n - 1) (by omega) (by omega)]
      by_cases h4 : n = 1
      · rw [if_pos h4, h4, show (1 : Int) - 1 = 0 by omega]
        exact ref_l1_end key c p0 p1 _ _ s k (by omega) m (by omega) rfl
      · rw [if_neg h4]
        exact ih k (n - 1) _ (by omega) (by omega) (by omega) (by omega)
    · rw [if_neg h3, if_neg h3]
      exact ih k n _ (by omega) h1 hn (by omega)

theorem seek_ref {l : List ByteArray} (hl : Small l) (p0 p1 key c n : Int) (hn : n < 9223372036854775808) (k : Nat) (hk : 4000 ≤ k) :
    foolscapref5_Seek.f k l p0 p1 key c n = some (seekS l p0 p1 key c n) := by
  obtain ⟨k, rfl⟩ : ∃ m, k = m + 1 + 1 + 1 := ⟨k - 3, by omega⟩
  unfold foolscapref5_Seek.f seekS
  rw [may_ref]
  simp only [Option.bind_some, foolscapref5_none.f]
  by_cases hp : PlaceP l p0 p1 ∧ 1 ≤ n
  · rw [decide_eq_true hp, if_pos rfl, if_pos hp]
    obtain ⟨hp, h1⟩ := hp
    obtain ⟨a1, a2, a3, a4⟩ := hp
    have hz := hl.at a1 a2
    have ec : ((p1.toNat : Nat) : Int) = p1 := by omega
    rw [if_pos a1, if_pos a2]
    have F : ∀ k, 3990 ≤ k → foolscapref5_Seek.l0 k key c n (rdOf ByteArray.empty l p0) (-1) (wrap64 (p1 + 1)) p0 p1 = some (endS key p0 (fwdAt l p0 p1 c n)) := by
      intro k hk
      have := ref_fwd _ hz key c p0 p1 ((rdOf ByteArray.empty l p0).size - (p1.toNat + 1)) k (p1.toNat + 1) n (-1) (by omega) h1 hn (by omega) (by omega)
      rw [w64 (by omega) (by omega), show p1 + 1 = ((p1.toNat + 1 : Nat) : Int) by omega]
      exact this
    have B : ∀ k, 3990 ≤ k → foolscapref5_Seek.l1 k key c n (rdOf ByteArray.empty l p0) (-1) (wrap64 ((mn p1 ((rdOf ByteArray.empty l p0).size : Int)) - 1)) p0 p1 = some (endS key p0 (bwdAt l p0 p1 c n)) := by
      intro k hk
      have := ref_bwd _ hz key c p0 p1 p1.toNat k n (-1) (by omega) h1 hn (by omega)
      rw [mn_le a4, w64 (by omega) (by omega)]
      rw [ec] at this
      exact this
    simp only [foolscapref5_Seek.j0, foolscapref5_Seek.j3]
    by_cases k1 : key = 102
    · rw [if_pos k1, if_pos k1, if_pos (by simpa using k1), F _ (by omega)]
      cases fwdAt l p0 p1 c n with
      | none => rfl
      | some j => simp [endS, foundS, k1]
    · rw [if_neg k1, if_neg k1]
      by_cases k2 : key = 116
      · rw [if_pos k2, if_pos (by simpa using k2), F _ (by omega)]
        cases fwdAt l p0 p1 c n with
        | none => rfl
        | some j => simp [endS, foundS, k2]; omega
      · rw [if_neg k2, if_neg (by simpa using k2)]
        by_cases k3 : key = 70
        · rw [if_pos k3, if_pos k3, if_pos (by simpa using k3), B _ (by omega)]
          cases bwdAt l p0 p1 c n with
          | none => rfl
          | some j => simp [endS, foundS, k3]
        · rw [if_neg k3, if_neg k3]
          by_cases k4 : key = 84
          · rw [if_pos k4, if_pos (by simpa using k4), B _ (by omega)]
            cases bwdAt l p0 p1 c n with
            | none => rfl
            | some j => simp [endS, foundS, k4]
          · rw [if_neg k4, if_neg (by simpa using k4), ref_j6_no key n _ p0 p1 h1 _ (by omega)]
  · rw [decide_eq_false hp, if_neg (by decide), if_neg hp]

theorem same_self (r : Mv) : foolscaplaw7_same.f r.1 r.2.1 r.2.2.1 r.2.2.2.1 r.2.2.2.2.1 r.2.2.2.2.2 r.1 r.2.1 r.2.2.1 r.2.2.2.1 r.2.2.2.2.1 r.2.2.2.2.2 = some true := by
  unfold foolscaplaw7_same.f
  rw [if_pos (by simp)]
  simp

end Go.Proofs.Ytdiakjamahdcfaa.Pure
