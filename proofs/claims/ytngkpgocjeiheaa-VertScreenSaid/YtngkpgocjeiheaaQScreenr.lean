/- Proved here: the reference's motion to a line of the window is the same plain function. -/
import Derived.Test.YtngkpgocjeiheaaFFoolscapref5Screen
import Derived.Test.YtngkpgocjeiheaaFFoolscaplaw9Same
import Derived.Test.YtngkpgocjeiheaaQScreen
import Derived.Test.YtngkpgocjeiheaaQ2r
import Derived.Test.YtngkpgocjeiheaaQ3r
namespace Go.Proofs.Ytngkpgocjeiheaa.Pure
open Go.RowKit Go.Proofs.Ytngkpgocjeiheaa.V Go.Proofs.YtngkpgocjeiheaaW.PrintWords Go.Proofs.YtngkpgocjeiheaaW.PrintLast Go.Proofs.YtngkpgocjeiheaaW.PrintMore

theorem screen_ref {l : List ByteArray} (hl : Small l) (p0 p1 top key n : Int) (k : Nat) (hk : 1400 ≤ k) :
    foolscapref5_Screen.f k l p0 p1 top key n = some (screenS l p0 p1 top key n) := by
  obtain ⟨k, rfl⟩ : ∃ m, k = m + 1 := ⟨k - 1, by omega⟩
  unfold foolscapref5_Screen.f screenS
  rw [may_ref]
  simp only [foolscapref5_Screen.j0, foolscapref5_none.f, Option.bind_some]
  rw [show mx top 0 = topS top from rfl]
  by_cases hp : PlaceP l p0 p1 ∧ 1 ≤ n
  · rw [decide_eq_true hp, if_pos rfl]
    by_cases h2 : topS top ≥ l.length
    · rw [decide_eq_true h2, if_pos rfl, if_neg (by omega)]
    · obtain ⟨w1, w2, w3, w4, w5, w6, w7⟩ := win hl (top := top) (n := n) (by omega) (by omega)
      rw [decide_eq_false h2, if_neg (by decide), if_pos (show 1 ≤ n ∧ PlaceP l p0 p1 ∧ topS top < l.length from ⟨hp.2, hp.1, by omega⟩), w64 (x := (l.length : Int) - topS top) (by omega) (by omega)]
      rw [show mn 10 ((l.length : Int) - topS top) = cntS l top from rfl, show mn n (cntS l top) = numS l top n from rfl]
      by_cases k1 : key = 72
      · rw [if_pos k1, if_pos k1, w64 (x := topS top + numS l top n) (by omega) (by omega), w64 (x := topS top + numS l top n - 1) (by omega) (by omega), line_ref hl _ true k (by omega)]
        rfl
      · rw [if_neg k1, if_neg k1]
        by_cases k2 : key = 76
        · rw [if_pos k2, if_pos k2, w64 (x := topS top + cntS l top) (by omega) (by omega), w64 (x := topS top + cntS l top - numS l top n) (by omega) (by omega), line_ref hl _ true k (by omega)]
          rfl
        · rw [if_neg k2, if_neg k2]
          by_cases k3 : key = 77
          · rw [if_pos k3, if_pos k3, w64 (x := cntS l top - 1) (by omega) (by omega), Int.tdiv_eq_ediv_of_nonneg (by omega), w64 (x := (cntS l top - 1) / 2) (by omega) (by omega), w64 (x := topS top + (cntS l top - 1) / 2) (by omega) (by omega), line_ref hl _ true k (by omega)]
            rfl
          · rw [if_neg k3, if_neg k3]
  · rw [decide_eq_false hp, if_neg (by decide), if_pos trivial, if_neg (fun h => hp ⟨h.2.1, h.1⟩)]

theorem same_self (r : Mv) : foolscaplaw9_same.f r.1 r.2.1 r.2.2.1 r.2.2.2.1 r.2.2.2.2.1 r.2.2.2.2.2 r.1 r.2.1 r.2.2.1 r.2.2.2.1 r.2.2.2.2.1 r.2.2.2.2.2 = some true := by
  unfold foolscaplaw9_same.f
  rw [if_pos (by simp)]
  simp

end Go.Proofs.Ytngkpgocjeiheaa.Pure
