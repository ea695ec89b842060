/- Proved here: the program's motion to a line by its number. -/
import Derived.Test.YtngkpgocjeiheaaFVertGoto
import Derived.Test.YtngkpgocjeiheaaQ3
namespace Go.Proofs.Ytngkpgocjeiheaa.Pure
open Go.RowKit Go.Proofs.Ytngkpgocjeiheaa.V Go.Proofs.YtngkpgocjeiheaaW.PrintWords Go.Proofs.YtngkpgocjeiheaaW.PrintLast Go.Proofs.YtngkpgocjeiheaaW.PrintMore

theorem goto_vert {l : List ByteArray} (hl : Small l) (p0 p1 n : Int) (k : Nat) (hk : 1300 ≤ k) :
    vert_Goto.f k l p0 p1 n = some (if 1 ≤ n ∧ PlaceP l p0 p1 then lineS l (n - 1) true else no) := by
  unfold vert_Goto.f
  have h40 := hl.2.1
  by_cases h : n < 1
  · rw [if_pos h, if_neg (by omega)]
  · rw [if_neg h]
    by_cases h2 : n > l.length
    · rw [if_pos h2]
      unfold lineS
      split
      · rw [if_neg (by omega)]
      · rfl
    · rw [if_neg h2, place_class]
      simp only [Option.bind_some]
      by_cases hp : PlaceP l p0 p1
      · rw [decide_eq_true hp, if_pos rfl, w64 (by omega) (by omega), first_vert hl (t := n - 1) (by omega) (by omega) k hk, if_pos ⟨by omega, hp⟩]
        unfold lineS
        rw [if_pos (by omega)]
        rfl
      · rw [decide_eq_false hp, if_neg (by decide), if_neg (fun h => hp h.2)]


end Go.Proofs.Ytngkpgocjeiheaa.Pure
