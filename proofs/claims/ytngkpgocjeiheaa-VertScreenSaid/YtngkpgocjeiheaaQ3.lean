/- Proved here: the program's motion to a line. -/
import Derived.Test.YtngkpgocjeiheaaFVertFirst
import Derived.Test.YtngkpgocjeiheaaQ1
import Derived.Test.YtngkpgocjeiheaaQ2
namespace Go.Proofs.Ytngkpgocjeiheaa.Pure
open Go.RowKit Go.Proofs.Ytngkpgocjeiheaa.V Go.Proofs.YtngkpgocjeiheaaW.PrintWords Go.Proofs.YtngkpgocjeiheaaW.PrintLast Go.Proofs.YtngkpgocjeiheaaW.PrintMore

/-- the move to a line. -/
def lineS (l : List ByteArray) (t : Int) (jump : Bool) : Mv :=
  if 0 ≤ t ∧ t < l.length then (t, firstS (rdOf ByteArray.empty l t) 0, 2, jump, -1, true) else no

theorem first_vert {l : List ByteArray} (hl : Small l) {t : Int} (h0 : 0 ≤ t) (h1 : t < l.length) (k : Nat) (hk : 1300 ≤ k) :
    vert_first.f k l t = some (t, firstS (rdOf ByteArray.empty l t) 0, 2, false, -1) := by
  have hz := hl.at h0 h1
  unfold vert_first.f
  rw [if_pos h0, if_pos h1, first_class _ (by omega) k (by omega)]
  rfl


end Go.Proofs.Ytngkpgocjeiheaa.Pure
