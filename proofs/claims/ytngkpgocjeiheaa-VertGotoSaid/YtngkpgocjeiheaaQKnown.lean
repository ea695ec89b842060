/- Proved here: the chapter's example holds of the program. -/
import Derived.Test.YtngkpgocjeiheaaFFoolscaplaw9Known
namespace Go.Proofs.Ytngkpgocjeiheaa.Pure
open Go.RowKit Go.Proofs.Ytngkpgocjeiheaa.V Go.Proofs.YtngkpgocjeiheaaW.PrintWords Go.Proofs.YtngkpgocjeiheaaW.PrintLast Go.Proofs.YtngkpgocjeiheaaW.PrintMore

theorem known_true (k : Nat) (hk : 20 ≤ k) : foolscaplaw9_known.f k = some true := at_rounds foolscaplaw9_known.mono hk (by decide +kernel)

end Go.Proofs.Ytngkpgocjeiheaa.Pure
