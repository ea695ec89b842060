/- Proved here: the chapter's example holds of the program. -/
import Derived.Test.YtdiakjamahdcfaaFFoolscaplaw7Known
namespace Go.Proofs.Ytdiakjamahdcfaa.Pure
open Go.RowKit Go.Proofs.Ytdiakjamahdcfaa.V Go.Proofs.YtdiakjamahdcfaaW.PrintWords Go.Proofs.YtdiakjamahdcfaaW.PrintLast Go.Proofs.YtdiakjamahdcfaaW.PrintMore

theorem known_true (k : Nat) (hk : 20 ≤ k) : foolscaplaw7_known.f k = some true := at_rounds foolscaplaw7_known.mono hk (by decide +kernel)

end Go.Proofs.Ytdiakjamahdcfaa.Pure
