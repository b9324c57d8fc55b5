/- The first case distinction resolved: the reference's side. -/
import Derived.Test.YtmblpmegfmgjgaaGreatDoorE48
set_option linter.unusedVariables false
set_option linter.unusedSimpArgs false
namespace Go.Proofs.YtmblpmegfmgjgaaGreatDoor
open Go Go.Vc Go.Dig
end Go.Proofs.YtmblpmegfmgjgaaGreatDoor