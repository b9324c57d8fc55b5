/- A rule more for whoever walks code: behind a region all ways meet; the slots that it writes are told once. -/
import Derived.Test.YtdccpmlhflpeaaaGreatDoorVcRule
set_option linter.all false
namespace Go.Vc
open Go
variable {T:Tab} {Q:fN} {ρ:Env} {h:aA} {L:Own}
end Go.Vc