/- A walk that stops ahead of a region. -/
import Derived.Test.YtieblmbjldlaeaaGreatDoorVcMeet
import Derived.Test.YtieblmbjldlaeaaGreatDoorR6
set_option linter.all false
namespace Go.Vc
open Go
structure StopN (p:Prop):Prop where x:p
theorem cI.stopS {T:Tab} {Q:eL} {ρ:Env} {h:aA} {L:Own} (id:Nat) {ops:Array Oper} {dr:Bool} {b c:Code} (x:StopN (aX (cI T (.seq (.region id ops dr) c)) (cI T b) (wr (.seq (.region id ops dr) c)) Q ρ h L)):cI T (.seq (.seq (.region id ops dr) c) b) Q ρ h L:=cI.seqN x.x
end Go.Vc