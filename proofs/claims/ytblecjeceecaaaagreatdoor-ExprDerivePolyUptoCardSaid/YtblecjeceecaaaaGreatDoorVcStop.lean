/- A walk that stops ahead of a region. -/
import Derived.Test.YtblecjeceecaaaaGreatDoorVcMeet
import Derived.Test.YtblecjeceecaaaaGreatDoorR6
set_option linter.all false
namespace Go.Vc
open Go
structure bG2 (p:Prop):Prop where x:p
theorem cI.stop{T:Tab}{Q:iA}{ρ:Env}{h:aA}{L:Own}(id:Nat){ops:Array Oper}{dr:Bool}{b:Code}(x:bG2 (bJ (cI T (.region id ops dr)) (cI T b) (wr (.region id ops dr)) Q ρ h L)):cI T (.seq (.region id ops dr) b) Q ρ h L:=cI.seqN x.x
theorem cI.stopS{T:Tab}{Q:iA}{ρ:Env}{h:aA}{L:Own}(id:Nat){ops:Array Oper}{dr:Bool}{b c:Code}(x:bG2 (bJ (cI T (.seq (.region id ops dr) c)) (cI T b) (wr (.seq (.region id ops dr) c)) Q ρ h L)):cI T (.seq (.seq (.region id ops dr) c) b) Q ρ h L:=cI.seqN x.x
theorem cI.stopB{T:Tab}{Q:iA}{ρ:Env}{h:aA}{L:Own}(id:Nat){b c:Code}(x:bG2 (bJ (cI T (.block id c)) (cI T b) (wr (.block id c)) Q ρ h L)):cI T (.seq (.block id c) b) Q ρ h L:=cI.seqN x.x
end Go.Vc