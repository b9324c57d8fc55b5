/- A walk that stops ahead of a region. -/
import Derived.Test.YtmblpmegfmgjgaaGreatDoorVcMeet
import Derived.Test.YtmblpmegfmgjgaaGreatDoorR6
set_option linter.unusedVariables false
set_option linter.unusedSimpArgs false
namespace Go.Vc
open Go
structure StopN (p:Prop):Prop where x:p
theorem codeI.stop {T:Tab} {Q:Post} {ρ:Env} {h:Heap} {L:Own} (id:Nat) {ops:Array Oper} {dr:Bool} {b:Code} (x:StopN (SeqN (codeI T (.region id ops dr)) (codeI T b) (wr (.region id ops dr)) Q ρ h L)):codeI T (.seq (.region id ops dr) b) Q ρ h L:=codeI.seqN x.x
theorem codeI.stopS {T:Tab} {Q:Post} {ρ:Env} {h:Heap} {L:Own} (id:Nat) {ops:Array Oper} {dr:Bool} {b c:Code} (x:StopN (SeqN (codeI T (.seq (.region id ops dr) c)) (codeI T b) (wr (.seq (.region id ops dr) c)) Q ρ h L)):codeI T (.seq (.seq (.region id ops dr) c) b) Q ρ h L:=codeI.seqN x.x
theorem codeI.stopB {T:Tab} {Q:Post} {ρ:Env} {h:Heap} {L:Own} (id:Nat) {b c:Code} (x:StopN (SeqN (codeI T (.block id c)) (codeI T b) (wr (.block id c)) Q ρ h L)):codeI T (.seq (.block id c) b) Q ρ h L:=codeI.seqN x.x
end Go.Vc