/- Periods: plain. -/
import Derived.Test.YtmblpmegfmgjgaaGreatDoorE38
import Derived.Test.YtmblpmegfmgjgaaGreatDoorE37
import Derived.Test.YtmblpmegfmgjgaaGreatDoorE23
set_option linter.unusedVariables false
set_option linter.unusedSimpArgs false
namespace Go.Proofs.YtmblpmegfmgjgaaGreatDoor
open Go Go.Vc Go.Dig
mutual
def hasT (nm:List Nat):Tr→Bool
 | .mk op _ _ _ _ name ks=>decide (op=2∧name=nm) || hasTs nm ks
def hasTs (nm:List Nat):List Tr→Bool
 | []=>false
 | t::ts=>hasT nm t || hasTs nm ts
end
def litT:Tr→Option Rat
 | .mk op _ neg l m _ ks=>if op=1 then some (ratOf neg l m) else if op=4 then (match ks with
   | .mk op' _ neg' l' m' _ _::_=>if op'=1 then some (-(ratOf neg' l' m')) else none
   | []=>none) else none
def intL (t:Tr):Bool:=match litT t with | some q=>decide (q.den=1) | none=>false
def linF (nm:List Nat):Nat→Tr→Bool
 | 0,_=>false
 | f+1,.mk op _ _ _ _ name ks=>if op=2 then decide (name=nm) else if op=4 then linF nm f (ks.getD 0 zeroT) else
   if op=5∨op=6 then (linF nm f (ks.getD 0 zeroT) || linF nm f (ks.getD 1 zeroT)) && (linF nm f (ks.getD 0 zeroT) || !hasT nm (ks.getD 0 zeroT)) && (linF nm f (ks.getD 1 zeroT) || !hasT nm (ks.getD 1 zeroT)) else
   if op=7 then (intL (ks.getD 0 zeroT) && linF nm f (ks.getD 1 zeroT)) || (intL (ks.getD 1 zeroT) && linF nm f (ks.getD 0 zeroT)) else false
def linT (nm:List Nat) (t:Tr):Bool:=linF nm (szT t) t
mutual
def perP (nm:List Nat):Tr→Bool
 | .mk op arg _ _ _ name ks=>if op=2 then decide (name≠nm) else if op=11∧3≤arg∧arg≤5∧linT nm (ks.getD 0 zeroT)=true then true else perPs nm ks
def perPs (nm:List Nat):List Tr→Bool
 | []=>true
 | t::ts=>perP nm t && perPs nm ts
end
mutual
def perR (nm:List Nat):Bool→Tr→Bool
 | w,.mk op arg _ _ _ name ks=>if op=2∧name=nm then w else perRs nm (if op=11∧3≤arg∧arg≤5 then linT nm (ks.getD 0 zeroT) else w) ks
def perRs (nm:List Nat):Bool→List Tr→Bool
 | _,[]=>true
 | w,t::ts=>perR nm w t && perRs nm w ts
end
end Go.Proofs.YtmblpmegfmgjgaaGreatDoor
/- Subst: plain. -/
namespace Go.Proofs.YtmblpmegfmgjgaaGreatDoor
open Go Go.Vc Go.Dig
def NmsB {α:Type} (bs:List (List Nat × α)):Prop:=(∀b∈bs,IsNm b.1)∧(bs.map (·.1)).Nodup
def ValB (bs:List (List Nat × Tr)):Prop:=∀b∈bs,ValT b.2
instance {α:Type} (bs:List (List Nat × α)):Decidable (NmsB bs):=by unfold NmsB;exact inferInstance
instance (bs:List (List Nat × Tr)):Decidable (ValB bs):=by unfold ValB;exact inferInstance
def substX (bs:List (List Nat × Tr)) (t:Tr):Tr × Nat:=if ¬(ValT t∧ValB bs) then (zeroT,40) else if ¬NmsB bs then (zeroT,41) else chkdT (rplT (byR bs) t)
def substY (bs:List (List Nat × Tr)) (t:Tr):Tr × Nat:=if ¬(ValT t∧ValB bs) then (zeroT,40) else if ¬NmsB bs then (zeroT,41) else if ValT (rplT (byR bs) t) then (rplT (byR bs) t,0) else (zeroT,4)
theorem chkd_agree (t:Tr):Agree (chkdT t) (if ValT t then (t,0) else (zeroT,4)):=by
 unfold chkdT
 by_cases h:ValT t
 ·rw [if_pos h,if_pos h]
  exact ⟨rfl,fun x=>absurd rfl x,fun _=>⟨okT_clone h.1,h.1,sameB_key.2 (key_clone h.1)⟩⟩
 ·rw [if_neg h,if_neg h]
  exact ⟨rfl,fun _=>rfl,fun x=>by cases x⟩
theorem subst_agree (bs:List (List Nat × Tr)) (t:Tr):Agree (substX bs t) (substY bs t):=by
 unfold substX substY
 by_cases h1:ValT t∧ValB bs
 ·have g1:¬¬(ValT t∧ValB bs):=fun x=>x h1
  rw [if_neg g1,if_neg g1]
  by_cases h2:NmsB bs
  ·have g2:¬¬NmsB bs:=fun x=>x h2
   rw [if_neg g2,if_neg g2]
   exact chkd_agree _
  ·rw [if_pos h2,if_pos h2]
   exact ⟨rfl,fun _=>rfl,fun x=>by cases x⟩
 ·rw [if_pos h1,if_pos h1]
  exact ⟨rfl,fun _=>rfl,fun x=>by cases x⟩
end Go.Proofs.YtmblpmegfmgjgaaGreatDoor
/- A range over the nodes of a tree: the iterator's contract; has, smooth. -/
namespace Go.Proofs.YtmblpmegfmgjgaaGreatDoor
open Go Go.Vc Go.Dig Go.RowKit Go.Shelf
attribute [local go_sem] Oper.semAt_some
end Go.Proofs.YtmblpmegfmgjgaaGreatDoor
/- Literals of a tree, on both sides; Has. -/
namespace Go.Proofs.YtmblpmegfmgjgaaGreatDoor
open Go Go.Vc Go.Dig
def LitF (h:Heap) (v:Value) (o:Option Rat):Prop:=∃(b:Bool) (c e:Sl) (i:Bool),v=.tuple #[.agg #[.bool b,c.val,e.val],.bool i]∧(i=true→∃q,o=some q∧Sz 64 q∧b=sg q∧IsFr h c e q)∧(i=false→o=none)
def LitQ (h:Heap) (v:Value) (o:Option Rat):Prop:=∃(b:Bool) (c e:Sl) (i:Bool),v=.tuple #[.agg #[.bool b,c.val,e.val],.bool i]∧(i=true→∃q,o=some q∧Sz 64 q∧b=sg q∧IsQ h c e q)∧(i=false→o=none)
end Go.Proofs.YtmblpmegfmgjgaaGreatDoor