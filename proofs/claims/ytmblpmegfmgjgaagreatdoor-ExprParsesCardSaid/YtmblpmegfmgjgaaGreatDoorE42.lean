/- Periods: plain. -/
import Derived.Test.YtmblpmegfmgjgaaGreatDoorE38
import Derived.Test.YtmblpmegfmgjgaaGreatDoorE37
import Derived.Test.YtmblpmegfmgjgaaGreatDoorE23
set_option linter.unusedVariables false
set_option linter.unusedSimpArgs false
namespace Go.Proofs.YtmblpmegfmgjgaaGreatDoor
open Go Go.Vc Go.Dig
mutual
def hasT (nm:List Nat):Tr→Bool
 | .mk op _ _ _ _ name ks=>decide (op=2∧name=nm) || hasTs nm ks
def hasTs (nm:List Nat):List Tr→Bool
 | []=>false
 | t::ts=>hasT nm t || hasTs nm ts
end
def litT:Tr→Option Rat
 | .mk op _ neg l m _ ks=>if op=1 then some (ratOf neg l m) else if op=4 then (match ks with
   | .mk op' _ neg' l' m' _ _::_=>if op'=1 then some (-(ratOf neg' l' m')) else none
   | []=>none) else none
def intL (t:Tr):Bool:=match litT t with|some q=>decide (q.den=1)|none=>false
def linF (nm:List Nat):Nat→Tr→Bool
 | 0,_=>false
 | f+1,.mk op _ _ _ _ name ks=>if op=2 then decide (name=nm) else if op=4 then linF nm f (ks.getD 0 zeroT) else
   if op=5∨op=6 then (linF nm f (ks.getD 0 zeroT) || linF nm f (ks.getD 1 zeroT)) && (linF nm f (ks.getD 0 zeroT) || !hasT nm (ks.getD 0 zeroT)) && (linF nm f (ks.getD 1 zeroT) || !hasT nm (ks.getD 1 zeroT)) else
   if op=7 then (intL (ks.getD 0 zeroT) && linF nm f (ks.getD 1 zeroT)) || (intL (ks.getD 1 zeroT) && linF nm f (ks.getD 0 zeroT)) else false
def linT (nm:List Nat) (t:Tr):Bool:=linF nm (szT t) t
mutual
def perP (nm:List Nat):Tr→Bool
 | .mk op arg _ _ _ name ks=>if op=2 then decide (name≠nm) else if op=11∧3≤arg∧arg≤5∧linT nm (ks.getD 0 zeroT)=true then true else perPs nm ks
def perPs (nm:List Nat):List Tr→Bool
 | []=>true
 | t::ts=>perP nm t && perPs nm ts
end
mutual
def perR (nm:List Nat):Bool→Tr→Bool
 | w,.mk op arg _ _ _ name ks=>if op=2∧name=nm then w else perRs nm (if op=11∧3≤arg∧arg≤5 then linT nm (ks.getD 0 zeroT) else w) ks
def perRs (nm:List Nat):Bool→List Tr→Bool
 | _,[]=>true
 | w,t::ts=>perR nm w t && perRs nm w ts
end
end Go.Proofs.YtmblpmegfmgjgaaGreatDoor
/- Subst: plain. -/
namespace Go.Proofs.YtmblpmegfmgjgaaGreatDoor
open Go Go.Vc Go.Dig
def NmsB {α:Type} (bs:List (List Nat × α)):Prop:=(∀b∈bs,IsNm b.1)∧(bs.map (·.1)).Nodup
def ValB (bs:List (List Nat × Tr)):Prop:=∀b∈bs,ValT b.2
instance {α:Type} (bs:List (List Nat × α)):Decidable (NmsB bs):=by unfold NmsB;exact inferInstance
instance (bs:List (List Nat × Tr)):Decidable (ValB bs):=by unfold ValB;exact inferInstance
def substX (bs:List (List Nat × Tr)) (t:Tr):Tr × Nat:=if ¬(ValT t∧ValB bs) then (zeroT,40) else if ¬NmsB bs then (zeroT,41) else chkdT (rplT (byR bs) t)
def substY (bs:List (List Nat × Tr)) (t:Tr):Tr × Nat:=if ¬(ValT t∧ValB bs) then (zeroT,40) else if ¬NmsB bs then (zeroT,41) else if ValT (rplT (byR bs) t) then (rplT (byR bs) t,0) else (zeroT,4)
end Go.Proofs.YtmblpmegfmgjgaaGreatDoor
/- A range over the nodes of a tree: the iterator's contract; has, smooth. -/
namespace Go.Proofs.YtmblpmegfmgjgaaGreatDoor
open Go Go.Vc Go.Dig Go.RowKit Go.Shelf
attribute [local go_sem] Oper.semAt_some
end Go.Proofs.YtmblpmegfmgjgaaGreatDoor
/- Literals of a tree, on both sides; Has. -/
namespace Go.Proofs.YtmblpmegfmgjgaaGreatDoor
open Go Go.Vc Go.Dig
theorem LdN.part3 {h h':Heap} {L:Vc.Own} {bl off o:Nat} {ws:List Value} {x y z:Value} {k:Value→Prop} (hc:∀(i:Nat) v,h.le h'→ws[i]?=some v→Has h' L ⟨bl,off+i,none⟩ v) (hl:h.le h') (h0:ws[o]?=some x)
  (h1:ws[o+1]?=some y) (h2:ws[o+2]?=some z) (hk:k (.agg #[x,y,z])):LdN h' L ⟨bl,off+o,none⟩ 3 k:=
 ⟨[x,y,z],rfl,fun i hi=>by
   rw [add_lit,Nat.add_assoc]
   match i,hi with
   | 0,_=>exact hc _ _ hl h0
   | 1,_=>exact hc _ _ hl h1
   | 2,_=>exact hc _ _ hl h2,hk⟩
theorem IsK.kidP {h:Heap} {s:Sl} {ts:List Tr} (w:IsK h s ts) (j:Nat) (t:Tr) (ht:ts[j]?=some t):
  ∃(bl off:Nat) (op arg:Int) (neg:Bool) (a b:Sl) (name:List Nat) (s':Sl),IsE h [.int .i64 op,.int .i64 arg,.bool neg,a.val,b.val,.string (txt name),s'.val] t∧
   (∀h' (L:Vc.Own) (i:Nat) v,h.le h'→[.int .i64 op,.int .i64 arg,.bool neg,a.val,b.val,.string (txt name),s'.val][i]?=some v→Has h' L ⟨bl,off+i,none⟩ v)∧
   (∀h' (L:Vc.Own) (k':Value→Prop),h.le h'→k' (.agg #[.bool neg,a.val,b.val])→LdN h' L ⟨bl,off+2,none⟩ 3 k')∧
   ∀(i:Int) (k:Addr→Prop),i=j→k ⟨bl,off,none⟩→Idx s.a i s.l 7 k:=by
 obtain ⟨hj,-⟩:=List.getElem?_eq_some_iff.1 ht
 rcases w.mem with e|⟨bl,off,c,T,fz,e1,e2,e3⟩
 ·subst e;simp at ht
 ·obtain ⟨vs,h1,h2,h3⟩:=IsKs.get e3 ht
  obtain ⟨op,arg,neg,l,m,name,ks⟩:=t
  have h3':=h3
  rw [IsE] at h3
  obtain ⟨a,b,s',rfl,-⟩:=h3
  have hc:∀h' (L:Vc.Own) (i:Nat) v,h.le h'→[.int .i64 op,.int .i64 arg,.bool neg,a.val,b.val,.string (txt name),s'.val][i]?=some v→Has h' L ⟨bl,off+j*7+i,none⟩ v:=fun h' L i v hl hv=>by
   have hi7:i<7:=(List.getElem?_eq_some_iff.1 hv).1
   exact Has.imm (hl _ _ e2) (by rw [h2 i hi7,hv])
  exact ⟨bl,off+j*7,op,arg,neg,a,b,name,s',h3',hc,fun h' L k' hl hk'=>LdN.part3 (o:=2) (hc h' L) hl rfl rfl rfl hk',fun i k hi hk=>Idx.of j e1 hi (by rw [w.len];exact hj) hk⟩
def LitF (h:Heap) (v:Value) (o:Option Rat):Prop:=∃(b:Bool) (c e:Sl) (i:Bool),v=.tuple #[.agg #[.bool b,c.val,e.val],.bool i]∧(i=true→∃q,o=some q∧Sz 64 q∧b=sg q∧IsFr h c e q)∧(i=false→o=none)
def LitQ (h:Heap) (v:Value) (o:Option Rat):Prop:=∃(b:Bool) (c e:Sl) (i:Bool),v=.tuple #[.agg #[.bool b,c.val,e.val],.bool i]∧(i=true→∃q,o=some q∧Sz 64 q∧b=sg q∧IsQ h c e q)∧(i=false→o=none)
end Go.Proofs.YtmblpmegfmgjgaaGreatDoor