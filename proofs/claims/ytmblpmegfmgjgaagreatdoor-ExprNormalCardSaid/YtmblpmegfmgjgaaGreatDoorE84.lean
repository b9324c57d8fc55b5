/- Simplify, plain, of trees of any depth. -/
import Derived.Test.YtmblpmegfmgjgaaGreatDoorE66
set_option linter.unusedVariables false
set_option linter.unusedSimpArgs false
namespace Go.Proofs.YtmblpmegfmgjgaaGreatDoor
open Go Go.Vc Go.Dig
/-! trees with equal keys -/
theorem keys_nil {us:List Tr} (h:keys []=keys us):us=[]:=by
 match us,h with
 | [],_=>rfl
 | _::_,h=>rw [keys,keys] at h;cases h
theorem keys_cons {t:Tr} {ts us:List Tr} (h:keys (t::ts)=keys us):∃u us',us=u::us'∧key t=key u∧keys ts=keys us':=by
 match us,h with
 | [],h=>rw [keys,keys] at h;cases h
 | u::us,h=>
  rw [keys,keys,List.cons.injEq] at h
  exact ⟨u,us,rfl,h.1,h.2⟩
mutual
theorem szT_key:∀{t u:Tr},key t=key u→szT t=szT u
 | .mk op arg neg l m name ks,.mk op' arg' neg' l' m' name' ks',e=>by
  rw [key,key,Kt.mk.injEq] at e
  rw [szT,szT,szTs_key e.2.2.2.2]
theorem szTs_key:∀{ts us:List Tr},keys ts=keys us→szTs ts=szTs us
 | [],us,e=>by rw [keys_nil e]
 | t::ts,us,e=>by
  obtain ⟨u,us',rfl,e1,e2⟩:=keys_cons e
  rw [szTs,szTs,szT_key e1,szTs_key e2]
end
/-! the derivative: `g` tells how a node stands for itself -/
def powD (e:Tr) (arg:Int) (a da:Tr):Tr:=if arg=0 then mkL 0 else nodeT 7 0 [nodeT 7 0 [mkL (arg:Rat),if -32<arg then nodeT 9 (arg-1) [a] else nodeT 8 0 [e,a]],da]
def rootD (e:Tr) (arg:Int) (da:Tr):Tr:=nodeT 8 0 [da,nodeT 7 0 [mkL (arg:Rat),nodeT 9 (arg-1) [e]]]
def oneD (a:Tr):Tr:=nodeT 10 2 [nodeT 6 0 [mkL 1,nodeT 9 2 [a]]]
def callD (e:Tr) (arg:Int) (a da:Tr):Tr:=
 if arg=1 then nodeT 7 0 [e,da] else if arg=2 then nodeT 8 0 [da,a] else if arg=3 then nodeT 7 0 [nodeT 11 4 [a],da]
 else if arg=4 then nodeT 4 0 [nodeT 7 0 [nodeT 11 3 [a],da]] else if arg=5 then nodeT 7 0 [nodeT 5 0 [mkL 1,nodeT 9 2 [e]],da]
 else if arg=6 then nodeT 8 0 [da,oneD a] else if arg=7 then nodeT 4 0 [nodeT 8 0 [da,oneD a]] else nodeT 8 0 [da,nodeT 5 0 [mkL 1,nodeT 9 2 [a]]]
def binD (op:Int) (a b da db:Tr):Tr:=
 if op=5∨op=6 then nodeT op 0 [da,db] else if op=7 then nodeT 5 0 [nodeT 7 0 [da,b],nodeT 7 0 [a,db]]
 else nodeT 8 0 [nodeT 6 0 [nodeT 7 0 [da,b],nodeT 7 0 [a,db]],nodeT 9 2 [b]]
def nodeD (e:Tr) (op arg:Int):List Tr→List Tr→Tr
 | [a],[da]=>if op=4 then nodeT 4 0 [da] else if op=9 then powD e arg a da else if op=10 then rootD e arg da else callD e arg a da
 | [a,b],[da,db]=>binD op a b da db
 | _,_=>zeroT
mutual
def derT (g:Tr→Tr) (nm:List Nat):Tr→Tr
 | .mk op arg neg l m name ks=>if op=1∨op=3 then mkL 0 else if op=2 then (if name=nm then mkL 1 else mkL 0) else nodeD (g (.mk op arg neg l m name ks)) op arg ks (derTs g nm ks)
def derTs (g:Tr→Tr) (nm:List Nat):List Tr→List Tr
 | []=>[]
 | t::ts=>derT g nm t::derTs g nm ts
end
def bare:Tr→Tr
 | .mk op arg _ _ _ _ ks=>nodeT op arg ks
mutual
def smT:Tr→Prop
 | .mk op _ _ _ _ _ ks=>¬roughB op∧smTs ks
def smTs:List Tr→Prop
 | []=>True
 | t::ts=>smT t∧smTs ts
end
/-! what Derive answers, on both sides -/
def derX (nm:List Nat) (t:Tr):Tr × Nat:=if ¬ValT t then (zeroT,40) else if ¬IsNm nm then (zeroT,41) else if resT t≠none then (zeroT,42) else chkdT (simT (derT id nm t))
def chkR (t:Tr):Tr × Nat:=if ValT t then (t,0) else (zeroT,4)
def derY (nm:List Nat) (t:Tr):Tr × Nat:=if ¬ValT t then (zeroT,40) else if ¬IsNm nm then (zeroT,41) else if resT t≠none then (zeroT,42) else chkR (simT (derT bare nm t))
end Go.Proofs.YtmblpmegfmgjgaaGreatDoor