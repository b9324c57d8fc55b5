/- The values of trees at values of the variables: plain. -/
import Derived.Test.YtbgicephinomlaaGreatDoorE53
import Derived.Test.YtbgicephinomlaaGreatDoorRt3
import Derived.Test.YtbgicephinomlaaGreatDoorU2
import Derived.Test.YtbgicephinomlaaGreatDoorL4
set_option linter.unusedVariables false
set_option linter.unusedSimpArgs false
namespace Go.Proofs.YtbgicephinomlaaGreatDoor
open Go Go.Vc Go.Dig
def fitO (q:Rat):Option Rat:=if fits q then some q else none
def callQ (fn:Int) (q:Rat):Option Rat:=
 if fn=1∨fn=4 then (if q=0 then some 1 else none) else if fn=2∨fn=7 then (if q=1 then some 0 else none) else if q=0 then some 0 else none
def unQ (op arg:Int) (q:Rat):Option Rat:=
 if op=4 then fitO (-q) else if op=9 then (if arg<0∧q=0 then none else fitO (powQ q arg)) else if op=12 then fitO (absQ q)
 else if op=10 then (if (exactQ q arg.toNat).2 then fitO (exactQ q arg.toNat).1 else none) else callQ arg q
def biQ (op:Int) (q r:Rat):Option Rat:=
 if op=5 then fitO (q+r) else if op=6 then fitO (q-r) else if op=7 then fitO (q*r) else if op=8 then (if r=0 then none else fitO (q / r))
 else if op=13 then some (if r<q then r else q) else some (if q<r then r else q)
def combQ (op arg:Int):List (Option Rat)→Option Rat
 | [a]=>a.bind (unQ op arg)
 | [a,b]=>a.bind fun x=>b.bind fun y=>biQ op x y
 | [a,y,z]=>a.bind fun c=>if 0≤c then y else z
 | _=>none
mutual
def valT (vals:List (List Nat × Rat)):Tr→Option Rat
 | .mk op arg neg l m name ks=>if op=1 then some (ratOf neg l m) else if op=2 then findB vals name else if op=3 then none else combQ op arg (valTs vals ks)
def valTs (vals:List (List Nat × Rat)):List Tr→List (Option Rat)
 | []=>[]
 | t::ts=>valT vals t::valTs vals ts
end
theorem fitO_fits {q r:Rat} (h:fitO q=some r):fits r:=by
 unfold fitO at h
 split at h
 ·cases h;assumption
 ·cases h
theorem fits_one:fits 1:=by
 have:=fits_int 1 (by decide) (by decide)
 exact this
theorem ratI0:((0:Int):Rat)=0:=rfl
theorem ratI1:((1:Int):Rat)=1:=rfl
def NumV (h:Heap) (v:Value) (q:Rat):Prop:=∃n,∃a b:Sl,v=.agg #[.bool n,a.val,b.val]∧IsNum h n a b (some q)
instance:UpV NumV:=⟨fun hl ⟨n,a,b,e,w⟩=>⟨n,a,b,e,by obtain ⟨l,m,v,e2⟩:=w.ex;exact ⟨l,m,v.mono hl,e2⟩⟩⟩
def VQ (h:Heap) (v:Value) (x:Option Rat):Prop:=∃n,∃a b:Sl,∃bb,v=.tuple #[.agg #[.bool n,a.val,b.val],.bool bb]∧(bb=true→∃q,x=some q∧IsNum h n a b (some q))∧(bb=false→x=none)
def NQ (h:Heap) (v:Value) (p:Rat × Int):Prop:=∃n,∃a b:Sl,v=.tuple #[.agg #[.bool n,a.val,b.val],.int .i64 p.2]∧IsNum h n a b (some p.1)
def OutX (p:Rat × Int) (x:Option Rat):Prop:=(p.2=0→x=some p.1)∧(p.2≠0→x=none)
def powR (q:Rat) (arg:Int):Rat × Int:=if arg<0∧q=0 then (0,10) else outR (powQ q arg)
end Go.Proofs.YtbgicephinomlaaGreatDoor
/- Values of variables that come in: a slice of them in memory. -/
namespace Go.Vc
open Go Go.Dig
theorem LdN.hasN {h:Heap} {L:Vc.Own} {b o m:Nat} {k:Value→Prop} (vs:List Value) (hl:vs.length=m) (hv:∀(i:Nat) v,vs[i]?=some v→Has h L ⟨b,o+i,none⟩ v) (hk:k (.agg vs.toArray)):LdN h L ⟨b,o,none⟩ m k:=
 ⟨vs,hl,fun i hi=>by
   rw [add_lit]
   exact hv i _ (by rw [List.getD_eq_getElem?_getD,List.getElem?_eq_getElem (by omega)];rfl),hk⟩
end Go.Vc
namespace Go.Proofs.YtbgicephinomlaaGreatDoor
open Go Go.Vc Go.Dig
def IsVs (h:Heap) (c:Array Value):Nat→List (List Nat × Option Rat)→Prop
 | _,[]=>True
 | off,(n,x)::bs=>(c[off]?=some (.string (txt n))∧(∀y∈n,y<256)∧∃ng,∃a b:Sl,(∀i v,[Value.bool ng,a.val,b.val][i]?=some v→c[off+1+i]?=some v)∧IsNum h ng a b x)∧IsVs h c (off+4) bs
structure IsV (h:Heap) (s:Sl) (bs:List (List Nat × Option Rat)):Prop where
 len:s.l=bs.length
 cap:s.l≤s.c
 mem:bs=[]∨∃bl off c T fz,s.a=some ⟨bl,off,none⟩∧h bl=some (.cells c T fz)∧IsVs h c off bs
def stripV (bs:List (List Nat × Option Rat)):List (List Nat × Rat):=bs.map fun b=>(b.1,b.2.getD 0)
def SmlV (bs:List (List Nat × Option Rat)):Prop:=∀b∈bs,b.2.isSome=true
instance (bs:List (List Nat × Option Rat)):Decidable (SmlV bs):=by unfold SmlV;exact inferInstance
def valX (bs:List (List Nat × Option Rat)) (t:Tr):Rat × Bool × Int:=
 if ¬ValT t then (0,false,40) else if ¬NmsB bs then (0,false,41) else if ¬SmlV bs then (0,false,1) else match valT (stripV bs) t with
  | none=>(0,false,0)
  | some q=>(q,true,0)
theorem sr_of {q:Rat} (h:fits q):Sr 128 q:=⟨((fits16 q).1 h).1,((fits16 q).1 h).2⟩
def RQ (h:Heap) (v:Value) (x:Option Rat):Prop:=∃n,∃s t:Sl,∃bb,v=.tuple #[.agg #[.bool n,s.val,t.val],.bool bb]∧(bb=true→∃q,x=some q∧n=sg q∧IsQ h s t q∧Sr 4294967296 q)∧(bb=false→x=none)
theorem sr_div {q r:Rat} (hq:Sr 128 q) (hr:Sr 128 r) (h0:nu r≠0):Sr 256 (q / r):=by
 rw [Rat.div_def]
 exact sr_mul hq (sr_inv hr h0)
end Go.Proofs.YtbgicephinomlaaGreatDoor