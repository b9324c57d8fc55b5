/- Subst: plain. -/
import Derived.Test.YtieblmbjldlaeaaGreatDoorPF3
set_option linter.all false
namespace Go.Proofs.Y
open Go Go.Vc Go.Dig
def aK6 {α:Type} (bs:List (List Nat × α)):Prop:=(∀b∈bs,gH b.1)∧(bs.map (·.1)).Nodup
def aOo (bs:List (List Nat × Tr)):Prop:=∀b∈bs,dJ b.2
instance {α:Type} (bs:List (List Nat × α)):Decidable (aK6 bs):=by unfold aK6;exact inferInstance
instance (bs:List (List Nat × Tr)):Decidable (aOo bs):=by unfold aOo;exact inferInstance
def aT8 (bs:List (List Nat × Tr)) (t:Tr):Tr × Nat:=if ¬(dJ t∧aOo bs) then (aY,40) else if ¬aK6 bs then (aY,41) else mX (aHe (byR bs) t)
def aT9 (bs:List (List Nat × Tr)) (t:Tr):Tr × Nat:=if ¬(dJ t∧aOo bs) then (aY,40) else if ¬aK6 bs then (aY,41) else if dJ (aHe (byR bs) t) then (aHe (byR bs) t,0) else (aY,4)
end Go.Proofs.Y
/- Maps with names for aBn; nodes replaced by a function value with one captured cell. -/
namespace Go.Vc
open Go Go.Dig
def aU0 (h:aA) (L:Vc.Own) (b:Nat) (es:Array MapEntry) (clock:Nat):Prop:=(b,.map es clock)∈L∨h b=some (.map es clock)
end Go.Vc
namespace Go.Proofs.Y
open Go Go.Vc Go.Dig
class UpV {α:Type} (P:aA→Value→α→Prop):Prop where
 up:∀{h h':aA} {v:Value} {a:α},h.le h'→P h v a→P h' v a
instance:UpV VE:=⟨fun hl ⟨op,arg,neg,n,d,name,s,e,w⟩=>⟨op,arg,neg,n,d,name,s,e,w.mono hl⟩⟩
def aUa {α:Type} (P:aA→Value→α→Prop) (h:aA) (x:MapEntry) (b:List Nat × α):Prop:=x.key=.string (txt b.1)∧(∀y∈b.1,y<256)∧P h x.val b.2
def aSs {α:Type} (P:aA→Value→α→Prop) (h:aA):List MapEntry→List (List Nat × α)→Prop
 | [],[]=>True
 | x::xs,b::bs=>aUa P h x b∧aSs P h xs bs
 | _,_=>False
def aBr {α:Type}:List (List Nat × α)→List Nat→Option α
 | [],_=>none
 | (n,u)::bs,name=>if n=name then some u else aBr bs name
theorem mG {α:Type} {f:α→α}:∀{l:List α} {i:Nat} {e:α},l[i]?=some e→l.modify i f=l.set i (f e)
 | [],_,_,h=>by simp at h
 | x::xs,0,e,h=>by
  simp at h;subst h;rfl
 | x::xs,i+1,e,h=>by
  rw [List.modify_succ_cons,List.set_cons_succ,mG (by simpa using h)]
theorem modify_set {es:Array MapEntry} {i:Nat} {e:MapEntry} (he:es[i]?=some e) (f:MapEntry→MapEntry):(es.modify i f).toList=es.toList.set i (f e):=by
 rw [Array.toList_modify,mG (by rw [Array.getElem?_toList];exact he)]
def byM (bs:List (List Nat × Tr)):Tr→Option Tr
 | .mk op _ _ _ _ name _=>if op=2 then aBr bs name else none
end Go.Proofs.Y
/- Contracts of the roots of natural numbers: package word's and the reference's. -/
namespace Go.Proofs.Y
open Go Go.Vc Go.Dig

end Go.Proofs.Y
/- Rational roots: number.Root, the reference's Exact and Root; what the statement on roots computes: true. -/
namespace Go.Dig
def zF (q:Rat) (n:Nat):Rat × Bool:=
 if sg q=true∧n%2=0 then (0,false) else if rt (nu q) n^n=nu q∧rt q.den n^n=q.den then (mkQ (sg q) (rt (nu q) n) (rt q.den n),true) else (0,false)
end Go.Dig
namespace Go.Proofs.Y
open Go Go.Vc Go.Dig
def aSt (n1:Bool) (l1 m1:List Nat) (n:Int):Rat × Bool × Int:=
 if okR n1 l1 m1 then (if n<2∨8<n then (0,false,2) else ((zF (aR n1 l1 m1) n.toNat).1,(zF (aR n1 l1 m1) n.toNat).2,0)) else (0,false,1)
def aVd (h:aA) (v:Value) (x:Rat × Bool × Int):Prop:=∃a b:Sl,v=.tuple #[.agg #[.bool (sg x.1),a.val,b.val],.bool x.2.1,.int .i64 x.2.2]∧jI h a b x.1
end Go.Proofs.Y
/- The values of trees at values of the variables: plain. -/
namespace Go.Proofs.Y
open Go Go.Vc Go.Dig
def rG (q:Rat):Option Rat:=if cK q then some q else none
def aSu (fn:Int) (q:Rat):Option Rat:=
 if fn=1∨fn=4 then (if q=0 then some 1 else none) else if fn=2∨fn=7 then (if q=1 then some 0 else none) else if q=0 then some 0 else none
def unQ (op arg:Int) (q:Rat):Option Rat:=
 if op=4 then rG (-q) else if op=9 then (if arg<0∧q=0 then none else rG (aMv q arg)) else if op=12 then rG (aTt q)
 else if op=10 then (if (zF q arg.toNat).2 then rG (zF q arg.toNat).1 else none) else aSu arg q
def biQ (op:Int) (q r:Rat):Option Rat:=
 if op=5 then rG (q+r) else if op=6 then rG (q-r) else if op=7 then rG (q*r) else if op=8 then (if r=0 then none else rG (q / r))
 else if op=13 then some (if r<q then r else q) else some (if q<r then r else q)
def aSv (op arg:Int):List (Option Rat)→Option Rat
 | [a]=>a.bind (unQ op arg)
 | [a,b]=>a.bind fun x=>b.bind fun y=>biQ op x y
 | [a,y,z]=>a.bind fun c=>if 0≤c then y else z
 | _=>none
mutual
def aK7 (vals:List (List Nat × Rat)):Tr→Option Rat
 | .mk op arg neg l m name ks=>if op=1 then some (aR neg l m) else if op=2 then aBr vals name else if op=3 then none else aSv op arg (aPk vals ks)
def aPk (vals:List (List Nat × Rat)):List Tr→List (Option Rat)
 | []=>[]
 | t::ts=>aK7 vals t::aPk vals ts
end
theorem fE:cK 1:=by
 have:=aAz 1 (by decide) (by decide)
 exact this
end Go.Proofs.Y
/- The polynomial form of a tree: plain words. -/
namespace Go.Proofs.Y
open Go Go.Vc Go.Dig
abbrev Pol:Type:=List (Mon × Rat)
def tmL (a b:Pol):Pol:=a.flatMap fun x=>b.map fun y=>(jn x.1 y.1,x.2*y.2)
def plL (a b:Pol) (k:Rat):Pol:=a++b.map fun t=>(t.1,t.2*k)
def zG (p:Pol):Prop:=200<p.length∨∃t∈p,∃f∈t.1,64<f.2
def zH (p:Pol):Prop:=∃t∈p,¬cK t.2
instance (p:Pol):Decidable (zG p):=by unfold zG;exact inferInstance
instance (p:Pol):Decidable (zH p):=by unfold zH;exact inferInstance
def bH (l:Pol):Except Nat Pol:=if zG (bU l) then .error 4 else if zH (bU l) then .error 1 else .ok (bU l)
def lH (q:Rat):Pol:=if q=0 then [] else [([],q)]
def bY (s:List UInt8):Except Nat Pol:=if 4000<s.length then .error 4 else .ok [([(s,1)],1)]
def bP (b:Tr) (a:Pol):Except Nat Pol:=match a with
 | [([],c)]=>.ok [([],1 / c)]
 | _=>if 4000<(aF b).length then .error 4 else bY (dV++b8 (aN (aF b,aU b.op) 3))
def fP (a:Pol):Nat→Except Nat Pol
 | 0=>.ok [([],1)]
 | n+1=>match fP a n with
  | .error e=>.error e
  | .ok o=>bH (tmL o a)
def eR (e:Tr) (op arg:Int) (q:Rat) (rs:List (Tr × Except Nat Pol)):Except Nat Pol:=
 if op=1 then .ok (lH q)
 else if 4≤op∧op≤9 then
  match rs with
  | []=>.error 0
  | (_,.error n)::_=>.error n
  | (k,.ok a)::r=>
   if op=4 then bH (plL [] a (-1))
   else if op=9 then
    if arg<0 then match bP k a with
     | .error n=>.error n
     | .ok c=>fP c arg.natAbs
    else fP a arg.natAbs
   else match r with
    | []=>.error 0
    | (_,.error n)::_=>.error n
    | (k',.ok b)::_=>
     if op=5 then bH (plL a b 1)
     else if op=6 then bH (plL a b (-1))
     else if op=7 then bH (tmL a b)
     else match bP k' b with
      | .error n=>.error n
      | .ok c=>bH (tmL a c)
 else bY (b8 (aF e))
mutual
def aO:Tr→Except Nat Pol
 | .mk op arg neg l m name ks=>eR (.mk op arg neg l m name ks) op arg (aR neg l m) (dM ks)
def dM:List Tr→List (Tr × Except Nat Pol)
 | []=>[]
 | t::ts=>(t,aO t)::dM ts
end
structure gW (p:Pol):Prop where
 can:aDj p
 red:∀t∈p,uD t.1
 deg:∀t∈p,∀f∈t.1,f.2≤64
 fit:∀t∈p,cK t.2
 len:p.length≤200
theorem aBs {K V:Type} [cL K] [DecidableEq K] [Add V] [OfNat V 0] [dY V] [DecidableEq V] {P:K→Prop} {l:List (K × V)} (h:∀t∈l,P t.1):∀t∈bU l,P t.1:=fun t ht=>by
 have h1:∀(k:K) (v:V) (q:List (K × V)),P k→(∀t∈q,P t.1)→∀t∈iR k v q,P t.1:=by
  intro k v q hk
  induction q with
  | nil=>intro _ t ht;unfold iR at ht;rw [aV2] at ht;subst ht;exact hk
  | cons n q ih=>
   intro hq t ht
   obtain ⟨n,d⟩:=n
   unfold iR at ht
   split at ht
   ·rcases aV7.1 ht with rfl|ht
    ·exact hk
    ·exact hq t ht
   ·split at ht
    ·rcases aV7.1 ht with rfl|ht
     ·exact hq (n,d) (aVw ..)
     ·exact hq t (aVz _ ht)
    ·rcases aV7.1 ht with rfl|ht
     ·exact hq (n,d) (aVw ..)
     ·exact ih (fun t ht=>hq t (aVz _ ht)) t ht
 have h2:∀t∈mH l,P t.1:=by
  clear ht
  induction l with
  | nil=>intro t ht;exact absurd ht (by simp [mH])
  | cons u l ih=>exact h1 _ _ _ (h u (aVw ..)) (ih fun t ht=>h t (aVz _ ht))
 exact h2 t (List.mem_filter.1 ht).1
theorem wO {l p:Pol} (h:∀t∈l,uD t.1) (e:bH l=.ok p):gW p:=by
 unfold bH at e
 split at e
 ·cases e
 ·rename_i h1
  split at e
  ·cases e
  ·rename_i h2
   cases e
   refine ⟨pY l,aBs h,fun t ht f hf=>?_,fun t ht=>?_,?_⟩
   ·exact Nat.le_of_not_lt fun x=>h1 (.inr ⟨t,ht,f,hf,x⟩)
   ·exact Decidable.byContradiction fun x=>h2 ⟨t,ht,x⟩
   ·exact Nat.le_of_not_lt fun x=>h1 (.inl x)
theorem aQq (a b:Pol):∀t∈tmL a b,uD t.1:=fun t ht=>by
 unfold tmL at ht
 obtain ⟨x,hx,ht⟩:=List.mem_flatMap.1 ht
 obtain ⟨y,hy,rfl⟩:=List.mem_map.1 ht
 exact aQk _ _
theorem aQr {a b:Pol} (k:Rat) (ha:∀t∈a,uD t.1) (hb:∀t∈b,uD t.1):∀t∈plL a b k,uD t.1:=fun t ht=>by
 unfold plL at ht
 rcases aVx.1 ht with ht|ht
 ·exact ha t ht
 ·obtain ⟨y,hy,rfl⟩:=List.mem_map.1 ht
  exact hb y hy
/-! the ring -/
end Go.Proofs.Y
/- The value of a monomial at values of its atoms: plain mathematics. -/
namespace Go.Dig
def pr {K:Type} (f:K→Rat) (l:List K):Rat:=l.foldr (fun t s=>f t*s) 1
section
variable {K L:Type}
end
section
variable (al:List UInt8→Rat)
def ph (m:Mon):Rat:=pr (fun t=>al t.1^t.2) m
def Aok (s:List UInt8):Prop:=nmA s∨∀u,inv s=some u→al s*al u=1
def pg (t u:Fac):Rat:=if inv t.1=some u.1 then al t.1^min t.2 u.2 else 1
end
end Go.Dig
/- Literals of a tree, on both sides; Has. -/
namespace Go.Proofs.Y
open Go Go.Vc Go.Dig
theorem LdN.part3 {h h':aA} {L:Vc.Own} {bl off o:Nat} {ws:List Value} {x y z:Value} {k:Value→Prop} (hc:∀(i:Nat) v,h.le h'→ws[i]?=some v→Has h' L ⟨bl,off+i,none⟩ v) (hl:h.le h') (h0:ws[o]?=some x)
  (h1:ws[o+1]?=some y) (h2:ws[o+2]?=some z) (hk:k (.agg #[x,y,z])):LdN h' L ⟨bl,off+o,none⟩ 3 k:=
 ⟨[x,y,z],rfl,fun i hi=>by
   rw [bD,Nat.add_assoc]
   match i,hi with
   | 0,_=>exact hc _ _ hl h0
   | 1,_=>exact hc _ _ hl h1
   | 2,_=>exact hc _ _ hl h2,hk⟩
theorem IsK.kidP {h:aA} {s:Sl} {ts:List Tr} (w:IsK h s ts) (j:Nat) (t:Tr) (ht:ts[j]?=some t):
  ∃(bl off:Nat) (op arg:Int) (neg:Bool) (a b:Sl) (name:List Nat) (s':Sl),IsE h [.int .i64 op,.int .i64 arg,.bool neg,a.val,b.val,.string (txt name),s'.val] t∧
   (∀h' (L:Vc.Own) (i:Nat) v,h.le h'→[.int .i64 op,.int .i64 arg,.bool neg,a.val,b.val,.string (txt name),s'.val][i]?=some v→Has h' L ⟨bl,off+i,none⟩ v)∧
   (∀h' (L:Vc.Own) (k':Value→Prop),h.le h'→k' (.agg #[.bool neg,a.val,b.val])→LdN h' L ⟨bl,off+2,none⟩ 3 k')∧
   ∀(i:Int) (k:Addr→Prop),i=j→k ⟨bl,off,none⟩→Idx s.a i s.l 7 k:=by
 obtain ⟨hj,-⟩:=aVr.1 ht
 rcases w.mem with e|⟨bl,off,c,T,fz,e1,e2,e3⟩
 ·subst e;simp at ht
 ·obtain ⟨vs,h1,h2,h3⟩:=gN.get e3 ht
  obtain ⟨op,arg,neg,l,m,name,ks⟩:=t
  have h3':=h3
  rw [IsE] at h3
  obtain ⟨a,b,s',rfl,-⟩:=h3
  have hc:∀h' (L:Vc.Own) (i:Nat) v,h.le h'→[.int .i64 op,.int .i64 arg,.bool neg,a.val,b.val,.string (txt name),s'.val][i]?=some v→Has h' L ⟨bl,off+j*7+i,none⟩ v:=fun h' L i v hl hv=>by
   have hi7:i<7:=(aVr.1 hv).1
   exact Has.imm (hl _ _ e2) (by rw [h2 i hi7,hv])
  exact ⟨bl,off+j*7,op,arg,neg,a,b,name,s',h3',hc,fun h' L k' hl hk'=>LdN.part3 (o:=2) (hc h' L) hl rfl rfl rfl hk',fun i k hi hk=>Idx.of j e1 hi (by rw [w.len];exact hj) hk⟩
def aVe (h:aA) (v:Value) (o:Option Rat):Prop:=∃(b:Bool) (c e:Sl) (i:Bool),v=.tuple #[.agg #[.bool b,c.val,e.val],.bool i]∧(i=true→∃q,o=some q∧Sz 64 q∧b=sg q∧iP h c e q)∧(i=false→o=none)
def aVf (h:aA) (v:Value) (o:Option Rat):Prop:=∃(b:Bool) (c e:Sl) (i:Bool),v=.tuple #[.agg #[.bool b,c.val,e.val],.bool i]∧(i=true→∃q,o=some q∧Sz 64 q∧b=sg q∧IsQ h c e q)∧(i=false→o=none)
end Go.Proofs.Y
/- Simplify: plain. -/
namespace Go.Proofs.Y
open Go Go.Vc Go.Dig
def aSw (q:Rat):Tr:=.mk 1 0 (sg q) (dg 4294967296 (nu q)) (dg 4294967296 (dn q)) [] []
def mkL (q:Rat):Tr:=if q<0 then aL 4 0 [aSw (-q)] else aSw q
def aBt:Tr→Prop
 | .mk op _ _ _ _ _ _=>op=4
instance (t:Tr):Decidable (aBt t):=by cases t;unfold aBt;exact inferInstance
def aQs:Tr→Tr
 | .mk _ _ _ _ _ _ (k::_)=>k
 | t=>t
def aQt (e a:Tr):Tr:=match nR a with
 | some v=>mkL (-v)
 | none=>if aBt a then aQs a else e
def aSx (op:Int) (x y:Rat):Option Rat:=if op=5 then rG (x+y) else if op=6 then rG (x-y) else if op=7 then rG (x*y) else if y=0 then none else rG (x / y)
def aSy (op:Int) (a b:Tr):Option Rat:=(nR a).bind fun x=>(nR b).bind fun y=>aSx op x y
def addS (e a b:Tr):Tr:=if nR a=some 0 then b else if nR b=some 0 then a else if aBt b then aL 6 0 [a,aQs b] else e
def aUb (e a b:Tr):Tr:=if nR b=some 0 then a else if nR a=some 0 then aQt (aL 4 0 [b]) b else if aBt b then aL 5 0 [a,aQs b] else e
def mulS (e a b:Tr):Tr:=if nR a=some 0∨nR b=some 0 then mkL 0 else if nR a=some 1 then b else if nR b=some 1 then a else if nR a=some (-1) then aQt (aL 4 0 [b]) b else e
def aUc (e a b:Tr):Tr:=if nR a=some 0 then mkL 0 else if nR b=some 1 then a else e
def aUd (e:Tr) (op:Int) (a b:Tr):Tr:=match aSy op a b with
 | some q=>mkL q
 | none=>if op=5 then addS e a b else if op=6 then aUb e a b else if op=7 then mulS e a b else aUc e a b
def aUe (arg:Int) (a:Tr):Option Rat:=(nR a).bind fun x=>if arg<0∧x=0 then none else rG (aMv x arg)
def aUf (e:Tr) (arg:Int) (a:Tr):Tr:=match aUe arg a with
 | some q=>mkL q
 | none=>if arg=0 then mkL 1 else if arg=1 then a else e
def aSz (op arg:Int) (e:Tr):List Tr→Tr
 | [a]=>if op=4 then aQt e a else if op=9 then aUf e arg a else e
 | [a,b]=>if op=5∨op=6∨op=7∨op=8 then aUd e op a b else e
 | _=>e
mutual
def aQu:Tr→Tr
 | .mk op arg neg l m name ks=>aSz op arg (.mk op arg neg l m name (aK8 ks)) (aK8 ks)
def aK8:List Tr→List Tr
 | []=>[]
 | t::ts=>aQu t::aK8 ts
end
/-! nodes that are right, and their sizes -/
def Fit (d n:Nat) (t:Tr):Prop:=okT d t∧szT t≤n
end Go.Proofs.Y
/- A tree keeps its value when it is simplified: plain. -/
namespace Go.Proofs.Y
open Go Go.Vc Go.Dig
section
variable {vals:List (List Nat × Rat)} (hv:∀b∈vals,cK b.2)
include hv
end
end Go.Proofs.Y
/- A form has the value of its tree: plain mathematics. -/
namespace Go.Proofs.Y
open Go Go.Vc Go.Dig
def Mok (al:List UInt8→Rat) (p:Pol):Prop:=∀t∈p,∀f∈t.1,Aok al f.1
structure aU1 (vals:List (List Nat × Rat)) (al:List UInt8→Rat):Prop where
 atom:∀(u:Tr) (w:Rat),okT 1 u→szT u≤300→(aF u).length≤4000→u.op≠1→¬(4≤u.op∧u.op≤9)→aK7 vals u=some w→al (b8 (aF u))=w
 atomI:∀(u:Tr),okT 1 u→u.op≠1→¬(4≤u.op∧u.op≤9)→nmA (b8 (aF u))∨inv (b8 (aF u))=none
 recip:∀(b:Tr) (w:Rat),okT 2 b→szT b≤299→(aN (aF b,aU b.op) 3).length≤3996→aK7 vals b=some w→w≠0→al (dV++b8 (aN (aF b,aU b.op) 3))=1 / w∧Aok al (dV++b8 (aN (aF b,aU b.op) 3))
theorem aOp {ks:List Tr} {n:Int} (h:(ks.length:Int)=n) (hn:n=1):∃k,ks=[k]:=by
 match ks,h with
 | [k],_=>exact ⟨k,rfl⟩
 | [],h=>simp at h;omega
 | _::_::r,h=>simp at h;omega
theorem aS0 {ks:List Tr} {n:Int} (h:(ks.length:Int)=n) (hn:n=2):∃a b,ks=[a,b]:=by
 match ks,h with
 | [a,b],_=>exact ⟨a,b,rfl⟩
 | [_],h=>simp at h;omega
 | [],h=>simp at h;omega
 | _::_::_::r,h=>simp at h;omega
end Go.Proofs.Y
/- The tokens of the text of a tree: plain. -/
namespace Go.Proofs.Y
open Go Go.Vc Go.Dig
def aS1 (c:Nat):Prop:=aln c=false∧c≠46∧c≠47
def aS2 (rest:List Nat):Prop:=∀c,rest.head?=some c→aS1 c
def kt (t:Tk):Nat × List Nat:=(t.kind,t.text)
def Sc (b:Bool) (a:List Nat) (ks:List (Nat × List Nat)):Prop:=
 ∀(rest:List Nat) (n i:Nat) (acc:List Tk),(b=true→aS2 rest)→(a++rest).length≤n→∃n' ts,rest.length≤n'∧ts.map kt=ks∧cD n (a++rest) i acc=cD n' rest (i+a.length) (acc++ts)
/-! numbers -/
/-! the tokens of a tree -/
def sgT (c:Nat):Nat × List Nat:=(0,[c])
def itK (n:Int):List (Nat × List Nat):=if n<0 then [sgT 45,(1,fR n.natAbs)] else [(1,fR n.natAbs)]
def rH (x:List (Nat × List Nat) × Int) (low:Int):List (Nat × List Nat):=if low≤x.2 then x.1 else [sgT 40]++x.1++[sgT 41]
def aK9:Bool→List (List (Nat × List Nat) × Int)→List (Nat × List Nat)
 | _,[]=>[]
 | true,x::r=>x.1++aK9 false r
 | false,x::r=>[sgT 44]++x.1++aK9 false r
def opC (op:Int):Nat:=if op=5 then 43 else if op=6 then 45 else if op=7 then 42 else 47
def aS3 (op arg:Int):List (Nat × List Nat):=
 if op=10 then (if arg=2 then [(0,[115,113,114,116]),sgT 40] else [(0,[114,111,111,116]),sgT 40]++itK arg++[sgT 44])
 else if op=11 then [(3,bA.getD (arg.toNat-1) []),sgT 40]
 else if op=12 then [(0,[97,98,115]),sgT 40] else if op=13 then [(0,[109,105,110]),sgT 40] else if op=14 then [(0,[109,97,120]),sgT 40] else if op=15 then [(0,[105,102]),sgT 40] else []
def aS4 (op arg:Int) (q:Rat) (name:List Nat) (xs:List (List (Nat × List Nat) × Int)):List (Nat × List Nat):=
 if op=1 then [(1,iW q)] else if op=2 then [(2,name)] else if op=3 then [(0,[112,105])]
 else if op=4 then [sgT 45]++rH (xs.getD 0 ([],0)) 3
 else if op=5∨op=6 then rH (xs.getD 0 ([],0)) 1++[sgT (opC op)]++rH (xs.getD 1 ([],0)) 2
 else if op=7∨op=8 then rH (xs.getD 0 ([],0)) 2++[sgT (opC op)]++rH (xs.getD 1 ([],0)) 3
 else if op=9 then rH (xs.getD 0 ([],0)) 5++([sgT 94]++itK arg)
 else aS3 op arg++aK9 true xs++[sgT 41]
mutual
def aS5:Tr→List (Nat × List Nat)
 | .mk op arg neg l m name ks=>aS4 op arg (aR neg l m) name (aLa ks)
def aLa:List Tr→List (List (Nat × List Nat) × Int)
 | []=>[]
 | t::ts=>(aS5 t,aU t.op)::aLa ts
end
def aUg (x:List Nat × Int) (y:List (Nat × List Nat) × Int):Prop:=x.2=y.2∧Sc true x.1 y.1
def aS6:List (List Nat × Int)→List (List (Nat × List Nat) × Int)→Prop
 | [],[]=>True
 | x::xs,y::ys=>aUg x y∧aS6 xs ys
 | _,_=>False
end Go.Proofs.Y
/- The text of a tree, parsed: plain. -/
namespace Go.Dig
end Go.Dig
namespace Go.Proofs.Y
open Go Go.Vc Go.Dig
section
variable (ts:List Tk)
def Ps (md:Md) (i:Nat) (cs:List Cn) (r:Pr Tr):Prop:=∃n,pp ts prs n md i cs=some r
end
section
variable {ts:List Tk}
/-! tokens from a place on -/
def At (ts:List Tk) (i:Nat) (l:List (Nat × List Nat)):Prop:=(ts.map kt).drop i=l
def aHf (l:List (Nat × List Nat)) (s:List Nat):Prop:=l.head?≠some (0,s)
/-! counts that are in range -/
def okC (cs:List Cn):Prop:=∀c∈cs,¬rC c
/-! the tree that is read back -/
end
mutual
def reT:Tr→Tr
 | .mk op arg neg l m name ks=>if op=1 then aGi (iW (aR neg l m)) prs else if op=2 then nQ name else aL op arg (aS7 ks)
def aS7:List Tr→List Tr
 | []=>[]
 | t::ts=>reT t::aS7 ts
end
section
variable (ts:List Tk)
structure Rd (lev:Int) (K:List (Nat × List Nat)) (t:Tr):Prop where
 head:5≤lev→∀l,aHf (K++l) [45]
 atom:5≤lev→∀i l cs,At ts i (K++l)→okC cs→∃cs',okC cs'∧Ps ts .atom i cs (.ok t (i+K.length) cs')
 fac:3≤lev→∀i l cs,At ts i (K++l)→aHf l [94]→okC cs→∃cs',okC cs'∧Ps ts .fac i cs (.ok t (i+K.length) cs')
 term:2≤lev→∀i l cs,At ts i (K++l)→aHf l [94]→okC cs→∃cs',okC cs'∧∀r,Ps ts (.termL t) (i+K.length) cs' r→Ps ts .term i cs r
 sum:∀i l cs,At ts i (K++l)→aHf l [94]→aHf l [42]→aHf l [47]→okC cs→∃cs',okC cs'∧∀r,Ps ts (.sumL t) (i+K.length) cs' r→Ps ts .sum i cs r
end
section
variable {ts:List Tk}
end
end Go.Proofs.Y
/- Simplify, plain, of trees of any depth. -/
namespace Go.Proofs.Y
open Go Go.Vc Go.Dig
end Go.Proofs.Y
/- Derivatives: plain. -/
namespace Go.Proofs.Y
open Go Go.Vc Go.Dig
/-! trees with equal aBn -/
/-! the derivative: `g` tells how a node stands for itself -/
def aUh (e:Tr) (arg:Int) (a da:Tr):Tr:=if arg=0 then mkL 0 else aL 7 0 [aL 7 0 [mkL (arg:Rat),if -32<arg then aL 9 (arg-1) [a] else aL 8 0 [e,a]],da]
def aS8 (e:Tr) (arg:Int) (da:Tr):Tr:=aL 8 0 [da,aL 7 0 [mkL (arg:Rat),aL 9 (arg-1) [e]]]
def aS9 (a:Tr):Tr:=aL 10 2 [aL 6 0 [mkL 1,aL 9 2 [a]]]
def aTa (e:Tr) (arg:Int) (a da:Tr):Tr:=
 if arg=1 then aL 7 0 [e,da] else if arg=2 then aL 8 0 [da,a] else if arg=3 then aL 7 0 [aL 11 4 [a],da]
 else if arg=4 then aL 4 0 [aL 7 0 [aL 11 3 [a],da]] else if arg=5 then aL 7 0 [aL 5 0 [mkL 1,aL 9 2 [e]],da]
 else if arg=6 then aL 8 0 [da,aS9 a] else if arg=7 then aL 4 0 [aL 8 0 [da,aS9 a]] else aL 8 0 [da,aL 5 0 [mkL 1,aL 9 2 [a]]]
def aUi (op:Int) (a b da db:Tr):Tr:=
 if op=5∨op=6 then aL op 0 [da,db] else if op=7 then aL 5 0 [aL 7 0 [da,b],aL 7 0 [a,db]]
 else aL 8 0 [aL 6 0 [aL 7 0 [da,b],aL 7 0 [a,db]],aL 9 2 [b]]
def aTb (e:Tr) (op arg:Int):List Tr→List Tr→Tr
 | [a],[da]=>if op=4 then aL 4 0 [da] else if op=9 then aUh e arg a da else if op=10 then aS8 e arg da else aTa e arg a da
 | [a,b],[da,db]=>aUi op a b da db
 | _,_=>aY
mutual
def aQv (g:Tr→Tr) (nm:List Nat):Tr→Tr
 | .mk op arg neg l m name ks=>if op=1∨op=3 then mkL 0 else if op=2 then (if name=nm then mkL 1 else mkL 0) else aTb (g (.mk op arg neg l m name ks)) op arg ks (aPl g nm ks)
def aPl (g:Tr→Tr) (nm:List Nat):List Tr→List Tr
 | []=>[]
 | t::ts=>aQv g nm t::aPl g nm ts
end
def bare:Tr→Tr
 | .mk op arg _ _ _ _ ks=>aL op arg ks
mutual
def smT:Tr→Prop
 | .mk op _ _ _ _ _ ks=>¬zD op∧aTc ks
def aTc:List Tr→Prop
 | []=>True
 | t::ts=>smT t∧aTc ts
end
/-! what Derive answers, on both sides -/
def aVg (nm:List Nat) (t:Tr):Tr × Nat:=if ¬dJ t then (aY,40) else if ¬gH nm then (aY,41) else if aOm t≠none then (aY,42) else mX (aQu (aQv id nm t))
def aUj (t:Tr):Tr × Nat:=if dJ t then (t,0) else (aY,4)
def aVh (nm:List Nat) (t:Tr):Tr × Nat:=if ¬dJ t then (aY,40) else if ¬gH nm then (aY,41) else if aOm t≠none then (aY,42) else aUj (aQu (aQv bare nm t))
end Go.Proofs.Y
/- The text of a tree, parsed: each kind of node; the whole. -/
namespace Go.Proofs.Y
open Go Go.Vc Go.Dig
section
variable {ts:List Tk}
def Rds (ts:List Tk):List (List (Nat × List Nat) × Int)→List Tr→Prop
 | [],[]=>True
 | x::xs,u::us=>Rd ts x.2 x.1 u∧Rds ts xs us
 | _,_=>False
theorem aFe {ks:List Tr} {n:Int} (h:(ks.length:Int)=n) (hn:n=1):∃k,ks=[k]:=by
 match ks,h with
 | [k],_=>exact ⟨k,rfl⟩
 | [],h=>simp at h;omega
 | _::_::r,h=>simp at h;omega
theorem qJ {ks:List Tr} {n:Int} (h:(ks.length:Int)=n) (hn:n=2):∃a b,ks=[a,b]:=by
 match ks,h with
 | [a,b],_=>exact ⟨a,b,rfl⟩
 | [_],h=>simp at h;omega
 | [],h=>simp at h;omega
 | _::_::_::r,h=>simp at h;omega
end
end Go.Proofs.Y
/- The text of a tree leads back to the tree; printing again changes nothing: plain. -/
namespace Go.Proofs.Y
open Go Go.Vc Go.Dig
/-! numbers among the tokens -/
def aUk (x:Nat × List Nat):Prop:=x.1=1→∃q,cK q∧0≤q∧x.2=iW q
def aVi (l:List (Nat × List Nat)):Prop:=∀x∈l,aUk x
/-! the tree that is read back is right -/
/-! texts depend on aBn alone -/
end Go.Proofs.Y
/- Values of trees in which literals stand for variables, of copies, of resolved case distinctions: plain. -/
namespace Go.Proofs.Y
open Go Go.Vc Go.Dig
def aU2 (vals:List (List Nat × Rat)):List (List Nat × Tr):=vals.map fun b=>(b.1,mkL b.2)
section
variable {vals:List (List Nat × Rat)} (hv:∀b∈vals,cK b.2)
include hv
end
section
variable {vals:List (List Nat × Rat)} (hv:∀b∈vals,cK b.2)
include hv
end
end Go.Proofs.Y