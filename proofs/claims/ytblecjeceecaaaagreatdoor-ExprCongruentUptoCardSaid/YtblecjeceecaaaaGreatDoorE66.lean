/- Subst: plain. -/
import Derived.Test.YtblecjeceecaaaaGreatDoorPF3
set_option linter.all false
namespace Go.Proofs.Y
open Go Go.Vc Go.Dig
def eS{α:Type}(bs:List (List Nat × α)):Prop:=(∀b∈bs,fD b.1)/\(bs.map (·.1)).Nodup
def nN(bs:List (List Nat × Tr)):Prop:=∀b∈bs,bB b.2
instance {α:Type} (bs:List (List Nat × α)):Decidable (eS bs):=by unfold eS;exact inferInstance
instance (bs:List (List Nat × Tr)):Decidable (nN bs):=by unfold nN;exact inferInstance
def iS(bs:List (List Nat × Tr))(t:Tr):Tr × Nat:=if ¬(bB t/\nN bs) then (bI,40) else if ¬eS bs then (bI,41) else mF (lK (byR bs) t)
def bHs(bs:List (List Nat × Tr))(t:Tr):Tr × Nat:=if ¬(bB t/\nN bs) then (bI,40) else if ¬eS bs then (bI,41) else if bB (lK (byR bs) t) then (lK (byR bs) t,0) else (bI,4)
end Go.Proofs.Y
/- Maps with names for iX; nodes replaced by a function value with one captured cell. -/
namespace Go.Vc
open Go Go.Dig
def bF6(h:aA)(L:Vc.Own)(b:Nat)(es:Array MapEntry)(clock:Nat):Prop:=(b,.map es clock)∈L\/h b=some (.map es clock)
end Go.Vc
namespace Go.Proofs.Y
open Go Go.Vc Go.Dig
class UpV {α:Type} (P:aA->Value->α->Prop):Prop where
 up:∀{h h':aA} {v:Value} {a:α},h.le h'->P h v a->P h' v a
instance:UpV VE:=⟨fun hl ⟨op,arg,neg,n,d,name,s,e,w⟩=>⟨op,arg,neg,n,d,name,s,e,w.mono hl⟩⟩
def bDj{α:Type}(P:aA->Value->α->Prop)(h:aA)(x:MapEntry)(b:List Nat × α):Prop:=x.key=.string (txt b.1)/\(∀y∈b.1,y<256)/\P h x.val b.2
def gN{α:Type}(P:aA->Value->α->Prop)(h:aA):List MapEntry->List (List Nat × α)->Prop
 | [],[]=>True
 | x::xs,b::bs=>bDj P h x b/\gN P h xs bs
 | _,_=>False
def eN{α:Type}:List (List Nat × α)->List Nat->Option α
 | [],_=>none
 | (n,u)::bs,name=>if n=name then some u else eN bs name
theorem rU{α:Type}{f:α->α}:∀{l:List α} {i:Nat} {e:α},l[i]?=some e->l.modify i f=l.set i (f e)
 | [],_,_,h=>by simp at h
 | x::xs,0,e,h=>by
  simp at h;subst h;rfl
 | x::xs,i+1,e,h=>by
  rw[List.modify_succ_cons,bK9,rU (by simpa using h)]
theorem modify_set{es:Array MapEntry}{i:Nat}{e:MapEntry}(he:es[i]?=some e)(f:MapEntry->MapEntry):(es.modify i f).toList=es.toList.set i (f e):=by
 rw[Array.toList_modify,rU (by rw[Array.getElem?_toList];exact he)]
def byM(bs:List (List Nat × Tr)):Tr->Option Tr
 | .mk op _ _ _ _ name _=>if op=2 then eN bs name else none
end Go.Proofs.Y
/- Contracts of the roots of natural numbers: package word's and the reference's. -/
namespace Go.Proofs.Y
open Go Go.Vc Go.Dig

end Go.Proofs.Y
/- Rational roots: number.Root, the reference's Exact and Root; what the statement on roots computes: true. -/
namespace Go.Dig
def cJ(q:Rat)(n:Nat):Rat × Bool:=
 if sg q=true/\n%2=0 then (0,false) else if rt (nu q) n^n=nu q/\rt q.den n^n=q.den then (mkQ (sg q) (rt (nu q) n) (rt q.den n),true) else (0,false)
end Go.Dig
namespace Go.Proofs.Y
open Go Go.Vc Go.Dig
def nO(n1:Bool)(l1 m1:List Nat)(n:Int):Rat × Bool × Int:=
 if okR n1 l1 m1 then (if n<2\/8<n then (0,false,2) else ((cJ (aK n1 l1 m1) n.toNat).1,(cJ (aK n1 l1 m1) n.toNat).2,0)) else (0,false,1)
def uO(h:aA)(v:Value)(x:Rat × Bool × Int):Prop:=∃a b:Sl,v=.tuple #[.agg #[.bool (sg x.1),a.val,b.val],.bool x.2.1,.int .i64 x.2.2]/\eA h a b x.1
end Go.Proofs.Y
/- The values of trees at values of the variables: plain. -/
namespace Go.Proofs.Y
open Go Go.Vc Go.Dig
def dZ(q:Rat):Option Rat:=if fits q then some q else none
def iL(fn:Int)(q:Rat):Option Rat:=
 if fn=1\/fn=4 then (if q=0 then some 1 else none) else if fn=2\/fn=7 then (if q=1 then some 0 else none) else if q=0 then some 0 else none
def unQ(op arg:Int)(q:Rat):Option Rat:=
 if op=4 then dZ (-q) else if op=9 then (if arg<0/\q=0 then none else dZ (oX q arg)) else if op=12 then dZ (gP q)
 else if op=10 then (if (cJ q arg.toNat).2 then dZ (cJ q arg.toNat).1 else none) else iL arg q
def biQ(op:Int)(q r:Rat):Option Rat:=
 if op=5 then dZ (q+r) else if op=6 then dZ (q-r) else if op=7 then dZ (q*r) else if op=8 then (if r=0 then none else dZ (q / r))
 else if op=13 then some (if r<q then r else q) else some (if q<r then r else q)
def aEn(op arg:Int):List (Option Rat)->Option Rat
 | [a]=>a.bind (unQ op arg)
 | [a,b]=>a.bind fun x=>b.bind fun y=>biQ op x y
 | [a,y,z]=>a.bind fun c=>if 0<=c then y else z
 | _=>none
mutual
def bL(vals:List (List Nat × Rat)):Tr->Option Rat
 | .mk op arg neg l m name ks=>if op=1 then some (aK neg l m) else if op=2 then eN vals name else if op=3 then none else aEn op arg (bY vals ks)
def bY(vals:List (List Nat × Rat)):List Tr->List (Option Rat)
 | []=>[]
 | t::ts=>bL vals t::bY vals ts
end
theorem fU:fits 1:=by
 have:=wN 1 Ae Ae;exact this
end Go.Proofs.Y
/- The polynomial form of a tree: plain words. -/
namespace Go.Proofs.Y
open Go Go.Vc Go.Dig
abbrev Pol:Type:=List (Mon × Rat)
def tmL(a b:Pol):Pol:=a.flatMap fun x=>b.map fun y=>(jn x.1 y.1,x.2*y.2)
def plL(a b:Pol)(k:Rat):Pol:=a++b.map fun t=>(t.1,t.2*k)
def aG7(p:Pol):Prop:=200<p.length\/∃t∈p,∃f∈t.1,64<f.2
def aG8(p:Pol):Prop:=∃t∈p,¬fits t.2
instance (p:Pol):Decidable (aG7 p):=by unfold aG7;exact inferInstance
instance (p:Pol):Decidable (aG8 p):=by unfold aG8;exact inferInstance
def bS(l:Pol):Except Nat Pol:=if aG7 (bZ l) then .error 4 else if aG8 (bZ l) then .error 1 else .ok (bZ l)
def jU(q:Rat):Pol:=if q=0 then [] else [([],q)]
def cH(s:List UInt8):Except Nat Pol:=if 4000<s.length then .error 4 else .ok [([(s,1)],1)]
def cA(b:Tr)(a:Pol):Except Nat Pol:=match a with
 | [([],c)]=>.ok [([],1 / c)]
 | _=>if 4000<(aE b).length then .error 4 else cH (eR++b8 (aN (aE b,aT b.op) 3))
def gQ(a:Pol):Nat->Except Nat Pol
 | 0=>.ok [([],1)]
 | n+1=>match gQ a n with
  | .error e=>.error e
  | .ok o=>bS (tmL o a)
def gO(e:Tr)(op arg:Int)(q:Rat)(rs:List (Tr × Except Nat Pol)):Except Nat Pol:=
 if op=1 then .ok (jU q)
 else if 4<=op/\op<=9 then
  match rs with
  | []=>.error 0
  | (_,.error n)::_=>.error n
  | (k,.ok a)::r=>
   if op=4 then bS (plL [] a (-1))
   else if op=9 then
    if arg<0 then match cA k a with
     | .error n=>.error n
     | .ok c=>gQ c arg.natAbs
    else gQ a arg.natAbs
   else match r with
    | []=>.error 0
    | (_,.error n)::_=>.error n
    | (k',.ok b)::_=>
     if op=5 then bS (plL a b 1)
     else if op=6 then bS (plL a b (-1))
     else if op=7 then bS (tmL a b)
     else match cA k' b with
      | .error n=>.error n
      | .ok c=>bS (tmL a c)
 else cH (b8 (aE e))
mutual
def aO:Tr->Except Nat Pol
 | .mk op arg neg l m name ks=>gO (.mk op arg neg l m name ks) op arg (aK neg l m) (dC ks)
def dC:List Tr->List (Tr × Except Nat Pol)
 | []=>[]
 | t::ts=>(t,aO t)::dC ts
end
structure lG (p:Pol):Prop where
 can:sX p
 red:∀t∈p,aB4 t.1
 deg:∀t∈p,∀f∈t.1,f.2<=64
 fit:∀t∈p,fits t.2
 len:p.length<=200
theorem tB{K V:Type}[eI K][DecidableEq K][Add V][OfNat V 0][gY V][DecidableEq V]{P:K->Prop}{l:List (K × V)}(h:∀t∈l,P t.1):∀t∈bZ l,P t.1:=fun t ht=>by
 have h1:∀(k:K) (v:V) (q:List (K × V)),P k->(∀t∈q,P t.1)->∀t∈iR k v q,P t.1:=by
  intro k v q hk
  induction q with
  | nil=>intro _ t ht;unfold iR at ht;rw[bI2] at ht;subst ht;exact hk
  | cons n q ih=>
   intro hq t ht;obtain⟨n,d⟩:=n;unfold iR at ht
   split at ht
   .rcases bI7.1 ht with rfl|ht
    .exact hk
    .exact hq t ht
   .split at ht
    .rcases bI7.1 ht with rfl|ht
     .exact hq (n,d) (bIw ..)
     .exact hq t (bIz _ ht)
    .rcases bI7.1 ht with rfl|ht
     .exact hq (n,d) (bIw ..)
     .exact ih (fun t ht=>hq t (bIz _ ht)) t ht
 have h2:∀t∈kP l,P t.1:=by
  clear ht
  induction l with
  | nil=>intro t ht;exact absurd ht (by simp[kP])
  | cons u l ih=>exact h1 _ _ _ (h u (bIw ..)) (ih fun t ht=>h t (bIz _ ht))
 exact h2 t (List.mem_filter.1 ht).1
theorem aEp{l p:Pol}(h:∀t∈l,aB4 t.1)(e:bS l=.ok p):lG p:=by
 unfold bS at e
 split at e
 .cases e
 .rename_i h1
  split at e
  .cases e
  .rename_i h2;cases e;refine⟨eH l,tB h,fun t ht f hf=>?_,fun t ht=>?_,?_⟩
   .exact Nat.le_of_not_lt fun x=>h1 (.inr ⟨t,ht,f,hf,x⟩)
   .exact Decidable.byContradiction fun x=>h2 ⟨t,ht,x⟩
   .exact Nat.le_of_not_lt fun x=>h1 (.inl x)
theorem bDl(a b:Pol):∀t∈tmL a b,aB4 t.1:=fun t ht=>by
 unfold tmL at ht;obtain⟨x,hx,ht⟩:=List.mem_flatMap.1 ht;obtain⟨y,hy,rfl⟩:=List.mem_map.1 ht;exact bDc _ _
theorem bDm{a b:Pol}(k:Rat)(ha:∀t∈a,aB4 t.1)(hb:∀t∈b,aB4 t.1):∀t∈plL a b k,aB4 t.1:=fun t ht=>by
 unfold plL at ht;rcases bIx.1 ht with ht|ht
 .exact ha t ht
 .obtain⟨y,hy,rfl⟩:=List.mem_map.1 ht;exact hb y hy
/-! the ring -/
end Go.Proofs.Y
/- The value of a monomial at values of its atoms: plain mathematics. -/
namespace Go.Dig
def pr{K:Type}(f:K->Rat)(l:List K):Rat:=l.foldr (fun t s=>f t*s) 1
section
variable {K L:Type}
end
section
variable (al:List UInt8->Rat)
def ph(m:Mon):Rat:=pr (fun t=>al t.1^t.2) m
def Aok(s:List UInt8):Prop:=nmA s\/∀u,inv s=some u->al s*al u=1
def pg(t u:Fac):Rat:=if inv t.1=some u.1 then al t.1^min t.2 u.2 else 1
end
end Go.Dig
/- Literals of a tree, on both sides; Has. -/
namespace Go.Proofs.Y
open Go Go.Vc Go.Dig
theorem LdN.part3{h h':aA}{L:Vc.Own}{bl off o:Nat}{ws:List Value}{x y z:Value}{k:Value->Prop}(hc:∀(i:Nat) v,h.le h'->ws[i]?=some v->Has h' L ⟨bl,off+i,none⟩ v)(hl:h.le h')(h0:ws[o]?=some x)
  (h1:ws[o+1]?=some y) (h2:ws[o+2]?=some z) (hk:k (.agg #[x,y,z])):LdN h' L ⟨bl,off+o,none⟩ 3 k:=
 ⟨[x,y,z],rfl,fun i hi=>by
   rw[bQ,bKd]
   match i,hi with
   | 0,_=>exact hc _ _ hl h0
   | 1,_=>exact hc _ _ hl h1
   | 2,_=>exact hc _ _ hl h2,hk⟩
theorem IsK.kidP{h:aA}{s:Sl}{ts:List Tr}(w:IsK h s ts)(j:Nat)(t:Tr)(ht:ts[j]?=some t):
  ∃(bl off:Nat) (op arg:Int) (neg:Bool) (a b:Sl) (name:List Nat) (s':Sl),IsE h [.int .i64 op,.int .i64 arg,.bool neg,a.val,b.val,.string (txt name),s'.val] t/\
   (∀h' (L:Vc.Own) (i:Nat) v,h.le h'->[.int .i64 op,.int .i64 arg,.bool neg,a.val,b.val,.string (txt name),s'.val][i]?=some v->Has h' L ⟨bl,off+i,none⟩ v)/\
   (∀h' (L:Vc.Own) (k':Value->Prop),h.le h'->k' (.agg #[.bool neg,a.val,b.val])->LdN h' L ⟨bl,off+2,none⟩ 3 k')/\
   ∀(i:Int) (k:Addr->Prop),i=j->k ⟨bl,off,none⟩->Idx s.a i s.l 7 k:=by
 obtain⟨hj,-⟩:=bIr.1 ht;rcases w.mem with e|⟨bl,off,c,T,fz,e1,e2,e3⟩
 .subst e;simp at ht
 .obtain⟨vs,h1,h2,h3⟩:=kM.get e3 ht;obtain⟨op,arg,neg,l,m,name,ks⟩:=t;have h3':=h3;rw[IsE] at h3;obtain⟨a,b,s',rfl,-⟩:=h3;have hc:∀h' (L:Vc.Own) (i:Nat) v,h.le h'->[.int .i64 op,.int .i64 arg,.bool neg,a.val,b.val,.string (txt name),s'.val][i]?=some v->Has h' L ⟨bl,off+j*7+i,none⟩ v:=fun h' L i v hl hv=>by
   have hi7:i<7:=(bIr.1 hv).1;exact Has.imm (hl _ _ e2) (by rw[h2 i hi7,hv])
  exact⟨bl,off+j*7,op,arg,neg,a,b,name,s',h3',hc,fun h' L k' hl hk'=>LdN.part3 (o:=2) (hc h' L) hl rfl rfl rfl hk',fun i k hi hk=>Idx.of j e1 hi (by rw[w.len];exact hj) hk⟩
def bIi(h:aA)(v:Value)(o:Option Rat):Prop:=∃(b:Bool) (c e:Sl) (i:Bool),v=.tuple #[.agg #[.bool b,c.val,e.val],.bool i]/\(i=true->∃q,o=some q/\Sz 64 q/\b=sg q/\eJ h c e q)/\(i=false->o=none)
def bIj(h:aA)(v:Value)(o:Option Rat):Prop:=∃(b:Bool) (c e:Sl) (i:Bool),v=.tuple #[.agg #[.bool b,c.val,e.val],.bool i]/\(i=true->∃q,o=some q/\Sz 64 q/\b=sg q/\IsQ h c e q)/\(i=false->o=none)
end Go.Proofs.Y
/- Simplify: plain. -/
namespace Go.Proofs.Y
open Go Go.Vc Go.Dig
def numQ(q:Rat):Tr:=.mk 1 0 (sg q) (dg 4294967296 (nu q)) (dg 4294967296 (dn q)) [] []
def mkL(q:Rat):Tr:=if q<0 then aG 4 0 [numQ (-q)] else numQ q
def aJx:Tr->Prop
 | .mk op _ _ _ _ _ _=>op=4
instance (t:Tr):Decidable (aJx t):=by cases t;unfold aJx;exact inferInstance
def bDo:Tr->Tr
 | .mk _ _ _ _ _ _ (k::_)=>k
 | t=>t
def bDp(e a:Tr):Tr:=match uN a with
 | some v=>mkL (-v)
 | none=>if aJx a then bDo a else e
def bGa(op:Int)(x y:Rat):Option Rat:=if op=5 then dZ (x+y) else if op=6 then dZ (x-y) else if op=7 then dZ (x*y) else if y=0 then none else dZ (x / y)
def bGb(op:Int)(a b:Tr):Option Rat:=(uN a).bind fun x=>(uN b).bind fun y=>bGa op x y
def addS(e a b:Tr):Tr:=if uN a=some 0 then b else if uN b=some 0 then a else if aJx b then aG 6 0 [a,bDo b] else e
def bHt(e a b:Tr):Tr:=if uN b=some 0 then a else if uN a=some 0 then bDp (aG 4 0 [b]) b else if aJx b then aG 5 0 [a,bDo b] else e
def mulS(e a b:Tr):Tr:=if uN a=some 0\/uN b=some 0 then mkL 0 else if uN a=some 1 then b else if uN b=some 1 then a else if uN a=some (-1) then bDp (aG 4 0 [b]) b else e
def bHu(e a b:Tr):Tr:=if uN a=some 0 then mkL 0 else if uN b=some 1 then a else e
def bHv(e:Tr)(op:Int)(a b:Tr):Tr:=match bGb op a b with
 | some q=>mkL q
 | none=>if op=5 then addS e a b else if op=6 then bHt e a b else if op=7 then mulS e a b else bHu e a b
def bHw(arg:Int)(a:Tr):Option Rat:=(uN a).bind fun x=>if arg<0/\x=0 then none else dZ (oX x arg)
def bHx(e:Tr)(arg:Int)(a:Tr):Tr:=match bHw arg a with
 | some q=>mkL q
 | none=>if arg=0 then mkL 1 else if arg=1 then a else e
def bGc(op arg:Int)(e:Tr):List Tr->Tr
 | [a]=>if op=4 then bDp e a else if op=9 then bHx e arg a else e
 | [a,b]=>if op=5\/op=6\/op=7\/op=8 then bHv e op a b else e
 | _=>e
mutual
def bDq:Tr->Tr
 | .mk op arg neg l m name ks=>bGc op arg (.mk op arg neg l m name (aV8 ks)) (aV8 ks)
def aV8:List Tr->List Tr
 | []=>[]
 | t::ts=>bDq t::aV8 ts
end
/-! nodes that are right, and their sizes -/
def Fit(d n:Nat)(t:Tr):Prop:=okT d t/\szT t<=n
end Go.Proofs.Y
/- A tree keeps its value when it is simplified: plain. -/
namespace Go.Proofs.Y
open Go Go.Vc Go.Dig
section
variable {vals:List (List Nat × Rat)} (hv:∀b∈vals,fits b.2)
include hv
end
end Go.Proofs.Y
/- A form has the value of its tree: plain mathematics. -/
namespace Go.Proofs.Y
open Go Go.Vc Go.Dig
def Mok(al:List UInt8->Rat)(p:Pol):Prop:=∀t∈p,∀f∈t.1,Aok al f.1
structure aWd (vals:List (List Nat × Rat)) (al:List UInt8->Rat):Prop where
 atom:∀(u:Tr) (w:Rat),okT 1 u->szT u<=300->(aE u).length<=4000->u.op≠1->¬(4<=u.op/\u.op<=9)->bL vals u=some w->al (b8 (aE u))=w
 atomI:∀(u:Tr),okT 1 u->u.op≠1->¬(4<=u.op/\u.op<=9)->nmA (b8 (aE u))\/inv (b8 (aE u))=none
 recip:∀(b:Tr) (w:Rat),okT 2 b->szT b<=299->(aN (aE b,aT b.op) 3).length<=3996->bL vals b=some w->w≠0->al (eR++b8 (aN (aE b,aT b.op) 3))=1 / w/\Aok al (eR++b8 (aN (aE b,aT b.op) 3))
theorem aM1{ks:List Tr}{n:Int}(h:(ks.length:Int)=n)(hn:n=1):∃k,ks=[k]:=by
 match ks,h with
 | [k],_=>exact⟨k,rfl⟩
 | [],h=>simp at h;omega
 | _::_::r,h=>simp at h;omega
theorem aWe{ks:List Tr}{n:Int}(h:(ks.length:Int)=n)(hn:n=2):∃a b,ks=[a,b]:=by
 match ks,h with
 | [a,b],_=>exact⟨a,b,rfl⟩
 | [_],h=>simp at h;omega
 | [],h=>simp at h;omega
 | _::_::_::r,h=>simp at h;omega
end Go.Proofs.Y
/- The tokens of the text of a tree: plain. -/
namespace Go.Proofs.Y
open Go Go.Vc Go.Dig
def aCi(c:Nat):Prop:=aln c=false/\c≠46/\c≠47
def xH(rest:List Nat):Prop:=∀c,rest.head?=some c->aCi c
def kt(t:Tk):Nat × List Nat:=(t.kind,t.text)
def Sc(b:Bool)(a:List Nat)(ks:List (Nat × List Nat)):Prop:=
 ∀(rest:List Nat) (n i:Nat) (acc:List Tk),(b=true->xH rest)->(a++rest).length<=n->∃n' ts,rest.length<=n'/\ts.map kt=ks/\dD n (a++rest) i acc=dD n' rest (i+a.length) (acc++ts)
/-! numbers -/
/-! the tokens of a tree -/
def sgT(c:Nat):Nat × List Nat:=(0,[c])
def itK(n:Int):List (Nat × List Nat):=if n<0 then [sgT 45,(1,bN n.natAbs)] else [(1,bN n.natAbs)]
def mL(x:List (Nat × List Nat) × Int)(low:Int):List (Nat × List Nat):=if low<=x.2 then x.1 else [sgT 40]++x.1++[sgT 41]
def dG:Bool->List (List (Nat × List Nat) × Int)->List (Nat × List Nat)
 | _,[]=>[]
 | true,x::r=>x.1++dG false r
 | false,x::r=>[sgT 44]++x.1++dG false r
def opC(op:Int):Nat:=if op=5 then 43 else if op=6 then 45 else if op=7 then 42 else 47
def aJ3(op arg:Int):List (Nat × List Nat):=
 if op=10 then (if arg=2 then [(0,[115,113,114,116]),sgT 40] else [(0,[114,111,111,116]),sgT 40]++itK arg++[sgT 44])
 else if op=11 then [(3,aW.getD (arg.toNat-1) []),sgT 40]
 else if op=12 then [(0,[97,98,115]),sgT 40] else if op=13 then [(0,[109,105,110]),sgT 40] else if op=14 then [(0,[109,97,120]),sgT 40] else if op=15 then [(0,[105,102]),sgT 40] else []
def zO(op arg:Int)(q:Rat)(name:List Nat)(xs:List (List (Nat × List Nat) × Int)):List (Nat × List Nat):=
 if op=1 then [(1,jB q)] else if op=2 then [(2,name)] else if op=3 then [(0,[112,105])]
 else if op=4 then [sgT 45]++mL (xs.getD 0 ([],0)) 3
 else if op=5\/op=6 then mL (xs.getD 0 ([],0)) 1++[sgT (opC op)]++mL (xs.getD 1 ([],0)) 2
 else if op=7\/op=8 then mL (xs.getD 0 ([],0)) 2++[sgT (opC op)]++mL (xs.getD 1 ([],0)) 3
 else if op=9 then mL (xs.getD 0 ([],0)) 5++([sgT 94]++itK arg)
 else aJ3 op arg++dG true xs++[sgT 41]
mutual
def nQ:Tr->List (Nat × List Nat)
 | .mk op arg neg l m name ks=>zO op arg (aK neg l m) name (fV ks)
def fV:List Tr->List (List (Nat × List Nat) × Int)
 | []=>[]
 | t::ts=>(nQ t,aT t.op)::fV ts
end
def bDu(x:List Nat × Int)(y:List (Nat × List Nat) × Int):Prop:=x.2=y.2/\Sc true x.1 y.1
def aCk:List (List Nat × Int)->List (List (Nat × List Nat) × Int)->Prop
 | [],[]=>True
 | x::xs,y::ys=>bDu x y/\aCk xs ys
 | _,_=>False
end Go.Proofs.Y
/- The text of a tree, parsed: plain. -/
namespace Go.Dig
end Go.Dig
namespace Go.Proofs.Y
open Go Go.Vc Go.Dig
section
variable (ts:List Tk)
def Ps(md:Md)(i:Nat)(cs:List Cn)(r:Pr Tr):Prop:=∃n,pp ts prs n md i cs=some r
end
section
variable {ts:List Tk}
/-! tokens from a place on -/
def At(ts:List Tk)(i:Nat)(l:List (Nat × List Nat)):Prop:=(ts.map kt).drop i=l
def lL(l:List (Nat × List Nat))(s:List Nat):Prop:=l.head?≠some (0,s)
/-! counts that are in range -/
def okC(cs:List Cn):Prop:=∀c∈cs,¬vK c
/-! the tree that is read back -/
end
mutual
def reT:Tr->Tr
 | .mk op arg neg l m name ks=>if op=1 then aI3 (jB (aK neg l m)) prs else if op=2 then gA name else aG op arg (mI ks)
def mI:List Tr->List Tr
 | []=>[]
 | t::ts=>reT t::mI ts
end
section
variable (ts:List Tk)
structure Rd (lev:Int) (K:List (Nat × List Nat)) (t:Tr):Prop where
 head:5<=lev->∀l,lL (K++l) [45]
 atom:5<=lev->∀i l cs,At ts i (K++l)->okC cs->∃cs',okC cs'/\Ps ts .atom i cs (.ok t (i+K.length) cs')
 fac:3<=lev->∀i l cs,At ts i (K++l)->lL l [94]->okC cs->∃cs',okC cs'/\Ps ts .fac i cs (.ok t (i+K.length) cs')
 term:2<=lev->∀i l cs,At ts i (K++l)->lL l [94]->okC cs->∃cs',okC cs'/\∀r,Ps ts (.termL t) (i+K.length) cs' r->Ps ts .term i cs r
 sum:∀i l cs,At ts i (K++l)->lL l [94]->lL l [42]->lL l [47]->okC cs->∃cs',okC cs'/\∀r,Ps ts (.sumL t) (i+K.length) cs' r->Ps ts .sum i cs r
end
section
variable {ts:List Tk}
end
end Go.Proofs.Y
/- Simplify, plain, of trees of any depth. -/
namespace Go.Proofs.Y
open Go Go.Vc Go.Dig
end Go.Proofs.Y
/- Derivatives: plain. -/
namespace Go.Proofs.Y
open Go Go.Vc Go.Dig
/-! trees with equal iX -/
/-! the derivative: `g` tells how a node stands for itself -/
def bHy(e:Tr)(arg:Int)(a da:Tr):Tr:=if arg=0 then mkL 0 else aG 7 0 [aG 7 0 [mkL (arg:Rat),if -32<arg then aG 9 (arg-1) [a] else aG 8 0 [e,a]],da]
def bGf(e:Tr)(arg:Int)(da:Tr):Tr:=aG 8 0 [da,aG 7 0 [mkL (arg:Rat),aG 9 (arg-1) [e]]]
def bGg(a:Tr):Tr:=aG 10 2 [aG 6 0 [mkL 1,aG 9 2 [a]]]
def bGh(e:Tr)(arg:Int)(a da:Tr):Tr:=
 if arg=1 then aG 7 0 [e,da] else if arg=2 then aG 8 0 [da,a] else if arg=3 then aG 7 0 [aG 11 4 [a],da]
 else if arg=4 then aG 4 0 [aG 7 0 [aG 11 3 [a],da]] else if arg=5 then aG 7 0 [aG 5 0 [mkL 1,aG 9 2 [e]],da]
 else if arg=6 then aG 8 0 [da,bGg a] else if arg=7 then aG 4 0 [aG 8 0 [da,bGg a]] else aG 8 0 [da,aG 5 0 [mkL 1,aG 9 2 [a]]]
def bHz(op:Int)(a b da db:Tr):Tr:=
 if op=5\/op=6 then aG op 0 [da,db] else if op=7 then aG 5 0 [aG 7 0 [da,b],aG 7 0 [a,db]]
 else aG 8 0 [aG 6 0 [aG 7 0 [da,b],aG 7 0 [a,db]],aG 9 2 [b]]
def bGi(e:Tr)(op arg:Int):List Tr->List Tr->Tr
 | [a],[da]=>if op=4 then aG 4 0 [da] else if op=9 then bHy e arg a da else if op=10 then bGf e arg da else bGh e arg a da
 | [a,b],[da,db]=>bHz op a b da db
 | _,_=>bI
mutual
def bDx(g:Tr->Tr)(nm:List Nat):Tr->Tr
 | .mk op arg neg l m name ks=>if op=1\/op=3 then mkL 0 else if op=2 then (if name=nm then mkL 1 else mkL 0) else bGi (g (.mk op arg neg l m name ks)) op arg ks (bCj g nm ks)
def bCj(g:Tr->Tr)(nm:List Nat):List Tr->List Tr
 | []=>[]
 | t::ts=>bDx g nm t::bCj g nm ts
end
def bare:Tr->Tr
 | .mk op arg _ _ _ _ ks=>aG op arg ks
mutual
def smT:Tr->Prop
 | .mk op _ _ _ _ _ ks=>¬aG3 op/\bGj ks
def bGj:List Tr->Prop
 | []=>True
 | t::ts=>smT t/\bGj ts
end
/-! what Derive answers, on both sides -/
def bIk(nm:List Nat)(t:Tr):Tr × Nat:=if ¬bB t then (bI,40) else if ¬fD nm then (bI,41) else if bAy t≠none then (bI,42) else mF (bDq (bDx id nm t))
def bH0(t:Tr):Tr × Nat:=if bB t then (t,0) else (bI,4)
def bIl(nm:List Nat)(t:Tr):Tr × Nat:=if ¬bB t then (bI,40) else if ¬fD nm then (bI,41) else if bAy t≠none then (bI,42) else bH0 (bDq (bDx bare nm t))
end Go.Proofs.Y
/- The text of a tree, parsed: each kind of node; the whole. -/
namespace Go.Proofs.Y
open Go Go.Vc Go.Dig
section
variable {ts:List Tk}
def Rds(ts:List Tk):List (List (Nat × List Nat) × Int)->List Tr->Prop
 | [],[]=>True
 | x::xs,u::us=>Rd ts x.2 x.1 u/\Rds ts xs us
 | _,_=>False
theorem uE{ks:List Tr}{n:Int}(h:(ks.length:Int)=n)(hn:n=1):∃k,ks=[k]:=by
 match ks,h with
 | [k],_=>exact⟨k,rfl⟩
 | [],h=>simp at h;omega
 | _::_::r,h=>simp at h;omega
theorem qE{ks:List Tr}{n:Int}(h:(ks.length:Int)=n)(hn:n=2):∃a b,ks=[a,b]:=by
 match ks,h with
 | [a,b],_=>exact⟨a,b,rfl⟩
 | [_],h=>simp at h;omega
 | [],h=>simp at h;omega
 | _::_::_::r,h=>simp at h;omega
end
end Go.Proofs.Y
/- The text of a tree leads back to the tree; printing again changes nothing: plain. -/
namespace Go.Proofs.Y
open Go Go.Vc Go.Dig
/-! numbers among the tokens -/
def bBb(x:Nat × List Nat):Prop:=x.1=1->∃q,fits q/\0<=q/\x.2=jB q
def cU(l:List (Nat × List Nat)):Prop:=∀x∈l,bBb x
/-! the tree that is read back is right -/
/-! texts depend on iX alone -/
end Go.Proofs.Y
/- Values of trees in which literals stand for variables, of copies, of resolved case distinctions: plain. -/
namespace Go.Proofs.Y
open Go Go.Vc Go.Dig
def dS(vals:List (List Nat × Rat)):List (List Nat × Tr):=vals.map fun b=>(b.1,mkL b.2)
section
variable {vals:List (List Nat × Rat)} (hv:∀b∈vals,fits b.2)
include hv
end
section
variable {vals:List (List Nat × Rat)} (hv:∀b∈vals,fits b.2)
include hv
end
end Go.Proofs.Y