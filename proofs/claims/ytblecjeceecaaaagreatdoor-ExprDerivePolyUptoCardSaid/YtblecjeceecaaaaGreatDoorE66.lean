/- Subst: plain. -/
import Derived.Test.YtblecjeceecaaaaGreatDoorPF3
set_option linter.all false
set_option maxHeartbeats 1000000
set_option maxRecDepth 20000
namespace Go.Proofs.Y
open Go Go.Vc Go.Dig
def eS{α:Type}(bs:List (List Nat × α)):Prop:=(∀b∈bs,fD b.1)/\(bs.map (·.1)).Nodup
def nN(bs:List (List Nat × Tr)):Prop:=∀b∈bs,bB b.2
instance {α:Type} (bs:List (List Nat × α)):Decidable (eS bs):=by unfold eS;exact inferInstance
instance (bs:List (List Nat × Tr)):Decidable (nN bs):=by unfold nN;exact inferInstance
def iS(bs:List (List Nat × Tr))(t:Tr):Tr × Nat:=if ¬(bB t/\nN bs) then (bI,40) else if ¬eS bs then (bI,41) else mF (lK (byR bs) t)
def bHs(bs:List (List Nat × Tr))(t:Tr):Tr × Nat:=if ¬(bB t/\nN bs) then (bI,40) else if ¬eS bs then (bI,41) else if bB (lK (byR bs) t) then (lK (byR bs) t,0) else (bI,4)
end Go.Proofs.Y
/- Maps with names for iX; nodes replaced by a function value with one captured cell. -/
namespace Go.Vc
open Go Go.Dig
def bF6(h:aA)(L:Vc.Own)(b:Nat)(es:Array MapEntry)(clock:Nat):Prop:=(b,.map es clock)∈L\/h b=some (.map es clock)
end Go.Vc
namespace Go.Proofs.Y
open Go Go.Vc Go.Dig
class UpV {α:Type} (P:aA->Value->α->Prop):Prop where
 up:∀{h h':aA} {v:Value} {a:α},h.le h'->P h v a->P h' v a
instance:UpV VE:=⟨fun hl ⟨op,arg,neg,n,d,name,s,e,w⟩=>⟨op,arg,neg,n,d,name,s,e,w.mono hl⟩⟩
def bDj{α:Type}(P:aA->Value->α->Prop)(h:aA)(x:MapEntry)(b:List Nat × α):Prop:=x.key=.string (txt b.1)/\(∀y∈b.1,y<256)/\P h x.val b.2
def gN{α:Type}(P:aA->Value->α->Prop)(h:aA):List MapEntry->List (List Nat × α)->Prop
 | [],[]=>True
 | x::xs,b::bs=>bDj P h x b/\gN P h xs bs
 | _,_=>False
def eN{α:Type}:List (List Nat × α)->List Nat->Option α
 | [],_=>none
 | (n,u)::bs,name=>if n=name then some u else eN bs name
theorem rU{α:Type}{f:α->α}:∀{l:List α} {i:Nat} {e:α},l[i]?=some e->l.modify i f=l.set i (f e)
 | [],_,_,h=>by simp at h
 | x::xs,0,e,h=>by
  simp at h;subst h;rfl
 | x::xs,i+1,e,h=>by
  rw[List.modify_succ_cons,bK9,rU (by simpa using h)]
theorem modify_set{es:Array MapEntry}{i:Nat}{e:MapEntry}(he:es[i]?=some e)(f:MapEntry->MapEntry):(es.modify i f).toList=es.toList.set i (f e):=by
 rw[Array.toList_modify,rU (by rw[Array.getElem?_toList];exact he)]
def byM(bs:List (List Nat × Tr)):Tr->Option Tr
 | .mk op _ _ _ _ name _=>if op=2 then eN bs name else none
end Go.Proofs.Y
/- Contracts of the roots of natural numbers: package word's and the reference's. -/
namespace Go.Proofs.Y
open Go Go.Vc Go.Dig

end Go.Proofs.Y
/- Rational roots: number.Root, the reference's Exact and Root; what the statement on roots computes: true. -/
namespace Go.Dig
def cJ(q:Rat)(n:Nat):Rat × Bool:=
 if sg q=true/\n%2=0 then (0,false) else if rt (nu q) n^n=nu q/\rt q.den n^n=q.den then (mkQ (sg q) (rt (nu q) n) (rt q.den n),true) else (0,false)
end Go.Dig
namespace Go.Proofs.Y
open Go Go.Vc Go.Dig
def nO(n1:Bool)(l1 m1:List Nat)(n:Int):Rat × Bool × Int:=
 if okR n1 l1 m1 then (if n<2\/8<n then (0,false,2) else ((cJ (aK n1 l1 m1) n.toNat).1,(cJ (aK n1 l1 m1) n.toNat).2,0)) else (0,false,1)
def uO(h:aA)(v:Value)(x:Rat × Bool × Int):Prop:=∃a b:Sl,v=.tuple #[.agg #[.bool (sg x.1),a.val,b.val],.bool x.2.1,.int .i64 x.2.2]/\eA h a b x.1
end Go.Proofs.Y
/- The values of trees at values of the variables: plain. -/
namespace Go.Proofs.Y
open Go Go.Vc Go.Dig
def dZ(q:Rat):Option Rat:=if fits q then some q else none
def iL(fn:Int)(q:Rat):Option Rat:=
 if fn=1\/fn=4 then (if q=0 then some 1 else none) else if fn=2\/fn=7 then (if q=1 then some 0 else none) else if q=0 then some 0 else none
def unQ(op arg:Int)(q:Rat):Option Rat:=
 if op=4 then dZ (-q) else if op=9 then (if arg<0/\q=0 then none else dZ (oX q arg)) else if op=12 then dZ (gP q)
 else if op=10 then (if (cJ q arg.toNat).2 then dZ (cJ q arg.toNat).1 else none) else iL arg q
def biQ(op:Int)(q r:Rat):Option Rat:=
 if op=5 then dZ (q+r) else if op=6 then dZ (q-r) else if op=7 then dZ (q*r) else if op=8 then (if r=0 then none else dZ (q / r))
 else if op=13 then some (if r<q then r else q) else some (if q<r then r else q)
def aEn(op arg:Int):List (Option Rat)->Option Rat
 | [a]=>a.bind (unQ op arg)
 | [a,b]=>a.bind fun x=>b.bind fun y=>biQ op x y
 | [a,y,z]=>a.bind fun c=>if 0<=c then y else z
 | _=>none
mutual
def bL(vals:List (List Nat × Rat)):Tr->Option Rat
 | .mk op arg neg l m name ks=>if op=1 then some (aK neg l m) else if op=2 then eN vals name else if op=3 then none else aEn op arg (bY vals ks)
def bY(vals:List (List Nat × Rat)):List Tr->List (Option Rat)
 | []=>[]
 | t::ts=>bL vals t::bY vals ts
end
theorem aEo{q r:Rat}(h:dZ q=some r):fits r:=by
 unfold dZ at h
 split at h
 .cases h;assumption
 .cases h
theorem fU:fits 1:=by
 have:=wN 1 Ae Ae;exact this
end Go.Proofs.Y
/- The polynomial form of a tree: plain words. -/
namespace Go.Proofs.Y
open Go Go.Vc Go.Dig
abbrev Pol:Type:=List (Mon × Rat)
def tmL(a b:Pol):Pol:=a.flatMap fun x=>b.map fun y=>(jn x.1 y.1,x.2*y.2)
def plL(a b:Pol)(k:Rat):Pol:=a++b.map fun t=>(t.1,t.2*k)
theorem aV3(f:Mon->Rat)(m:Mon)(c:Rat):∀b:Pol,sm f (b.map fun y=>(jn m y.1,c*y.2))=c*sm (fun y=>f (jn m y)) b
 | []=>(bNd _).symm
 | t::b=>by rw[bJw,dQ,dQ,aV3 f m c b,Rat.mul_add,bLc]
theorem nP(f:Mon->Rat)(b:Pol):∀a:Pol,sm f (tmL a b)=sm (fun x=>sm (fun y=>f (jn x y)) b) a
 | []=>rfl
 | t::a=>by
  have e:tmL (t::a) b=(b.map fun y=>(jn t.1 y.1,t.2*y.2))++tmL a b:=rfl
  rw[e,aMq,aV3,nP f b a,dQ]
theorem aJt(f:Mon->Rat)(k:Rat):∀b:Pol,sm f (b.map fun t=>(t.1,t.2*k))=k*sm f b
 | []=>(bNd _).symm
 | t::b=>by rw[bJw,dQ,dQ,aJt f k b,Rat.mul_add,<-bLc,bMz t.2 k]
theorem mH(f:Mon->Rat)(a b:Pol)(k:Rat):sm f (plL a b k)=sm f a+k*sm f b:=by unfold plL;rw[aMq,aJt]
def aG7(p:Pol):Prop:=200<p.length\/∃t∈p,∃f∈t.1,64<f.2
def aG8(p:Pol):Prop:=∃t∈p,¬fits t.2
instance (p:Pol):Decidable (aG7 p):=by unfold aG7;exact inferInstance
instance (p:Pol):Decidable (aG8 p):=by unfold aG8;exact inferInstance
def bS(l:Pol):Except Nat Pol:=if aG7 (bZ l) then .error 4 else if aG8 (bZ l) then .error 1 else .ok (bZ l)
def jU(q:Rat):Pol:=if q=0 then [] else [([],q)]
def cH(s:List UInt8):Except Nat Pol:=if 4000<s.length then .error 4 else .ok [([(s,1)],1)]
def cA(b:Tr)(a:Pol):Except Nat Pol:=match a with
 | [([],c)]=>.ok [([],1 / c)]
 | _=>if 4000<(aE b).length then .error 4 else cH (eR++b8 (aN (aE b,aT b.op) 3))
def gQ(a:Pol):Nat->Except Nat Pol
 | 0=>.ok [([],1)]
 | n+1=>match gQ a n with
  | .error e=>.error e
  | .ok o=>bS (tmL o a)
def gO(e:Tr)(op arg:Int)(q:Rat)(rs:List (Tr × Except Nat Pol)):Except Nat Pol:=
 if op=1 then .ok (jU q)
 else if 4<=op/\op<=9 then
  match rs with
  | []=>.error 0
  | (_,.error n)::_=>.error n
  | (k,.ok a)::r=>
   if op=4 then bS (plL [] a (-1))
   else if op=9 then
    if arg<0 then match cA k a with
     | .error n=>.error n
     | .ok c=>gQ c arg.natAbs
    else gQ a arg.natAbs
   else match r with
    | []=>.error 0
    | (_,.error n)::_=>.error n
    | (k',.ok b)::_=>
     if op=5 then bS (plL a b 1)
     else if op=6 then bS (plL a b (-1))
     else if op=7 then bS (tmL a b)
     else match cA k' b with
      | .error n=>.error n
      | .ok c=>bS (tmL a c)
 else cH (b8 (aE e))
mutual
def aO:Tr->Except Nat Pol
 | .mk op arg neg l m name ks=>gO (.mk op arg neg l m name ks) op arg (aK neg l m) (dC ks)
def dC:List Tr->List (Tr × Except Nat Pol)
 | []=>[]
 | t::ts=>(t,aO t)::dC ts
end
structure lG (p:Pol):Prop where
 can:sX p
 red:∀t∈p,aB4 t.1
 deg:∀t∈p,∀f∈t.1,f.2<=64
 fit:∀t∈p,fits t.2
 len:p.length<=200
theorem tB{K V:Type}[eI K][DecidableEq K][Add V][OfNat V 0][gY V][DecidableEq V]{P:K->Prop}{l:List (K × V)}(h:∀t∈l,P t.1):∀t∈bZ l,P t.1:=fun t ht=>by
 have h1:∀(k:K) (v:V) (q:List (K × V)),P k->(∀t∈q,P t.1)->∀t∈iR k v q,P t.1:=by
  intro k v q hk
  induction q with
  | nil=>intro _ t ht;unfold iR at ht;rw[bI2] at ht;subst ht;exact hk
  | cons n q ih=>
   intro hq t ht;obtain⟨n,d⟩:=n;unfold iR at ht
   split at ht
   .rcases bI7.1 ht with rfl|ht
    .exact hk
    .exact hq t ht
   .split at ht
    .rcases bI7.1 ht with rfl|ht
     .exact hq (n,d) (bIw ..)
     .exact hq t (bIz _ ht)
    .rcases bI7.1 ht with rfl|ht
     .exact hq (n,d) (bIw ..)
     .exact ih (fun t ht=>hq t (bIz _ ht)) t ht
 have h2:∀t∈kP l,P t.1:=by
  clear ht
  induction l with
  | nil=>intro t ht;exact absurd ht (by simp[kP])
  | cons u l ih=>exact h1 _ _ _ (h u (bIw ..)) (ih fun t ht=>h t (bIz _ ht))
 exact h2 t (List.mem_filter.1 ht).1
theorem aEp{l p:Pol}(h:∀t∈l,aB4 t.1)(e:bS l=.ok p):lG p:=by
 unfold bS at e
 split at e
 .cases e
 .rename_i h1
  split at e
  .cases e
  .rename_i h2;cases e;refine⟨eH l,tB h,fun t ht f hf=>?_,fun t ht=>?_,?_⟩
   .exact Nat.le_of_not_lt fun x=>h1 (.inr ⟨t,ht,f,hf,x⟩)
   .exact Decidable.byContradiction fun x=>h2 ⟨t,ht,x⟩
   .exact Nat.le_of_not_lt fun x=>h1 (.inl x)
theorem bDl(a b:Pol):∀t∈tmL a b,aB4 t.1:=fun t ht=>by
 unfold tmL at ht;obtain⟨x,hx,ht⟩:=List.mem_flatMap.1 ht;obtain⟨y,hy,rfl⟩:=List.mem_map.1 ht;exact bDc _ _
theorem bDm{a b:Pol}(k:Rat)(ha:∀t∈a,aB4 t.1)(hb:∀t∈b,aB4 t.1):∀t∈plL a b k,aB4 t.1:=fun t ht=>by
 unfold plL at ht;rcases bIx.1 ht with ht|ht
 .exact ha t ht
 .obtain⟨y,hy,rfl⟩:=List.mem_map.1 ht;exact hb y hy
/-! the ring -/
theorem aG9(a b:Pol)(f:Mon->Rat):sm f (tmL a b)=sm f (tmL b a):=by
 rw[nP,nP,aOq];refine jS fun t _=>?_
 exact jS fun u _=>by rw[bAk]
theorem aO9{a a':Pol}(h:∀f,sm f a=sm f a')(b:Pol)(f:Mon->Rat):sm f (tmL a b)=sm f (tmL a' b):=by rw[nP,nP,h]
theorem aJu{b b':Pol}(h:∀f,sm f b=sm f b')(a:Pol)(f:Mon->Rat):sm f (tmL a b)=sm f (tmL a b'):=by rw[aG9,aO9 h,aG9]
theorem aV4(a b c:Pol)(f:Mon->Rat):sm f (tmL (tmL a b) c)=sm f (tmL a (tmL b c)):=by
 rw[nP,nP,nP];refine jS fun x _=>?_
 rw[nP];refine jS fun y _=>?_
 exact jS fun z _=>by rw[aVc]
end Go.Proofs.Y
/- The value of a monomial at values of its atoms: plain mathematics. -/
namespace Go.Dig
def pr{K:Type}(f:K->Rat)(l:List K):Rat:=l.foldr (fun t s=>f t*s) 1
section
variable {K L:Type}
end
section
variable (al:List UInt8->Rat)
def ph(m:Mon):Rat:=pr (fun t=>al t.1^t.2) m
def Aok(s:List UInt8):Prop:=nmA s\/∀u,inv s=some u->al s*al u=1
def pg(t u:Fac):Rat:=if inv t.1=some u.1 then al t.1^min t.2 u.2 else 1
end
end Go.Dig
/- Literals of a tree, on both sides; Has. -/
namespace Go.Proofs.Y
open Go Go.Vc Go.Dig
theorem litT_num{arg:Int}{op:Int}{neg:Bool}{l m name:List Nat}{ks:List Tr}(h:op=1):uN (.mk op arg neg l m name ks)=some (aK neg l m):=by
 unfold uN;dsimp only;rw[if_pos h]
theorem litT_neg{arg op:Int}{neg:Bool}{l m name:List Nat}{op0 arg0:Int}{neg0:Bool}{l0 m0 name0:List Nat}{ks0 ks:List Tr}(h:op=4):uN (.mk op arg neg l m name (.mk op0 arg0 neg0 l0 m0 name0 ks0::ks))=if op0=1 then some (-(aK neg0 l0 m0)) else none:=by
 unfold uN;dsimp only;rw[if_neg Aa,if_pos h]
theorem litT_no{arg op:Int}{neg:Bool}{l m name:List Nat}{ks:List Tr}(h1:op≠1)(h4:op≠4):uN (.mk op arg neg l m name ks)=none:=by
 unfold uN;dsimp only;rw[if_neg h1,if_neg h4]
theorem sz_neg'{k:Nat}{q:Rat}(h:Sz k q):Sz k (-q):=by
 refine⟨?_,?_⟩
 .have:nu (-q)=nu q:=by unfold nu;rw[Rat.neg_num,Int.natAbs_neg]
  rw[this];exact h.num
 .have:(-q).den=q.den:=bNs q;rw[this];exact h.den
theorem isFr_neg{h:aA}{a b:Sl}{q:Rat}(w:eJ h a b q):eJ h a b (-q):=by
 refine⟨?_,?_⟩
 .have:nu (-q)=nu q:=by unfold nu;rw[Rat.neg_num,Int.natAbs_neg]
  rw[this];exact w.num
 .have:(-q).den=q.den:=bNs q;rw[this];exact w.den
theorem LdN.part3{h h':aA}{L:Vc.Own}{bl off o:Nat}{ws:List Value}{x y z:Value}{k:Value->Prop}(hc:∀(i:Nat) v,h.le h'->ws[i]?=some v->Has h' L ⟨bl,off+i,none⟩ v)(hl:h.le h')(h0:ws[o]?=some x)
  (h1:ws[o+1]?=some y) (h2:ws[o+2]?=some z) (hk:k (.agg #[x,y,z])):LdN h' L ⟨bl,off+o,none⟩ 3 k:=
 ⟨[x,y,z],rfl,fun i hi=>by
   rw[bQ,bKd]
   match i,hi with
   | 0,_=>exact hc _ _ hl h0
   | 1,_=>exact hc _ _ hl h1
   | 2,_=>exact hc _ _ hl h2,hk⟩
theorem IsK.kidP{h:aA}{s:Sl}{ts:List Tr}(w:IsK h s ts)(j:Nat)(t:Tr)(ht:ts[j]?=some t):
  ∃(bl off:Nat) (op arg:Int) (neg:Bool) (a b:Sl) (name:List Nat) (s':Sl),IsE h [.int .i64 op,.int .i64 arg,.bool neg,a.val,b.val,.string (txt name),s'.val] t/\
   (∀h' (L:Vc.Own) (i:Nat) v,h.le h'->[.int .i64 op,.int .i64 arg,.bool neg,a.val,b.val,.string (txt name),s'.val][i]?=some v->Has h' L ⟨bl,off+i,none⟩ v)/\
   (∀h' (L:Vc.Own) (k':Value->Prop),h.le h'->k' (.agg #[.bool neg,a.val,b.val])->LdN h' L ⟨bl,off+2,none⟩ 3 k')/\
   ∀(i:Int) (k:Addr->Prop),i=j->k ⟨bl,off,none⟩->Idx s.a i s.l 7 k:=by
 obtain⟨hj,-⟩:=bIr.1 ht;rcases w.mem with e|⟨bl,off,c,T,fz,e1,e2,e3⟩
 .subst e;simp at ht
 .obtain⟨vs,h1,h2,h3⟩:=kM.get e3 ht;obtain⟨op,arg,neg,l,m,name,ks⟩:=t;have h3':=h3;rw[IsE] at h3;obtain⟨a,b,s',rfl,-⟩:=h3;have hc:∀h' (L:Vc.Own) (i:Nat) v,h.le h'->[.int .i64 op,.int .i64 arg,.bool neg,a.val,b.val,.string (txt name),s'.val][i]?=some v->Has h' L ⟨bl,off+j*7+i,none⟩ v:=fun h' L i v hl hv=>by
   have hi7:i<7:=(bIr.1 hv).1;exact Has.imm (hl _ _ e2) (by rw[h2 i hi7,hv])
  exact⟨bl,off+j*7,op,arg,neg,a,b,name,s',h3',hc,fun h' L k' hl hk'=>LdN.part3 (o:=2) (hc h' L) hl rfl rfl rfl hk',fun i k hi hk=>Idx.of j e1 hi (by rw[w.len];exact hj) hk⟩
def bIi(h:aA)(v:Value)(o:Option Rat):Prop:=∃(b:Bool) (c e:Sl) (i:Bool),v=.tuple #[.agg #[.bool b,c.val,e.val],.bool i]/\(i=true->∃q,o=some q/\Sz 64 q/\b=sg q/\eJ h c e q)/\(i=false->o=none)
def bIj(h:aA)(v:Value)(o:Option Rat):Prop:=∃(b:Bool) (c e:Sl) (i:Bool),v=.tuple #[.agg #[.bool b,c.val,e.val],.bool i]/\(i=true->∃q,o=some q/\Sz 64 q/\b=sg q/\IsQ h c e q)/\(i=false->o=none)
theorem literal_g(t:Tr)(hok:okG t)(h:aA)(vs:List Value)(tb:Tb h)(w:IsE h vs t):Fn0 T F.q186 [.agg vs.toArray] h fun v h'=>bIi h' v (uN t):=by
 obtain⟨op,arg,neg,l,m,name,ks⟩:=t;obtain⟨a,b,s,rfl,ho,ha,hv,hb,hk⟩:=w.isK;rw[okG] at hok;obtain⟨hnb,hoks⟩:=hok;have hkl:=hk.len;have hq1:=hnb.2.2.2.2;have c1:=fun h tb hv=>iU h tb neg a b l m hv
 by_cases o4:op=4
 .have hks:=ks_one hnb.1 (by rw[o4];rfl);obtain⟨⟨op0,arg0,neg0,l0,m0,name0,ks0⟩,hk0⟩:=AH (ks.getD 0 bI);rw[<-hk0] at hks;subst hks;rw[aJl,okG] at hoks;have hq0:=hoks.1.1.2.2.2.2;have r1:=litT_neg (arg:=arg) (neg:=neg) (l:=l) (m:=m) (name:=name) (op0:=op0) (arg0:=arg0) (neg0:=neg0) (l0:=l0) (m0:=m0) (name0:=name0) (ks0:=ks0) (ks:=[]) o4;have c2:=fun h tb a b hv=>iU h tb neg0 a b l0 m0 hv
  obtain⟨R,hR⟩:=AH (uN (.mk op arg neg l m name [.mk op0 arg0 neg0 l0 m0 name0 ks0]));rw[<-hR] at r1 ⊢;have hks1:([.mk op0 arg0 neg0 l0 m0 name0 ks0]:List Tr).length=1:=rfl;rw[hks1] at hkl;refine f0C ok D.q186 rfl ?_;conv=>whnf
  repeat' first|((first|(apply bJ.go)|(show LdN _ _ _ _ _;((first|refine LdN.oA 0 rfl rfl ?_|refine LdN.oA 1 rfl rfl ?_|refine LdN.oA 2 rfl rfl ?_)))|(show Idx _ _ _ _ _;(refine Idx.kid hk 0 _ rfl rfl (fun ad op2 arg2 neg2 a2 b2 name2 s2 hE hld=>?_);obtain⟨rfl,rfl,rfl,hv2,hnm2,hb2,hk2⟩:=IsE.inv hE))|refine hld _ _ _ (aA.lr _) ?_|((first|apply oI.z|apply cI.z))|intro (_:Nat)|(show CN _ _ _ _ _ _;first|(refine CN.f rfl (c2 _ Ab _ _ hv2) (fun v h' hl2 hr=>?_);obtain⟨sb,cc,dd,rfl,hrr⟩:=hr;obtain⟨rfl,hfr⟩:=hrr (by rw[if_pos Ab] at hq0;exact hq0.1))|(refine CN.quiet rfl (zL _ _ _ _ Ab ((okR.sz (by rw[if_pos Ab] at hq0;exact hq0.1)).mono Ae)) ?_))|refine Ld.o 1 rfl rfl ?_|(show Sto _ _ _ _;first|refine Sto.l 0 rfl rfl rfl ?_|refine Sto.l 1 rfl rfl rfl ?_))<;>conv=>whnf)|(show cnd _ _ _;first|(apply aD<;>intro _<;>first|(exfalso;omega)|conv=>whnf)|(refine aI ?_))
  .have hq00:=hq0;rw[if_pos Ab] at hq00;refine RN.a (R:=fun v h'=>bIi h' v R) ?_
   exact⟨_,cc,dd,true,rfl,fun _=>⟨_,by rw[r1,if_pos Ab],sz_neg' (okR.sz hq00.1),rfl,isFr_neg (hfr)⟩,fun x=>by cases x⟩
  .refine RN.a ⟨_,⟨none,0,0⟩,⟨none,0,0⟩,false,rfl,(fun x=>by cases x),fun _=>by rw[r1,if_neg Ab]⟩
 .have r1:op=1->uN (.mk op arg neg l m name ks)=some (aK neg l m):=litT_num;have r2:¬op=1->uN (.mk op arg neg l m name ks)=none:=fun x=>litT_no x o4
  obtain⟨R,hR⟩:=AH (uN (.mk op arg neg l m name ks));rw[<-hR] at r1 r2 ⊢;refine f0C ok D.q186 rfl ?_;conv=>whnf
  repeat' first|((first|(apply bJ.go)|(show LdN _ _ _ _ _;((first|refine LdN.oA 0 rfl rfl ?_|refine LdN.oA 1 rfl rfl ?_|refine LdN.oA 2 rfl rfl ?_)))|(show CN _ _ _ _ _ _;(refine CN.f rfl (c1 _ Ab Ab) (fun v h' hl2 hr=>?_);obtain⟨sb,cc,dd,rfl,hrr⟩:=hr;obtain⟨rfl,hfr⟩:=hrr (by rw[if_pos Ab] at hq1;exact hq1.1)))|((first|apply oI.z|apply cI.z))|intro (_:Nat)|refine Ld.o 1 rfl rfl ?_|(show Sto _ _ _ _;first|refine Sto.l 0 rfl rfl rfl ?_|refine Sto.l 1 rfl rfl rfl ?_))<;>conv=>whnf)|(show cnd _ _ _;first|(apply aD<;>intro _<;>first|(exfalso;omega)|conv=>whnf)|(refine aI ?_))
  .have hq00:=hq1;rw[if_pos Ab] at hq00;refine RN.a ⟨_,_,_,true,rfl,fun _=>⟨_,r1 Ab,okR.sz hq00.1,rfl,Ab⟩,fun x=>by cases x⟩
  .refine RN.a ⟨_,⟨none,0,0⟩,⟨none,0,0⟩,false,rfl,(fun x=>by cases x),fun _=>r2 Ab⟩
end Go.Proofs.Y
/- Simplify: plain. -/
namespace Go.Proofs.Y
open Go Go.Vc Go.Dig
def numQ(q:Rat):Tr:=.mk 1 0 (sg q) (dg 4294967296 (nu q)) (dg 4294967296 (dn q)) [] []
def mkL(q:Rat):Tr:=if q<0 then aG 4 0 [numQ (-q)] else numQ q
def aJx:Tr->Prop
 | .mk op _ _ _ _ _ _=>op=4
instance (t:Tr):Decidable (aJx t):=by cases t;unfold aJx;exact inferInstance
def bDo:Tr->Tr
 | .mk _ _ _ _ _ _ (k::_)=>k
 | t=>t
def bDp(e a:Tr):Tr:=match uN a with
 | some v=>mkL (-v)
 | none=>if aJx a then bDo a else e
def bGa(op:Int)(x y:Rat):Option Rat:=if op=5 then dZ (x+y) else if op=6 then dZ (x-y) else if op=7 then dZ (x*y) else if y=0 then none else dZ (x / y)
def bGb(op:Int)(a b:Tr):Option Rat:=(uN a).bind fun x=>(uN b).bind fun y=>bGa op x y
def addS(e a b:Tr):Tr:=if uN a=some 0 then b else if uN b=some 0 then a else if aJx b then aG 6 0 [a,bDo b] else e
def bHt(e a b:Tr):Tr:=if uN b=some 0 then a else if uN a=some 0 then bDp (aG 4 0 [b]) b else if aJx b then aG 5 0 [a,bDo b] else e
def mulS(e a b:Tr):Tr:=if uN a=some 0\/uN b=some 0 then mkL 0 else if uN a=some 1 then b else if uN b=some 1 then a else if uN a=some (-1) then bDp (aG 4 0 [b]) b else e
def bHu(e a b:Tr):Tr:=if uN a=some 0 then mkL 0 else if uN b=some 1 then a else e
def bHv(e:Tr)(op:Int)(a b:Tr):Tr:=match bGb op a b with
 | some q=>mkL q
 | none=>if op=5 then addS e a b else if op=6 then bHt e a b else if op=7 then mulS e a b else bHu e a b
def bHw(arg:Int)(a:Tr):Option Rat:=(uN a).bind fun x=>if arg<0/\x=0 then none else dZ (oX x arg)
def bHx(e:Tr)(arg:Int)(a:Tr):Tr:=match bHw arg a with
 | some q=>mkL q
 | none=>if arg=0 then mkL 1 else if arg=1 then a else e
def bGc(op arg:Int)(e:Tr):List Tr->Tr
 | [a]=>if op=4 then bDp e a else if op=9 then bHx e arg a else e
 | [a,b]=>if op=5\/op=6\/op=7\/op=8 then bHv e op a b else e
 | _=>e
mutual
def bDq:Tr->Tr
 | .mk op arg neg l m name ks=>bGc op arg (.mk op arg neg l m name (aV8 ks)) (aV8 ks)
def aV8:List Tr->List Tr
 | []=>[]
 | t::ts=>bDq t::aV8 ts
end
theorem simTs_len:∀ts:List Tr,(aV8 ts).length=ts.length
 | []=>rfl
 | t::ts=>by rw[aV8,bIs,bIs,simTs_len ts]
theorem simTs_append:∀(a b:List Tr),aV8 (a++b)=aV8 a++aV8 b
 | [],b=>by rw[bKc,aV8,bKc]
 | t::a,b=>by rw[bJ7,aV8,aV8,simTs_append a b,bJ7]
/-! nodes that are right, and their sizes -/
theorem aHa{d:Nat}{q:Rat}(hd:d<=30)(h0:0<=q)(hf:fits q):okT d (numQ q):=by
 unfold numQ;rw[okT,dB];refine⟨hd,⟨rfl,Ae,Ae,rfl,?_⟩,trivial⟩;rw[if_pos rfl];exact⟨aTc hf,by rw[jO];exact h0⟩
theorem aJy{q:Rat}(h:fits q):fits (-q):=⟨by rw[yH];exact h.1,by rw[bNs];exact h.2⟩
theorem bGd{d:Nat}:∀{t:Tr},okT d t->d<=30
 | .mk op arg neg l m name ks,h=>by rw[okT] at h;exact h.1
theorem aV9{d:Nat}{op arg:Int}{a:Tr}(hk:bM op=1)(h1:jC op<=arg)(h2:arg<=eZ op)(h:okT (d+1) a):okT d (aG op arg [a]):=by
 have hd:=bGd h;have hop:op≠2/\op≠1:=⟨fun e=>by rw[e] at hk;exact absurd hk Ae,fun e=>by rw[e] at hk;exact absurd hk Ae⟩
 unfold aG;rw[okT,dB,dB];refine⟨Aa,⟨hk.symm,h1,h2,?_,?_⟩,h,trivial⟩
 .rw[if_neg hop.1]
 .rw[if_neg hop.2];simp[bH]
theorem bDr{d:Nat}{q:Rat}(hd:d+1<=30)(hf:fits q):okT d (mkL q):=by
 unfold mkL
 split
 .rename_i h;refine aV9 Ae Ae Ae (aHa hd ?_ (aJy hf));have:=Rat.neg_lt_neg h;rw[Rat.neg_zero] at this;exact Rat.le_of_lt this
 .rename_i h;exact aHa Aa (Rat.not_lt.1 h) hf
def Fit(d n:Nat)(t:Tr):Prop:=okT d t/\szT t<=n
theorem foldQ_fits{op:Int}{x y r:Rat}(h:bGa op x y=some r):fits r:=by
 unfold bGa at h
 repeat' split at h
 all_goals first
  | (cases h;done)
  | exact aEo h
theorem foldT_fits{op:Int}{a b:Tr}{r:Rat}(h:bGb op a b=some r):fits r:=by
 obtain⟨x,-,h⟩:=Option.bind_eq_some_iff.1 h;obtain⟨y,-,h⟩:=Option.bind_eq_some_iff.1 h;exact foldQ_fits h
theorem powV_fits{arg:Int}{a:Tr}{r:Rat}(h:bHw arg a=some r):fits r:=by
 obtain⟨x,-,h⟩:=Option.bind_eq_some_iff.1 h
 split at h
 .cases h
 .exact aEo h
theorem aJz{q:Rat}(h:0<=q):gP q=q:=by
 unfold gP;have e:sg q=false:=by
  unfold sg;exact decide_eq_false (by have:=Rat.num_nonneg.2 h;omega)
 rw[<-e];exact nF q
theorem aWa{q:Rat}(h:¬0<=q):gP q=-q:=by
 have h1:0<=-q:=by
  have:=Rat.neg_lt_neg (Rat.not_le.1 h);rw[Rat.neg_zero] at this;exact Rat.le_of_lt this
 rw[<-aJz h1];unfold gP;rw[yH,bNs]
end Go.Proofs.Y
/- A tree keeps its value when it is simplified: plain. -/
namespace Go.Proofs.Y
open Go Go.Vc Go.Dig
theorem rI{q r:Rat}(h:dZ q=some r):q=r:=by
 unfold dZ at h
 split at h
 .exact Option.some.inj h
 .cases h
section
variable {vals:List (List Nat × Rat)} (hv:∀b∈vals,fits b.2)
include hv
end
end Go.Proofs.Y
/- A form has the value of its tree: plain mathematics. -/
namespace Go.Proofs.Y
open Go Go.Vc Go.Dig
def Mok(al:List UInt8->Rat)(p:Pol):Prop:=∀t∈p,∀f∈t.1,Aok al f.1
structure aWd (vals:List (List Nat × Rat)) (al:List UInt8->Rat):Prop where
 atom:∀(u:Tr) (w:Rat),okT 1 u->szT u<=300->(aE u).length<=4000->u.op≠1->¬(4<=u.op/\u.op<=9)->bL vals u=some w->al (b8 (aE u))=w
 atomI:∀(u:Tr),okT 1 u->u.op≠1->¬(4<=u.op/\u.op<=9)->nmA (b8 (aE u))\/inv (b8 (aE u))=none
 recip:∀(b:Tr) (w:Rat),okT 2 b->szT b<=299->(aN (aE b,aT b.op) 3).length<=3996->bL vals b=some w->w≠0->al (eR++b8 (aN (aE b,aT b.op) 3))=1 / w/\Aok al (eR++b8 (aN (aE b,aT b.op) 3))
theorem aM1{ks:List Tr}{n:Int}(h:(ks.length:Int)=n)(hn:n=1):∃k,ks=[k]:=by
 match ks,h with
 | [k],_=>exact⟨k,rfl⟩
 | [],h=>simp at h;omega
 | _::_::r,h=>simp at h;omega
theorem aWe{ks:List Tr}{n:Int}(h:(ks.length:Int)=n)(hn:n=2):∃a b,ks=[a,b]:=by
 match ks,h with
 | [a,b],_=>exact⟨a,b,rfl⟩
 | [_],h=>simp at h;omega
 | [],h=>simp at h;omega
 | _::_::_::r,h=>simp at h;omega
end Go.Proofs.Y
/- The tokens of the text of a tree: plain. -/
namespace Go.Proofs.Y
open Go Go.Vc Go.Dig
def aCi(c:Nat):Prop:=aln c=false/\c≠46/\c≠47
def xH(rest:List Nat):Prop:=∀c,rest.head?=some c->aCi c
def kt(t:Tk):Nat × List Nat:=(t.kind,t.text)
def Sc(b:Bool)(a:List Nat)(ks:List (Nat × List Nat)):Prop:=
 ∀(rest:List Nat) (n i:Nat) (acc:List Tk),(b=true->xH rest)->(a++rest).length<=n->∃n' ts,rest.length<=n'/\ts.map kt=ks/\dD n (a++rest) i acc=dD n' rest (i+a.length) (acc++ts)
/-! numbers -/
/-! the tokens of a tree -/
def sgT(c:Nat):Nat × List Nat:=(0,[c])
def itK(n:Int):List (Nat × List Nat):=if n<0 then [sgT 45,(1,bN n.natAbs)] else [(1,bN n.natAbs)]
def mL(x:List (Nat × List Nat) × Int)(low:Int):List (Nat × List Nat):=if low<=x.2 then x.1 else [sgT 40]++x.1++[sgT 41]
def dG:Bool->List (List (Nat × List Nat) × Int)->List (Nat × List Nat)
 | _,[]=>[]
 | true,x::r=>x.1++dG false r
 | false,x::r=>[sgT 44]++x.1++dG false r
def opC(op:Int):Nat:=if op=5 then 43 else if op=6 then 45 else if op=7 then 42 else 47
def aJ3(op arg:Int):List (Nat × List Nat):=
 if op=10 then (if arg=2 then [(0,[115,113,114,116]),sgT 40] else [(0,[114,111,111,116]),sgT 40]++itK arg++[sgT 44])
 else if op=11 then [(3,aW.getD (arg.toNat-1) []),sgT 40]
 else if op=12 then [(0,[97,98,115]),sgT 40] else if op=13 then [(0,[109,105,110]),sgT 40] else if op=14 then [(0,[109,97,120]),sgT 40] else if op=15 then [(0,[105,102]),sgT 40] else []
def zO(op arg:Int)(q:Rat)(name:List Nat)(xs:List (List (Nat × List Nat) × Int)):List (Nat × List Nat):=
 if op=1 then [(1,jB q)] else if op=2 then [(2,name)] else if op=3 then [(0,[112,105])]
 else if op=4 then [sgT 45]++mL (xs.getD 0 ([],0)) 3
 else if op=5\/op=6 then mL (xs.getD 0 ([],0)) 1++[sgT (opC op)]++mL (xs.getD 1 ([],0)) 2
 else if op=7\/op=8 then mL (xs.getD 0 ([],0)) 2++[sgT (opC op)]++mL (xs.getD 1 ([],0)) 3
 else if op=9 then mL (xs.getD 0 ([],0)) 5++([sgT 94]++itK arg)
 else aJ3 op arg++dG true xs++[sgT 41]
mutual
def nQ:Tr->List (Nat × List Nat)
 | .mk op arg neg l m name ks=>zO op arg (aK neg l m) name (fV ks)
def fV:List Tr->List (List (Nat × List Nat) × Int)
 | []=>[]
 | t::ts=>(nQ t,aT t.op)::fV ts
end
def bDu(x:List Nat × Int)(y:List (Nat × List Nat) × Int):Prop:=x.2=y.2/\Sc true x.1 y.1
def aCk:List (List Nat × Int)->List (List (Nat × List Nat) × Int)->Prop
 | [],[]=>True
 | x::xs,y::ys=>bDu x y/\aCk xs ys
 | _,_=>False
end Go.Proofs.Y
/- The text of a tree, parsed: plain. -/
namespace Go.Dig
end Go.Dig
namespace Go.Proofs.Y
open Go Go.Vc Go.Dig
section
variable (ts:List Tk)
def Ps(md:Md)(i:Nat)(cs:List Cn)(r:Pr Tr):Prop:=∃n,pp ts prs n md i cs=some r
end
section
variable {ts:List Tk}
/-! tokens from a place on -/
def At(ts:List Tk)(i:Nat)(l:List (Nat × List Nat)):Prop:=(ts.map kt).drop i=l
def lL(l:List (Nat × List Nat))(s:List Nat):Prop:=l.head?≠some (0,s)
/-! counts that are in range -/
def okC(cs:List Cn):Prop:=∀c∈cs,¬vK c
/-! the tree that is read back -/
end
mutual
def reT:Tr->Tr
 | .mk op arg neg l m name ks=>if op=1 then aI3 (jB (aK neg l m)) prs else if op=2 then gA name else aG op arg (mI ks)
def mI:List Tr->List Tr
 | []=>[]
 | t::ts=>reT t::mI ts
end
section
variable (ts:List Tk)
structure Rd (lev:Int) (K:List (Nat × List Nat)) (t:Tr):Prop where
 head:5<=lev->∀l,lL (K++l) [45]
 atom:5<=lev->∀i l cs,At ts i (K++l)->okC cs->∃cs',okC cs'/\Ps ts .atom i cs (.ok t (i+K.length) cs')
 fac:3<=lev->∀i l cs,At ts i (K++l)->lL l [94]->okC cs->∃cs',okC cs'/\Ps ts .fac i cs (.ok t (i+K.length) cs')
 term:2<=lev->∀i l cs,At ts i (K++l)->lL l [94]->okC cs->∃cs',okC cs'/\∀r,Ps ts (.termL t) (i+K.length) cs' r->Ps ts .term i cs r
 sum:∀i l cs,At ts i (K++l)->lL l [94]->lL l [42]->lL l [47]->okC cs->∃cs',okC cs'/\∀r,Ps ts (.sumL t) (i+K.length) cs' r->Ps ts .sum i cs r
end
section
variable {ts:List Tk}
end
end Go.Proofs.Y
/- Simplify, plain, of trees of any depth. -/
namespace Go.Proofs.Y
open Go Go.Vc Go.Dig
theorem litV_fitsG{a:Tr}{v:Rat}(h:okG a)(e:uN a=some v):fits v:=by
 obtain⟨op,arg,neg,l,m,name,ks⟩:=a;rw[okG] at h;by_cases e1:op=1
 .rw[litT_num e1] at e;cases e;have hn:=h.1.2.2.2.2;rw[if_pos e1] at hn;exact hn.1.2.2
 by_cases e4:op=4
 .match ks,h,e with
  | .mk o a n l' m' nm ks'::us,h,e=>
   rw[litT_neg e4] at e
   split at e
   .rename_i e1;cases e;have h2:=h.2;rw[aJl,okG] at h2;have hn:=h2.1.1.2.2.2.2;rw[if_pos e1] at hn;exact aJy hn.1.2.2
   .cases e
  | [],h,e=>
   have:=h.1.1;rw[e4] at this;exact absurd this Ae
 .rw[litT_no e1 e4] at e;cases e
theorem isNeg_kidG{a:Tr}(h:okG a)(e:aJx a):∃k neg l m name arg,a=.mk 4 arg neg l m name [k]/\bDo a=k/\okG k:=by
 obtain⟨op,arg,neg,l,m,name,ks⟩:=a;rw[okG] at h;have e1:op=4:=e;subst e1;have hl:=h.1.1
 match ks,hl,h with
 | [k],_,h=>
  rw[aJl] at h;exact⟨k,neg,l,m,name,arg,rfl,rfl,h.2.1⟩
 | [],hl,_=>exact absurd hl Ae
 | _::_::us,hl,_=>
  have:bM 4=1:=Ae;rw[this] at hl;simp at hl;omega
theorem node1_G{op arg:Int}{a:Tr}(hk:bM op=1)(h1:jC op<=arg)(h2:arg<=eZ op)(h:okG a):okG (aG op arg [a]):=by
 have hop:op≠2/\op≠1:=⟨fun e=>by rw[e] at hk;exact absurd hk Ae,fun e=>by rw[e] at hk;exact absurd hk Ae⟩
 unfold aG;rw[okG,aJl,aJl];refine⟨⟨hk.symm,h1,h2,?_,?_⟩,h,trivial⟩
 .rw[if_neg hop.1]
 .rw[if_neg hop.2];simp[bH]
theorem node2_G{op:Int}{a b:Tr}(hk:bM op=2)(h1:jC op=0)(h2:eZ op=0)(h:okG a)(h':okG b):okG (aG op 0 [a,b]):=by
 have hop:op≠2/\op≠1:=⟨fun e=>by rw[e] at hk;exact absurd hk Ae,fun e=>by rw[e] at hk;exact absurd hk Ae⟩
 unfold aG;rw[okG,aJl,aJl,aJl];refine⟨⟨hk.symm,Aa,Aa,?_,?_⟩,h,h',trivial⟩
 .rw[if_neg hop.1]
 .rw[if_neg hop.2];simp[bH]
theorem mkL_G{q:Rat}(hf:fits q):okG (mkL q):=aG2 (d:=0) (bDr Ae hf)
theorem negS_G{e a:Tr}(he:okG e)(ha:okG a):okG (bDp e a):=by
 unfold bDp
 split
 .exact mkL_G (aJy (litV_fitsG ha Ab))
 .split
  .obtain⟨k,-,-,-,-,-,-,e1,e2⟩:=isNeg_kidG ha Ab;rw[e1];exact e2
  .exact he
theorem binS_G{e a b:Tr}(op:Int)(he:okG e)(ha:okG a)(hb:okG b):okG (bHv e op a b):=by
 have fn:okG (bDp (aG 4 0 [b]) b):=negS_G (node1_G Ae Ae Ae hb) hb;have fk:∀o,bM o=2->jC o=0->eZ o=0->aJx b->okG (aG o 0 [a,bDo b]):=fun o k1 k2 k3 hn=>by
  obtain⟨k,-,-,-,-,-,-,e1,e2⟩:=isNeg_kidG hb hn;rw[e1];exact node2_G k1 k2 k3 ha e2
 unfold bHv
 split
 .exact mkL_G (foldT_fits Ab)
 split
 .unfold addS
  repeat' split
  .exact hb
  .exact ha
  .exact fk 6 Ae Ae Ae Ab
  .exact he
 split
 .unfold bHt
  repeat' split
  .exact ha
  .exact fn
  .exact fk 5 Ae Ae Ae Ab
  .exact he
 split
 .unfold mulS
  repeat' split
  .exact mkL_G gC
  .exact hb
  .exact ha
  .exact fn
  .exact he
 .unfold bHu
  repeat' split
  .exact mkL_G gC
  .exact ha
  .exact he
theorem powS_G{e a:Tr}(arg:Int)(he:okG e)(ha:okG a):okG (bHx e arg a):=by
 unfold bHx
 split
 .exact mkL_G (powV_fits Ab)
 .repeat' split
  .exact mkL_G fU
  .exact ha
  .exact he
theorem nodeS_G{op arg:Int}{e:Tr}{ks:List Tr}(he:okG e)(hk:aJl ks):okG (bGc op arg e ks):=by
 match ks,hk with
 | [a],hk=>
  rw[aJl] at hk;rw[bGc]
  repeat' split
  .exact negS_G he hk.1
  .exact powS_G _ he hk.1
  .exact he
 | [a,b],hk=>
  rw[aJl,aJl] at hk;rw[bGc]
  split
  .exact binS_G op he hk.1 hk.2.1
  .exact he
 | [],_=>exact he
 | _::_::_::_,_=>exact he
mutual
theorem simT_G:∀{t:Tr},okG t->okG (bDq t)
 | .mk op arg neg l m name ks,h=>by
  rw[okG] at h;have g:=simTs_G h.2;rw[bDq];refine nodeS_G ?_ g;rw[okG];exact⟨by rw[simTs_len];exact h.1,g⟩
theorem simTs_G:∀{ts:List Tr},aJl ts->aJl (aV8 ts)
 | [],_=>by rw[aV8,aJl];trivial
 | t::ts,h=>by
  rw[aJl] at h;rw[aV8,aJl];exact⟨simT_G h.1,simTs_G h.2⟩
end
end Go.Proofs.Y
/- Derivatives: plain. -/
namespace Go.Proofs.Y
open Go Go.Vc Go.Dig
/-! trees with equal iX -/
theorem tD{us:List Tr}(h:iX []=iX us):us=[]:=by
 match us,h with
 | [],_=>rfl
 | _::_,h=>rw[iX,iX] at h;cases h
theorem qD{t:Tr}{ts us:List Tr}(h:iX (t::ts)=iX us):∃u us',us=u::us'/\key t=key u/\iX ts=iX us':=by
 match us,h with
 | [],h=>rw[iX,iX] at h;cases h
 | u::us,h=>
  rw[iX,iX,List.cons.injEq] at h;exact⟨u,us,rfl,h.1,h.2⟩
/-! the derivative: `g` tells how a node stands for itself -/
def bHy(e:Tr)(arg:Int)(a da:Tr):Tr:=if arg=0 then mkL 0 else aG 7 0 [aG 7 0 [mkL (arg:Rat),if -32<arg then aG 9 (arg-1) [a] else aG 8 0 [e,a]],da]
def bGf(e:Tr)(arg:Int)(da:Tr):Tr:=aG 8 0 [da,aG 7 0 [mkL (arg:Rat),aG 9 (arg-1) [e]]]
def bGg(a:Tr):Tr:=aG 10 2 [aG 6 0 [mkL 1,aG 9 2 [a]]]
def bGh(e:Tr)(arg:Int)(a da:Tr):Tr:=
 if arg=1 then aG 7 0 [e,da] else if arg=2 then aG 8 0 [da,a] else if arg=3 then aG 7 0 [aG 11 4 [a],da]
 else if arg=4 then aG 4 0 [aG 7 0 [aG 11 3 [a],da]] else if arg=5 then aG 7 0 [aG 5 0 [mkL 1,aG 9 2 [e]],da]
 else if arg=6 then aG 8 0 [da,bGg a] else if arg=7 then aG 4 0 [aG 8 0 [da,bGg a]] else aG 8 0 [da,aG 5 0 [mkL 1,aG 9 2 [a]]]
def bHz(op:Int)(a b da db:Tr):Tr:=
 if op=5\/op=6 then aG op 0 [da,db] else if op=7 then aG 5 0 [aG 7 0 [da,b],aG 7 0 [a,db]]
 else aG 8 0 [aG 6 0 [aG 7 0 [da,b],aG 7 0 [a,db]],aG 9 2 [b]]
def bGi(e:Tr)(op arg:Int):List Tr->List Tr->Tr
 | [a],[da]=>if op=4 then aG 4 0 [da] else if op=9 then bHy e arg a da else if op=10 then bGf e arg da else bGh e arg a da
 | [a,b],[da,db]=>bHz op a b da db
 | _,_=>bI
mutual
def bDx(g:Tr->Tr)(nm:List Nat):Tr->Tr
 | .mk op arg neg l m name ks=>if op=1\/op=3 then mkL 0 else if op=2 then (if name=nm then mkL 1 else mkL 0) else bGi (g (.mk op arg neg l m name ks)) op arg ks (bCj g nm ks)
def bCj(g:Tr->Tr)(nm:List Nat):List Tr->List Tr
 | []=>[]
 | t::ts=>bDx g nm t::bCj g nm ts
end
def bare:Tr->Tr
 | .mk op arg _ _ _ _ ks=>aG op arg ks
mutual
def smT:Tr->Prop
 | .mk op _ _ _ _ _ ks=>¬aG3 op/\bGj ks
def bGj:List Tr->Prop
 | []=>True
 | t::ts=>smT t/\bGj ts
end
mutual
theorem smT_of:∀{t:Tr},(∀x∈bCb t,¬aG3 x.1)->smT t
 | .mk op arg neg l m name ks,h=>by
  rw[bCb] at h;rw[smT];exact⟨h _ (bIw ..),smTs_of fun x hx=>h x (bIz _ hx)⟩
theorem smTs_of:∀{ts:List Tr},(∀x∈aVu ts,¬aG3 x.1)->bGj ts
 | [],_=>by rw[bGj];trivial
 | t::ts,h=>by
  rw[aVu] at h;rw[bGj];exact⟨smT_of fun x hx=>h x (bJh _ hx),smTs_of fun x hx=>h x (bJi _ hx)⟩
end
theorem smT_res{t:Tr}(h:bAy t=none):smT t:=smT_of (resT_none.1 h)
theorem kinds_sm{op arg:Int}{neg:Bool}{l m name:List Nat}{n:Nat}(h:fC op arg neg l m name n)(s:¬aG3 op):
  op=1\/op=2\/op=3\/((op=4\/op=9\/op=10\/op=11)/\n=1)\/((op=5\/op=6\/op=7\/op=8)/\n=2):=by
 have h1:=h.1;unfold aG3 at s;unfold bM at h1
 repeat' split at h1
 all_goals omega
theorem mkI_G{n:Int}(h1:-4294967296<n)(h2:n<4294967296):okG (mkL (n:Rat)):=mkL_G (wN n Aa Aa)
theorem okG_kids{op arg:Int}{neg:Bool}{l m name:List Nat}{ks:List Tr}(h:okG (.mk op arg neg l m name ks)):aJl ks:=by rw[okG] at h;exact h.2
theorem powD_G{e a da:Tr}{arg:Int}(h1:-32<=arg)(h2:arg<=32)(he:okG e)(ha:okG a)(hd:okG da):okG (bHy e arg a da):=by
 unfold bHy
 split
 .exact mkL_G gC
 .refine node2_G Ae Ae Ae (node2_G Ae Ae Ae (mkI_G Aa Aa) ?_) hd
  split
  .exact node1_G Ae (by rw[show jC 9=-32 by decide];omega) (by rw[show eZ 9=32 by decide];omega) ha
  .exact node2_G Ae Ae Ae he ha
theorem oneD_G{a:Tr}(ha:okG a):okG (bGg a):=node1_G Ae Ae Ae (node2_G Ae Ae Ae (mkL_G fU) (node1_G Ae Ae Ae ha))
theorem callD_G{e a da:Tr}{arg:Int}(he:okG e)(ha:okG a)(hd:okG da):okG (bGh e arg a da):=by
 have h1:okG (mkL 1):=mkL_G fU;have hs:∀{x:Tr},okG x->okG (aG 9 2 [x]):=fun h=>node1_G Ae Ae Ae h
 have h7:∀{x y:Tr},okG x->okG y->okG (aG 7 0 [x,y]):=fun h h'=>node2_G Ae Ae Ae h h'
 have h8:∀{x y:Tr},okG x->okG y->okG (aG 8 0 [x,y]):=fun h h'=>node2_G Ae Ae Ae h h'
 have h5:∀{x y:Tr},okG x->okG y->okG (aG 5 0 [x,y]):=fun h h'=>node2_G Ae Ae Ae h h'
 have h4:∀{x:Tr},okG x->okG (aG 4 0 [x]):=fun h=>node1_G Ae Ae Ae h
 unfold bGh
 repeat' split
 .exact h7 he hd
 .exact h8 hd ha
 .exact h7 (node1_G Ae Ae Ae ha) hd
 .exact h4 (h7 (node1_G Ae Ae Ae ha) hd)
 .exact h7 (h5 h1 (hs he)) hd
 .exact h8 hd (oneD_G ha)
 .exact h4 (h8 hd (oneD_G ha))
 .exact h8 hd (h5 h1 (hs ha))
theorem binD_G{op:Int}{a b da db:Tr}(ha:okG a)(hb:okG b)(hd:okG da)(hd':okG db):okG (bHz op a b da db):=by
 have h7:∀{x y:Tr},okG x->okG y->okG (aG 7 0 [x,y]):=fun h h'=>node2_G Ae Ae Ae h h'
 unfold bHz
 split
 .rename_i h;rcases h with rfl|rfl
  .exact node2_G Ae Ae Ae hd hd'
  .exact node2_G Ae Ae Ae hd hd'
 split
 .exact node2_G Ae Ae Ae (h7 hd hb) (h7 ha hd')
 .exact node2_G Ae Ae Ae (node2_G Ae Ae Ae (h7 hd hb) (h7 ha hd')) (node1_G Ae Ae Ae hb)
mutual
theorem derT_G{g:Tr->Tr}(hg:∀(op arg:Int) (neg:Bool) (l m name:List Nat) (ks:List Tr),op≠1->op≠2->okG (.mk op arg neg l m name ks)->okG (g (.mk op arg neg l m name ks)))(nm:List Nat):∀{t:Tr},okG t->smT t->okG (bDx g nm t)
 | .mk op arg neg l m name ks,h,hs=>by
  have hk:=derTs_G hg nm (okG_kids h);have hks:=okG_kids h;rw[smT] at hs;replace hk:=hk hs.2;have hn:=h;rw[okG] at hn;have kn:=kinds_sm hn.1 hs.1;rw[bDx]
  split
  .exact mkL_G gC
  rename_i h1
  split
  .split
   .exact mkL_G fU
   .exact mkL_G gC
  rename_i h2;have he:=hg op arg neg l m name ks Aa h2 h
  match ks,hk,hks,kn with
  | [a],hk,hks,kn=>
   rw[bCj,bCj,aJl] at hk;rw[aJl] at hks;rw[bCj,bCj,bGi]
   split
   .exact node1_G Ae Ae Ae hk.1
   split
   .rename_i h9;have n1:=hn.1.2.1;have n2:=hn.1.2.2.1;rw[h9] at n1 n2;rw[show jC 9=-32 by decide] at n1
    rw[show eZ 9=32 by decide] at n2
    exact powD_G n1 n2 he hks.1 hk.1
   split
   .rename_i h10;have n1:=hn.1.2.1;have n2:=hn.1.2.2.1;rw[h10] at n1 n2;rw[show jC 10=2 by decide] at n1
    rw[show eZ 10=8 by decide] at n2
    exact node2_G Ae Ae Ae hk.1 (node2_G Ae Ae Ae (mkI_G Aa Aa) (node1_G Ae (by rw[show jC 9=-32 by decide];omega) (by rw[show eZ 9=32 by decide];omega) he))
   .exact callD_G he hks.1 hk.1
  | [a,b],hk,hks,kn=>
   rw[bCj,bCj,bCj,aJl,aJl] at hk;rw[aJl,aJl] at hks;rw[bCj,bCj,bCj,bGi];exact binD_G hks.1 hks.2.1 hk.1 hk.2.1
  | [],hk,hks,kn=>simp at kn;omega
  | _::_::_::_,hk,hks,kn=>simp at kn;omega
theorem derTs_G{g:Tr->Tr}(hg:∀(op arg:Int) (neg:Bool) (l m name:List Nat) (ks:List Tr),op≠1->op≠2->okG (.mk op arg neg l m name ks)->okG (g (.mk op arg neg l m name ks)))(nm:List Nat):∀{ts:List Tr},aJl ts->bGj ts->aJl (bCj g nm ts)
 | [],_,_=>by rw[bCj,aJl];trivial
 | t::ts,h,hs=>by
  rw[aJl] at h;rw[bGj] at hs;rw[bCj,aJl];exact⟨derT_G hg nm h.1 hs.1,derTs_G hg nm h.2 hs.2⟩
end
theorem derI_G{nm:List Nat}{t:Tr}(h:okG t)(s:smT t):okG (bDx id nm t):=derT_G (fun _ _ _ _ _ _ _ _ _ x=>x) nm h s
/-! what Derive answers, on both sides -/
def bIk(nm:List Nat)(t:Tr):Tr × Nat:=if ¬bB t then (bI,40) else if ¬fD nm then (bI,41) else if bAy t≠none then (bI,42) else mF (bDq (bDx id nm t))
def bH0(t:Tr):Tr × Nat:=if bB t then (t,0) else (bI,4)
def bIl(nm:List Nat)(t:Tr):Tr × Nat:=if ¬bB t then (bI,40) else if ¬fD nm then (bI,41) else if bAy t≠none then (bI,42) else bH0 (bDq (bDx bare nm t))
end Go.Proofs.Y
/- The text of a tree, parsed: each kind of node; the whole. -/
namespace Go.Proofs.Y
open Go Go.Vc Go.Dig
section
variable {ts:List Tk}
def Rds(ts:List Tk):List (List (Nat × List Nat) × Int)->List Tr->Prop
 | [],[]=>True
 | x::xs,u::us=>Rd ts x.2 x.1 u/\Rds ts xs us
 | _,_=>False
end
end Go.Proofs.Y
/- The text of a tree leads back to the tree; printing again changes nothing: plain. -/
namespace Go.Proofs.Y
open Go Go.Vc Go.Dig
/-! numbers among the tokens -/
def bBb(x:Nat × List Nat):Prop:=x.1=1->∃q,fits q/\0<=q/\x.2=jB q
def cU(l:List (Nat × List Nat)):Prop:=∀x∈l,bBb x
/-! the tree that is read back is right -/
/-! texts depend on iX alone -/
mutual
theorem uF:∀{t u:Tr},key t=key u->aE t=aE u
 | .mk op arg neg l m name ks,.mk op' arg' neg' l' m' name' ks',e=>by
  rw[key,key,Kt.mk.injEq] at e;obtain⟨rfl,rfl,e3,rfl,e5⟩:=e;rw[aE,aE,e3,aCo e5]
theorem aCo:∀{ts us:List Tr},iX ts=iX us->aL ts=aL us
 | [],us,e=>by rw[tD e]
 | t::ts,us,e=>by
  obtain⟨u,us',rfl,e1,e2⟩:=qD e;rw[aL,aL,uF e1,aCo e2];obtain⟨op,arg,neg,l,m,name,ks⟩:=t;obtain⟨op',arg',neg',l',m',name',ks'⟩:=u;rw[key,key,Kt.mk.injEq] at e1;show (_,aT op)::_=(_,aT op')::_;rw[e1.1]
end
end Go.Proofs.Y
/- Values of trees in which literals stand for variables, of copies, of resolved case distinctions: plain. -/
namespace Go.Proofs.Y
open Go Go.Vc Go.Dig
def dS(vals:List (List Nat × Rat)):List (List Nat × Tr):=vals.map fun b=>(b.1,mkL b.2)
section
variable {vals:List (List Nat × Rat)} (hv:∀b∈vals,fits b.2)
include hv
end
section
variable {vals:List (List Nat × Rat)} (hv:∀b∈vals,fits b.2)
include hv
end
end Go.Proofs.Y