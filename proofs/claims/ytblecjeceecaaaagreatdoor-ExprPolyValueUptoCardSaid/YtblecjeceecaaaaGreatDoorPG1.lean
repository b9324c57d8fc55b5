/- Values of atoms that suit the values of trees: an atom is read back: plain mathematics. -/
import Derived.Test.YtblecjeceecaaaaGreatDoorE66
set_option linter.all false
namespace Go.Proofs.Y
open Go Go.Vc Go.Dig
theorem aEu{p:Nat->Bool}:∀{l:List Nat},(l.takeWhile p).length=l.length->∀y∈l,p y=true
 | [],_,y,h=>by simp at h
 | c::l,e,y,h=>by
  rw[bLo] at e
  split at e
  .rename_i hc;rcases bI7.1 h with rfl|h
   .exact hc
   .exact aEu (by simpa using e) y h
  .simp at e
theorem tE{n:List Nat}(h:fD n):∃c r,n=c::r/\ltr c=true/\∀y∈r,aln y=true:=by
 have h2:=h.2.1;have h3:=h.2.2.1;cases n with
 | nil=>exact absurd rfl h3
 | cons c r=>
  have e:eB (c::r)=if ltr c=true then (r.takeWhile aln).length+1 else 0:=rfl
  rw[e] at h2
  split at h2
  .rename_i hc;exact⟨c,r,rfl,hc,aEu (by simpa using h2)⟩
  .simp at h2
theorem aWn{n:List Nat}(h:fD n):∀y∈n,y<256:=by
 obtain⟨c,r,rfl,hc,hr⟩:=tE h;have hl:=jI.1 hc;intro y hy;rcases bI7.1 hy with rfl|hy
 .omega
 .rcases aGg.1 (hr y hy) with x|x
  .have:=jI.1 x;omega
  .have:=fY.1 x;omega
mutual
theorem aAs:∀{d:Nat} {t:Tr},okT d t->∀y∈aE t,y<256
 | d,.mk op arg neg l m name ks,h=>by
  rw[okT] at h;rw[aE];refine aBy _ _ _ _ _ ?_ (aKa h.2.2);have hn:=h.2.1.2.2.2.1
  split at hn
  .exact aWn hn
  .rw[hn];simp
theorem aKa:∀{d:Nat} {ts:List Tr},dB d ts->∀x∈aL ts,∀y∈x.1,y<256
 | d,[],_=>by rw[aL];simp
 | d,t::ts,h=>by
  rw[dB] at h;rw[aL];intro x hx;rcases bI7.1 hx with rfl|hx
  .exact aAs h.1
  .exact aKa h.2 x hx
end
theorem tF{l:List Nat}(h:∀y∈l,y<256):(b8 l).map UInt8.toNat=l:=by
 unfold b8;rw[bL4];conv=>rhs;rw[<-List.map_id l]
 refine bMn fun y hy=>?_
 show (UInt8.ofNat y).toNat=y
 rw[UInt8.toNat_ofNat'];exact bJ3 (h y hy)
mutual
theorem aKb{vals:List (List Nat × Rat)}:∀{t u:Tr},key t=key u->bL vals t=bL vals u
 | .mk op arg neg l m name ks,.mk op' arg' neg' l' m' name' ks',e=>by
  rw[key,key,Kt.mk.injEq] at e;obtain⟨rfl,rfl,e3,rfl,e5⟩:=e;rw[bL,bL,e3,aEv e5]
theorem aEv{vals:List (List Nat × Rat)}:∀{ts us:List Tr},iX ts=iX us->bY vals ts=bY vals us
 | [],us,e=>by rw[tD e]
 | t::ts,us,e=>by
  obtain⟨u,us',rfl,e1,e2⟩:=qD e;rw[bY,bY,aKb e1,aEv e2]
end
def rdV(vals:List (List Nat × Rat))(l:List Nat):Option Rat:=bL vals (jL l).1
theorem xL{vals:List (List Nat × Rat)}{t:Tr}(h:bB t)(hl:(aE t).length<=4000):rdV vals (aE t)=bL vals t:=by
 unfold rdV;rw[aM5 h hl];exact aKb (aWm h)
def alV(vals:List (List Nat × Rat))(s:List UInt8):Rat:=
 if s.take 4=eR then 1 / -((rdV vals (45::(s.drop 4).map UInt8.toNat)).getD 0) else (rdV vals (s.map UInt8.toNat)).getD 0
theorem aWo(k:Nat):∃c r,aW.getD k []++[40]=c::r/\c≠49:=by
 by_cases h:k<8
 .have:∀k,k<8->((aW.getD k []++[40]).head?≠some 49/\(aW.getD k []++[40])≠[]):=Ae
  obtain⟨h1,h2⟩:=this k h;cases hx:aW.getD k []++[40] with
  | nil=>exact absurd hx h2
  | cons c r=>rw[hx] at h1;exact⟨c,r,rfl,fun e=>h1 (by rw[e];rfl)⟩
 .rw[bIp,bJn (show aW.length<=k by show 8<=k;omega)]
  exact⟨40,[],rfl,Ae⟩
theorem aCq{u:Tr}(h:okT 1 u)(h1:u.op≠1)(h2:¬(4<=u.op/\u.op<=9)):∃c r,aE u=c::r/\c≠49:=by
 obtain⟨op,arg,neg,l,m,name,ks⟩:=u;rw[okT] at h;have hn:=h.2.1.2.2.2.1;have hk:=h.2.1.1;replace h1:op≠1:=h1;replace h2:¬(4<=op/\op<=9):=h2;rw[aE];unfold rT;rw[if_neg h1];by_cases e2:op=2
 .rw[if_pos e2];rw[if_pos e2] at hn;obtain⟨c,r,e,hc,-⟩:=tE hn;exact⟨c,r,e,fun x=>by have:=jI.1 hc;omega⟩
 rw[if_neg e2];by_cases e3:op=3
 .rw[if_pos e3];exact⟨112,[105],rfl,Ae⟩
 rw[if_neg e3,if_neg Aa,if_neg Aa,if_neg Aa,if_neg Aa];have hr:∀(x y:List Nat),(∃c r,x=c::r/\c≠49)->∃c r,x++y=c::r/\c≠49:=fun x y ⟨c,r,e,hc⟩=>⟨c,r++y,by rw[e];rfl,hc⟩
 rw[bIt];refine hr _ _ ?_;unfold dR
 split
 .split
  .exact⟨115,_,rfl,Ae⟩
  .exact⟨114,_,rfl,Ae⟩
 split
 .exact aWo _
 split
 .exact⟨97,_,rfl,Ae⟩
 split
 .exact⟨109,_,rfl,Ae⟩
 split
 .exact⟨109,_,rfl,Ae⟩
 split
 .exact⟨105,_,rfl,Ae⟩
 .exfalso
  unfold bM at hk;rw[if_neg Aa,if_neg Aa,if_neg Aa,if_neg Aa] at hk;omega
theorem xM{l:List Nat}{c:Nat}{r:List Nat}(e:l=c::r)(hc:c≠49)(hb:∀y∈l,y<256):(b8 l).take 4≠eR:=fun h=>by
 have this:(((b8 l).take 4).map UInt8.toNat).head?=(eR.map UInt8.toNat).head?:=by rw[h]
 have h2:((b8 l).take 4).map UInt8.toNat=(((b8 l).map UInt8.toNat)).take 4:=bNr;rw[h2,tF hb,e] at this;exact hc (Option.some.inj this)
theorem aAt{n:List Nat}{d:Nat}(hn:fD n)(hd:d<=30:=by decide):okT d (gA n):=by
 unfold gA;rw[okT,dB];exact⟨hd,⟨rfl,Ae,Ae,by rw[if_pos rfl];exact hn,by rw[if_neg Ae];exact bH _⟩,trivial⟩
theorem aCr{vals:List (List Nat × Rat)}(hv:∀b∈vals,fits b.2):aWd vals (alV vals) where
 atom u w hok hsz hl h1 h2 hw:=by
  obtain⟨c,r,e,hc⟩:=aCq hok h1 h2;have hb:=aAs hok;unfold alV;rw[if_neg (xM e hc hb),tF hb,xL ⟨hok,hsz⟩ hl,hw];rfl
 atomI u hok h1 h2:=by
  obtain⟨c,r,e,hc⟩:=aCq hok h1 h2;have hb:=aAs hok;by_cases hn:nmA (b8 (aE u))
  .exact .inl hn
  .right
   unfold inv;rw[if_neg hn,if_neg fun x=>xM e hc hb x.2.1]
 recip b w hok hsz hl hw hw0:=by
  have hokn:okT 1 (aG 4 0 [b]):=by
   unfold aG;rw[okT,dB,dB];exact⟨Ae,⟨rfl,Ae,Ae,by rw[if_neg Ae],by rw[if_neg Ae];exact bH _⟩,hok,trivial⟩
  have hvn:bB (aG 4 0 [b]):=⟨hokn,by unfold aG;rw[szT,fO,fO];omega⟩
  have htx:aE (aG 4 0 [b])=45::aN (aE b,aT b.op) 3:=by
   unfold aG;rw[aE,aL,aL];rfl
  have hfw:fits w:=lS hv b 2 hok w hw;have hval:bL vals (aG 4 0 [b])=some (-w):=by
   unfold aG;rw[aCf ⟨Ae,Ae,Ae⟩,hw];show unQ 4 0 w=_;rw[aHb];exact if_pos (aJy hfw)
  have hrd:rdV vals (45::aN (aE b,aT b.op) 3)=some (-w):=by
   rw[<-htx,xL hvn (by rw[htx,bIs];omega),hval]
  have hpb:∀y∈aN (aE b,aT b.op) 3,y<256:=sU 3 (aAs hok)
  have hal:alV vals (eR++b8 (aN (aE b,aT b.op) 3))=1 / w:=by
   unfold alV;rw[if_pos (show (eR++b8 (aN (aE b,aT b.op) 3)).take 4=eR from rfl),show (eR++b8 (aN (aE b,aT b.op) 3)).drop 4=b8 (aN (aE b,aT b.op) 3) from rfl,tF hpb,hrd];show 1 / -(-w)=1 / w;rw[Rat.neg_neg]
  refine⟨hal,.inr fun u hu=>?_⟩
  rw[hal];rcases aAm.1 hu with ⟨hn,-⟩|⟨hn,he⟩
  .exact absurd hn (aGu _)
  .have hu:b8 (aN (aE b,aT b.op) 3)=u:=List.append_cancel_left he;subst hu;have hnm:fD (aN (aE b,aT b.op) 3):=by unfold nmA at hn;rwa [tF hpb] at hn
   obtain⟨n,hnn⟩:=AH (aN (aE b,aT b.op) 3);rw[<-hnn] at hnm hrd hpb ⊢;have hvv:bB (gA n):=by
    refine⟨?_,by unfold gA;rw[szT,fO];omega⟩
    unfold gA;rw[okT,dB];exact⟨Ae,⟨rfl,Ae,Ae,by rw[if_pos rfl];exact hnm,by rw[if_neg Ae];exact bH _⟩,trivial⟩
   have htv:aE (gA n)=n:=by unfold gA;rw[aE];rfl
   have hv2:bB (aG 4 0 [gA n]):=by
    refine⟨?_,by unfold aG gA;rw[szT,fO,fO,szT,fO];omega⟩
    unfold aG;rw[okT,dB,dB];exact⟨Ae,⟨rfl,Ae,Ae,by rw[if_neg Ae],by rw[if_neg Ae];exact bH _⟩,aAt hnm,trivial⟩
   have ht2:aE (aG 4 0 [gA n])=45::n:=by
    unfold aG;rw[aE,aL,aL,htv];rfl
   have hn8:=hnm.1;have e1:bL vals (aG 4 0 [gA n])=some (-w):=by rw[<-xL hv2 (by rw[ht2,bIs];omega),ht2,hrd]
   have e2:bL vals (gA n)=some w:=by
    unfold aG at e1;rw[aCf ⟨Ae,Ae,Ae⟩] at e1;cases hx:bL vals (gA n) with
    | none=>rw[hx] at e1;cases e1
    | some x=>
     rw[hx] at e1;have e1:unQ 4 0 x=some (-w):=e1;rw[aHb] at e1;have:=rI e1;rw[<-Rat.neg_neg x,this,Rat.neg_neg]
   obtain⟨c,r,e,hc,-⟩:=tE hnm;have hne:alV vals (b8 n)=w:=by
    unfold alV;rw[if_neg (xM e (fun x=>by have:=jI.1 hc;omega) hpb),tF hpb]
    have:=xL (vals:=vals) hvv (by rw[htv];omega);rw[htv,e2] at this;rw[this];rfl
   rw[hne,bMb,bKb,Rat.inv_mul_cancel _ hw0]
end Go.Proofs.Y
/- Forms without limits; congruent trees have one value; a form's terms have the value of the tree: plain mathematics. -/
namespace Go.Proofs.Y
open Go Go.Vc Go.Dig
def rL(b:Tr)(a:Pol):Pol:=match a with
 | [([],c)]=>[([],1 / c)]
 | _=>[([(eR++b8 (aN (aE b,aT b.op) 3),1)],1)]
def xN(a:Pol):Nat->Pol
 | 0=>[([],1)]
 | n+1=>bZ (tmL (xN a n) a)
def unN(e:Tr)(op arg:Int)(q:Rat)(rs:List (Tr × Pol)):Pol:=
 if op=1 then jU q
 else if 4<=op/\op<=9 then
  match rs with
  | []=>[]
  | (k,a)::r=>
   if op=4 then bZ (plL [] a (-1))
   else if op=9 then if arg<0 then xN (rL k a) arg.natAbs else xN a arg.natAbs
   else match r with
    | []=>[]
    | (k',b)::_=>
     if op=5 then bZ (plL a b 1)
     else if op=6 then bZ (plL a b (-1))
     else if op=7 then bZ (tmL a b)
     else bZ (tmL a (rL k' b))
 else [([(b8 (aE e),1)],1)]
mutual
def unP:Tr->Pol
 | .mk op arg neg l m name ks=>unN (.mk op arg neg l m name ks) op arg (aK neg l m) (kG ks)
def kG:List Tr->List (Tr × Pol)
 | []=>[]
 | t::ts=>(t,unP t)::kG ts
end
theorem rM{l p:Pol}(h:bS l=.ok p):bZ l=p:=by
 unfold bS at h
 split at h
 .cases h
 .split at h
  .cases h
  .cases h;rfl
theorem bBc{vals:List (List Nat × Rat)}{n:List Nat}(hn:fD n){x:Rat}(hx:eN vals n=some x):alV vals (b8 n)=x:=by
 have hvv:bB (gA n):=⟨aAt hn,by unfold gA;rw[szT,fO];omega⟩
 have htv:aE (gA n)=n:=by unfold gA;rw[aE];rfl
 have hval:bL vals (gA n)=some x:=by unfold gA;rw[bL];exact hx
 have hb:=aWn hn;obtain⟨c,r,e,hc,-⟩:=tE hn;have hn8:=hn.1;unfold alV;rw[if_neg (xM e (fun x=>by have:=jI.1 hc;omega) hb),tF hb]
 have:=xL (vals:=vals) hvv (by rw[htv];omega);rw[htv,hval] at this;rw[this];rfl
def aCs(vals:List (List Nat × Rat)):Mon->Rat->Option Rat
 | [],q=>some q
 | f::m,q=>if nmA f.1 then (eN vals (f.1.map UInt8.toNat)).bind fun x=>aCs vals m (q*x^f.2) else none
def xO(vals:List (List Nat × Rat)):Pol->Rat->Option Rat
 | [],s=>some s
 | t::p,s=>(aCs vals t.1 t.2).bind fun x=>xO vals p (s+x)
theorem aWq(s:List UInt8):b8 (s.map UInt8.toNat)=s:=by
 unfold b8;rw[bL4];conv=>rhs;rw[<-List.map_id s]
 exact bMn fun y _=>UInt8.ofNat_toNat
theorem aKd{vals:List (List Nat × Rat)}:∀{m:Mon} {q r:Rat},aCs vals m q=some r->r=q*ph (alV vals) m
 | [],q,r,h=>by cases h;exact (bK5 _).symm
 | f::m,q,r,h=>by
  unfold aCs at h
  split at h
  .rename_i hn;cases hx:eN vals (f.1.map UInt8.toNat) with
   | none=>rw[hx] at h;cases h
   | some x=>
    rw[hx] at h;have h:aCs vals m (q*x^f.2)=some r:=h;have e:=bBc hn hx;rw[aWq] at e;rw[aKd h,lH,e,bLc]
  .cases h
theorem aKe{vals:List (List Nat × Rat)}:∀{p:Pol} {s r:Rat},xO vals p s=some r->r=s+sm (ph (alV vals)) p
 | [],s,r,h=>by cases h;exact (bL6 _).symm
 | t::p,s,r,h=>by
  unfold xO at h;cases hx:aCs vals t.1 t.2 with
  | none=>rw[hx] at h;cases h
  | some x=>
   rw[hx] at h;have h:xO vals p (s+x)=some r:=h;rw[aKe h,aKd hx,dQ,bLy]
theorem bBd{vals:List (List Nat × Rat)}(hv:∀b∈vals,fits b.2){t:Tr}(ht:bB t){p:Pol}(h1:aO t=.ok p){v r:Rat}(h3:bL vals t=some v)(h4:xO vals p 0=some r):r=v:=by
 obtain⟨g1,-⟩:=aCh (aCr hv) t 1 (bJf _) ht.1 ht.2 p v h1 h3;rw[aKe h4,g1,bMy]
end Go.Proofs.Y
/- Literals in the place of variables: what becomes of a polynomial form: plain mathematics. -/
namespace Go.Proofs.Y
open Go Go.Vc Go.Dig
def Pln(m:Mon):Prop:=∀t∈m,t.1.take 4≠eR
def uP(p:Pol):Prop:=∀t∈p,Pln t.1
section
variable (vals:List (List Nat × Rat))
def bnd(s:List UInt8):Option Rat:=if nmA s then eN vals (s.map UInt8.toNat) else none
def al0(s:List UInt8):Rat:=(bnd vals s).getD 1
def rs(m:Mon):Mon:=m.filter fun t=>(bnd vals t.1).isNone
def sb(f:Mon->Rat)(m:Mon):Rat:=ph (al0 vals) m*f (rs vals m)
def Sub(p' p:Pol):Prop:=uP p/\uP p'/\∀f,sm f p'=sm (sb vals f) p
end
mutual
def nS:Tr->Prop
 | .mk op arg _ _ _ _ ks=>((1<=op/\op<=7)\/(op=9/\0<=arg))/\tH ks
def tH:List Tr->Prop
 | []=>True
 | t::ts=>nS t/\tH ts
end
end Go.Proofs.Y
/- Simplifying keeps the form of a polynomial; the formal derivative: plain mathematics. -/
namespace Go.Proofs.Y
open Go Go.Vc Go.Dig
def bH1(p:Pol):Prop:=∀t∈p,aB4 t.1
def Eqv(a b:Pol):Prop:=∀f:Mon->Rat,sm f a=sm f b
end Go.Proofs.Y
/- The formal derivative of a polynomial form: plain mathematics. -/
namespace Go.Proofs.Y
open Go Go.Vc Go.Dig
section
variable (x:List UInt8)
def dcM(m:Mon):Mon:=bZ (m.map fun t=>(t.1,if t.1=x then t.2-1 else t.2))
def dn(f:Mon->Rat)(m:Mon):Rat:=((cf m x:Nat):Rat)*f (dcM x m)
def bIm(p:Pol):Prop:=∀t∈p,kN t.1
def Der(a' a:Pol):Prop:=bH1 a/\uP a/\∀f,sm f a'=sm (dn x f) a
end
end Go.Proofs.Y
/- The derivative of a polynomial has the formal derivative for its form: plain mathematics. -/
namespace Go.Proofs.Y
open Go Go.Vc Go.Dig
section
variable (x:List UInt8)
end
end Go.Proofs.Y
/- Congruence: what it tells; the ring; an equivalence: plain mathematics. -/
namespace Go.Proofs.Y
open Go Go.Vc Go.Dig
def dI(t u:Tr):Bool × Nat:=
 if bB t/\bB u then match aO t with
  | .error n=>(false,n)
  | .ok p=>match aO u with
   | .error n=>(false,n)
   | .ok q=>(decide (p=q),0)
 else (false,40)
def aHh(t u:Tr):Bool:=!decide ((dI t u).2=0) || (dI t u).1
theorem qH{l:Pol}{n:Nat}(h:bS l=.error n):n≠0:=by
 unfold bS at h
 split at h
 .cases h;decide
 .split at h
  .cases h;decide
  .cases h
theorem aCt{s:List UInt8}{n:Nat}(h:cH s=.error n):n≠0:=by
 unfold cH at h
 split at h
 .cases h;decide
 .cases h
theorem aEy{b:Tr}{a:Pol}{n:Nat}(h:cA b a=.error n):n≠0:=by
 unfold cA at h
 split at h
 .cases h
 .split at h
  .cases h;decide
  .exact aCt h
theorem aHi{a:Pol}:∀{k:Nat} {n:Nat},gQ a k=.error n->n≠0
 | 0,n,h=>by cases h
 | k+1,n,h=>by
  unfold gQ at h;cases ho:gQ a k with
  | error e=>
   rw[ho] at h;cases h;exact aHi ho
  | ok o=>
   rw[ho] at h;exact qH h
theorem aCu:∀(t:Tr),okG t->∀{n:Nat},aO t=.error n->n≠0:=by
 refine eE fun t ih=>?_
 intro hok n hp;obtain⟨op,arg,neg,l,m,name,ks⟩:=t;rw[okG] at hok;obtain⟨hnb,hks⟩:=hok;have hn1:=hnb.1;rw[aO] at hp;unfold gO at hp
 split at hp
 .cases hp
 split at hp
 .rename_i h1 h2;by_cases hone:op=4\/op=9
  .obtain⟨k,rfl⟩:=aM1 hn1 (by unfold bM;rcases hone with rfl|rfl<;>rfl);rw[aJl] at hks;rw[dC,dC] at hp;cases ha:aO k with
   | error e=>
    rw[ha] at hp;cases hp;exact ih k (bD (j:=0) rfl) hks.1 ha
   | ok a=>
    rw[ha] at hp;dsimp only at hp
    split at hp
    .exact qH hp
    .split at hp
     .split at hp
      .cases hc:cA k a with
       | error e=>
        rw[hc] at hp;cases hp;exact aEy hc
       | ok c=>
        rw[hc] at hp;exact aHi hp
      .exact aHi hp
     .omega
  .obtain⟨k,k',rfl⟩:=aWe hn1 (by unfold bM;rw[if_neg Aa,if_neg Aa,if_pos Aa]);rw[aJl,aJl] at hks;rw[dC,dC,dC] at hp;cases ha:aO k with
   | error e=>
    rw[ha] at hp;cases hp;exact ih k (bD (j:=0) rfl) hks.1 ha
   | ok a=>
    rw[ha] at hp;dsimp only at hp;rw[if_neg Aa,if_neg Aa] at hp;cases hb:aO k' with
    | error e=>
     rw[hb] at hp;cases hp;exact ih k' (bD (j:=1) rfl) hks.2.1 hb
    | ok b=>
     rw[hb] at hp;dsimp only at hp
     split at hp
     .exact qH hp
     .split at hp
      .exact qH hp
      .split at hp
       .exact qH hp
       .cases hc:cA k' b with
        | error e=>
         rw[hc] at hp;cases hp;exact aEy hc
        | ok c=>
         rw[hc] at hp;exact qH hp
 .exact aCt hp
end Go.Proofs.Y
/- Products as the program forms them: exponents by atom, in any order; names cancelled; sorted: plain mathematics. -/
namespace Go.Dig
abbrev rP (l:Mon):Prop:=(l.map (·.1)).Nodup
theorem qI{t:Fac}{l:Mon}:rP (t::l)↔(∀u∈l,u.1≠t.1)/\rP l:=by
 unfold rP;rw[bJw,List.nodup_cons];refine and_congr ⟨fun h u hu e=>h (by rw[<-e];exact bJg hu),fun h hm=>?_⟩ Iff.rfl
 obtain⟨u,hu,e⟩:=List.mem_map.1 hm;exact h u hu e
theorem aNf{l:Mon}(h:rP l){i:Nat}{t:Fac}(ht:l[i]?=some t):cf l t.1=t.2:=by
 induction l generalizing i with
 | nil=>simp at ht
 | cons u l ih=>
  obtain⟨h1,h2⟩:=qI.1 h;cases i with
  | zero=>
   simp at ht;subst ht;rw[aV,if_pos rfl,yP h1,bJz]
  | succ i=>
   have ht':l[i]?=some t:=by simpa using ht
   rw[aV,if_neg (fun e=>h1 t (bIu ht') e.symm)]
   exact ih h2 ht'
theorem aWz{l:Mon}{x:List UInt8}(h:x∉l.map (·.1)):cf l x=0:=yP fun t ht e=>h (by rw[<-e];exact bJg ht)
def etF(l:Mon)(x:List UInt8):Mon:=if x∈l.map (·.1) then l else l++[(x,0)]
theorem bBi{l:Mon}(h:rP l)(x:List UInt8):rP (etF l x):=by
 unfold etF
 split
 .exact h
 .rename_i hx;unfold rP;rw[bI3,bMl];exact⟨h,by simp,fun a ha b hb=>by simp at hb;subst hb;exact fun e=>hx (by rw[<-e];exact ha)⟩
theorem bGm(l:Mon)(x s:List UInt8):cf (etF l x) s=cf l s:=by
 unfold etF
 split
 .rfl
 .rw[kE,aV,pF];show _+(if x=s then 0+0 else 0)=_
  split<;>rfl
theorem bBj{l:Mon}{i:Nat}{x:List UInt8}{v:Nat}(w:Nat)(h:rP l)(hi:l[i]?=some (x,v)):rP (l.set i (x,w))/\∀s,cf (l.set i (x,w)) s=if x=s then w else cf l s:=by
 induction l generalizing i with
 | nil=>simp at hi
 | cons u l ih=>
  obtain⟨h1,h2⟩:=qI.1 h;cases i with
  | zero=>
   simp at hi;subst hi;refine⟨qI.2 ⟨h1,h2⟩,fun s=>?_⟩
   rw[List.set_cons_zero,aV,aV];show (if x=s then _ else _)=if x=s then _ else (if x=s then _ else _)
   by_cases e:x=s
   .subst e;rw[if_pos rfl,if_pos rfl,yP h1,bJz]
   .rw[if_neg e,if_neg e,if_neg e]
  | succ i=>
   have hi':l[i]?=some (x,v):=by simpa using hi
   obtain⟨g1,g2⟩:=ih h2 hi';have hux:u.1≠x:=fun e=>h1 (x,v) (bIu hi') e.symm
   refine⟨qI.2 ⟨fun t ht=>?_,g1⟩,fun s=>?_⟩
   .rcases bM7 ht with ht|rfl
    .exact h1 t ht
    .exact hux.symm
   .rw[bK9,aV,g2,aV];by_cases e:u.1=s
    .rw[if_pos e,if_pos e,if_neg (fun y=>hux (by rw[e,y])),if_neg (fun y=>hux (by rw[e,y]))]
    .rw[if_neg e,if_neg e]
theorem bD9{l:Mon}{i:Nat}{x:List UInt8}(n:Nat)(h:rP l)(hi:(etF l x)[i]?=some (x,cf l x)):rP ((etF l x).set i (x,cf l x+n))/\∀s,cf ((etF l x).set i (x,cf l x+n)) s=cf l s+(if x=s then n else 0):=by
 obtain⟨g1,g2⟩:=bBj (cf l x+n) (bBi h x) hi;refine⟨g1,fun s=>?_⟩
 rw[g2,bGm];by_cases e:x=s
 .subst e;rw[if_pos rfl,if_pos rfl]
 .rw[if_neg e,if_neg e,bJz]
theorem bEa{P:List UInt8->Prop}{l:Mon}{x:List UInt8}{i v:Nat}(hl:∀t∈l,P t.1)(hx:P x):∀t∈(etF l x).set i (x,v),P t.1:=fun t ht=>by
 rcases bM7 ht with ht|rfl
 .unfold etF at ht
  split at ht
  .exact hl t ht
  .rcases bIx.1 ht with ht|ht
   .exact hl t ht
   .rw[bI2] at ht;subst ht;exact hx
 .exact hx
theorem bEb(l:Mon)(x:List UInt8):(etF l x).length<=l.length+1:=by unfold etF;split<;>simp
theorem bBk{q:Mon}(g:List UInt8->Nat->Nat)(hg:∀s,g s 0=0)(h:rP q)(s:List UInt8):cf (q.map fun t=>(t.1,g t.1 t.2)) s=g s (cf q s):=by
 induction q with
 | nil=>exact (hg s).symm
 | cons t q ih=>
  obtain⟨h1,h2⟩:=qI.1 h;rw[bJw,aV,aV,ih h2]
  split
  .rename_i e;subst e;rw[yP h1,hg];rfl
  .rfl
def cnF(l:Mon)(t:Fac):Nat:=t.2-min t.2 (rv l t.1)
def cnL(l d:Mon):Mon:=(d.map fun t=>(t.1,cnF l t)).filter fun t=>!decide (t.2=0)
theorem aCv(l d:Mon)(t:Fac):cnL l (d++[t])=cnL l d++(if cnF l t=0 then [] else [(t.1,cnF l t)]):=by
 unfold cnL;rw[bI3,bLj]
 congr 1
 by_cases e:cnF l t=0
 .rw[if_pos e];simp[e]
 .rw[if_neg e];simp[e]
theorem bBl(l d:Mon):(cnL l d).length<=d.length:=by
 unfold cnL;exact bJd (bMe ..) Aq
theorem bGn{l m:Mon}(h:∀s,cf l s=cf m s)(s:List UInt8):rv l s=rv m s:=by
 unfold rv;cases inv s with
 | none=>rfl
 | some u=>exact h u
theorem bBm{a b l out:Mon}(hk:rP l)(hc:∀s,cf l s=cf (a++b) s)(hp:out.Perm (cnL l l))(hs:out.Pairwise fun s t=>¬t.1<s.1):out=jn a b:=by
 have hkey:rP out:=by
  unfold rP;refine (hp.map _).nodup_iff.2 ?_;unfold cnL;refine ((List.filter_sublist (l:=l.map fun t=>(t.1,cnF l t))).map (·.1)).nodup ?_
  rw[bL4];exact hk
 have hne:out.Pairwise fun s t=>s.1≠t.1:=List.pairwise_map.1 hkey
 have hsr:kN out:=(hs.and hne).imp fun {s t} hst=>by
  rcases oS s.1 t.1 with h|h|h
  .exact h
  .exact absurd h hst.2
  .exact absurd h hst.1
 refine mQ ⟨hsr,fun t ht=>?_⟩ (nM a b) fun s=>?_
 .have:=(List.mem_filter.1 (hp.mem_iff.1 ht)).2
  simpa using this
 .rw[aOu hp];unfold cnL;rw[mZ];have e:=bBk (fun s n=>n-min n (rv l s)) (fun s=>Nat.zero_sub _) hk s
  rw[show (l.map fun t=>(t.1,cnF l t))=l.map fun t=>(t.1,t.2-min t.2 (rv l t.1)) from rfl,e,sZ,hc,kE,bGn hc]
theorem aW0(a b:Mon):(jn a b).length<=a.length+b.length:=by
 have h1:∀(k:List UInt8) (v:Nat) (q:Mon),(iR k v q).length<=q.length+1:=by
  intro k v q
  induction q with
  | nil=>simp[iR]
  | cons t q ih=>
   obtain⟨n,d⟩:=t;unfold iR
   split
   .simp
   .split
    .simp
    .simp only[bIs];omega
 have h2:∀q:Mon,(kP q).length<=q.length:=by
  intro q
  induction q with
  | nil=>simp[kP]
  | cons t q ih=>
   show (iR t.1 t.2 (kP q)).length<=_
   have:=h1 t.1 t.2 (kP q);rw[bIs];omega
 unfold jn bZ;refine bJd (bMe ..) (bJd (h2 _) ?_);rw[bJb];refine bJd (h2 _) ?_;rw[bIo];exact bJf _
theorem bBn{P:List UInt8->Prop}{a b:Mon}(ha:∀t∈a,P t.1)(hb:∀t∈b,P t.1):∀t∈jn a b,P t.1:=by
 have h1:∀(k:List UInt8) (v:Nat) (q:Mon),P k->(∀t∈q,P t.1)->∀t∈iR k v q,P t.1:=by
  intro k v q hk
  induction q with
  | nil=>intro _ t ht;unfold iR at ht;rw[bI2] at ht;subst ht;exact hk
  | cons n q ih=>
   intro hq t ht;obtain⟨n,d⟩:=n;unfold iR at ht
   split at ht
   .rcases bI7.1 ht with rfl|ht
    .exact hk
    .exact hq t ht
   .split at ht
    .rcases bI7.1 ht with rfl|ht
     .exact hq (n,d) (bIw ..)
     .exact hq t (bIz _ ht)
    .rcases bI7.1 ht with rfl|ht
     .exact hq (n,d) (bIw ..)
     .exact ih (fun t ht=>hq t (bIz _ ht)) t ht
 have h2:∀q:Mon,(∀t∈q,P t.1)->∀t∈kP q,P t.1:=by
  intro q
  induction q with
  | nil=>intro _ t ht;exact absurd ht (by simp[kP])
  | cons u q ih=>intro h;exact h1 _ _ _ (h u (bIw ..)) (ih fun t ht=>h t (bIz _ ht))
 intro t ht;unfold jn bZ at ht;refine h2 _ (fun u hu=>?_) t (List.mem_filter.1 ht).1
 obtain⟨v,hv,rfl⟩:=List.mem_map.1 hu;refine h2 _ (fun u hu=>?_) v hv
 rcases bIx.1 hu with hu|hu
 .exact ha u hu
 .exact hb u hu
theorem bBo{m:Mon}(h:kN m){S:List (List UInt8)}(hS:∀t∈m,t.1∈S):m.length<=S.length:=by
 have hn:(m.map (·.1)).Nodup:=by
  unfold List.Nodup;rw[List.pairwise_map];exact h.imp fun {s t} hlt e=>by rw[e] at hlt;exact eI.irr _ hlt
 have:(m.map (·.1)).length<=S.length:=hn.length_le_of_subset fun x hx=>by
  obtain⟨t,ht,rfl⟩:=List.mem_map.1 hx;exact hS t ht
 simpa using this
def aCw(l:Mon)(S:List Nat):Mon:=S.map fun i=>l.getD i ([],0)
theorem aEz{l:Mon}{S:List Nat}{i:Nat}{t:Fac}(h:l[i]?=some t):aCw l (S++[i])=aCw l S++[t]:=by
 unfold aCw;rw[bI3,bJw,bK4,bIp,h];rfl
theorem aRt{l:Mon}{S:List Nat}(hn:S.Nodup)(hl:∀i∈S,i<l.length)(ha:∀i,i<l.length->i∈S):(aCw l S).Perm l:=by
 have hp:S.Perm (List.range l.length):=(List.perm_ext_iff_of_nodup hn List.nodup_range).2 fun i=>by rw[List.mem_range];exact⟨hl i,ha i⟩
 have e:(List.range l.length).map (fun i=>l.getD i ([],0))=l:=by
  refine bMj fun i=>?_
  rw[bKo];by_cases h:i<l.length
  .rw[List.getElem?_range h,bIq h];simp[bIp,h]
  .rw[bJn (by simpa using h),bJn Aa];rfl
 have:=hp.map fun i=>l.getD i ([],0)
 rw[e] at this;exact this
theorem aW1{l d e:Mon}(h:d.Perm e):(cnL l d).Perm (cnL l e):=(h.map _).filter _
theorem aNg{S:List Nat}{i:Nat}(h:S.Nodup)(hi:i∉S):(S++[i]).Nodup:=by
 rw[bMl];exact⟨h,by simp,fun a ha b hb=>by simp at hb;subst hb;exact fun e=>hi (by rw[<-e];exact ha)⟩
theorem bBp{l:Mon}{S:List Nat}(hn:S.Nodup)(hl:∀i∈S,i<l.length):S.length<=l.length:=by
 have:=hn.length_le_of_subset (l₂:=List.range l.length) fun i hi=>List.mem_range.2 (hl i hi)
 simpa using this
theorem bGo{l:Mon}{M:Nat}(h:∀t∈l,t.2<=M)(s:List UInt8):cf l s<=l.length*M:=by
 induction l with
 | nil=>exact bJe _
 | cons t l ih=>
  have h1:=ih fun u hu=>h u (bIz _ hu)
  have h2:=h t (bIw ..);rw[aV,bIs,bJu,bLi]
  split<;>omega
end Go.Dig
/- What every form is bounded by: its atoms come from a short store of short texts: plain mathematics. -/
namespace Go.Proofs.Y
open Go Go.Vc Go.Dig
def InS(S:List (List UInt8))(p:Pol):Prop:=∀t∈p,∀f∈t.1,f.1∈S
structure PG (S:List (List UInt8)) (p:Pol):Prop where
 good:lG p
 key:InS S p
def Sok(S:List (List UInt8)):Prop:=∀s∈S,s.length<=4000
theorem PG.len{S:List (List UInt8)}{p:Pol}(w:PG S p):∀t∈p,t.1.length<=S.length:=fun t ht=>bBo (w.good.red t ht).1.1 (w.key t ht)
theorem InS.mono{S S':List (List UInt8)}{p:Pol}(h:∀s∈S,s∈S')(w:InS S p):InS S' p:=fun t ht f hf=>h _ (w t ht f hf)
theorem PG.mono{S S':List (List UInt8)}{p:Pol}(h:∀s∈S,s∈S')(w:PG S p):PG S' p:=⟨w.good,w.key.mono h⟩
theorem bEc{S:List (List UInt8)}{a b:Pol}(ha:InS S a)(hb:InS S b):InS S (tmL a b):=fun t ht=>by
 unfold tmL at ht;obtain⟨x,hx,ht⟩:=List.mem_flatMap.1 ht;obtain⟨y,hy,rfl⟩:=List.mem_map.1 ht;exact bBn (P:=fun s=>s∈S) (ha x hx) (hb y hy)
theorem bEd{S:List (List UInt8)}{a b:Pol}(k:Rat)(ha:InS S a)(hb:InS S b):InS S (plL a b k):=fun t ht=>by
 unfold plL at ht;rcases bIx.1 ht with ht|ht
 .exact ha t ht
 .obtain⟨y,hy,rfl⟩:=List.mem_map.1 ht;exact hb y hy
theorem aKi{S:List (List UInt8)}{l p:Pol}(h:InS S l)(e:bS l=.ok p):InS S p:=by
 rw[<-rM e];exact tB (P:=fun m:Mon=>∀f∈m,f.1∈S) h
theorem aKj{S:List (List UInt8)}{a b p:Pol}(ha:InS S a)(hb:InS S b)(e:bS (tmL a b)=.ok p):PG S p:=⟨aEp (bDl a b) e,aKi (bEc ha hb) e⟩
theorem aW2{S:List (List UInt8)}{a b p:Pol}(k:Rat)(ha:PG S a)(hb:PG S b)(e:bS (plL a b k)=.ok p):PG S p:=⟨aEp (bDm k ha.good.red hb.good.red) e,aKi (bEd k ha.key hb.key) e⟩
theorem xP:lG []:=⟨⟨List.Pairwise.nil,fun _ h=>by simp at h⟩,fun _ h=>by simp at h,fun _ h=>by simp at h,fun _ h=>by simp at h,bJe _⟩
theorem xQ{m:Mon}{q:Rat}(hm:aB4 m)(hd:∀f∈m,f.2<=64)(h0:q≠0)(hf:fits q):lG [(m,q)]:=
 ⟨⟨List.pairwise_cons.2 ⟨fun _ h=>(by simp at h),List.Pairwise.nil⟩,fun t h=>by rw[bI2] at h;subst h;exact h0⟩,
   fun t h=>by rw[bI2] at h;subst h;exact hm,fun t h=>by rw[bI2] at h;subst h;exact hd,fun t h=>by rw[bI2] at h;subst h;exact hf,by simp⟩
theorem bEe{q:Rat}(hf:fits q):PG [] (jU q):=by
 unfold jU
 split
 .exact⟨xP,fun t ht=>by simp at ht⟩
 .rename_i h0;exact⟨xQ aGv (fun f hf=>by simp at hf) h0 hf,fun t ht f hf=>by rw[bI2] at ht;subst ht;simp at hf⟩
theorem aE0{s:List UInt8}{p:Pol}(h:cH s=.ok p):s.length<=4000/\PG [s] p:=by
 unfold cH at h
 split at h
 .cases h
 .rename_i hl;cases h;exact⟨Aa,xQ (bAl s) (fun f hf=>by rw[bI2] at hf;subst hf;show 1<=64;omega) Ae fU,fun t ht f hf=>by
    rw[bI2] at ht;subst ht;exact bI2.2 (by rw[bI2.1 hf])⟩
theorem vS{q:Rat}(h0:q≠0)(h:fits q):fits (1 / q):=by
 have hn:nu q≠0:=fun e=>h0 (cE.1 e)
 rw[bMb,bKb];unfold fits;rw[yI q hn,den_inv q hn];exact⟨h.2,h.1⟩
theorem aCx{q:Rat}(h0:q≠0):1 / q≠0:=by
 rw[bMb,bKb];intro e;have:q*q⁻¹=q*0:=by rw[e]
 rw[Rat.mul_inv_cancel q h0,bNd] at this;exact absurd this Ae
theorem qJ{b:Tr}{a p:Pol}(ha:lG a)(h:cA b a=.ok p):∃S:List (List UInt8),S.length<=1/\Sok S/\PG S p:=by
 unfold cA at h
 split at h
 .rename_i c;cases h;have h0:c≠0:=ha.can.2 ([],c) (bIw ..);have hf:fits c:=ha.fit ([],c) (bIw ..);exact⟨[],bJe _,fun s hs=>by simp at hs,xQ aGv (fun f hf=>by simp at hf) (aCx h0) (vS h0 hf),fun t ht f hf=>by rw[bI2] at ht;subst ht;simp at hf⟩
 .split at h
  .cases h
  .obtain⟨h1,h2⟩:=aE0 h;exact⟨[_],bJf _,fun s hs=>by rw[bI2] at hs;subst hs;exact h1,h2⟩
theorem aHj(S:List (List UInt8)):PG S [([],1)]:=⟨xQ aGv (fun f hf=>by simp at hf) Ae fU,fun t ht f hf=>by rw[bI2] at ht;subst ht;simp at hf⟩
theorem aHk{S:List (List UInt8)}{a:Pol}(ha:PG S a):∀{n:Nat} {p:Pol},gQ a n=.ok p->PG S p
 | 0,p,h=>by cases h;exact aHj S
 | n+1,p,h=>by
  unfold gQ at h;cases ho:gQ a n with
  | error e=>rw[ho] at h;cases h
  | ok o=>
   rw[ho] at h;exact aKj (aHk ha ho).key ha.key h
theorem kB:∀(t:Tr) (d:Nat),okT d t->∀{p:Pol},aO t=.ok p->∃S:List (List UInt8),S.length<=szT t/\Sok S/\PG S p:=by
 refine eE fun t ih=>?_
 intro d hok p hp;obtain⟨op,arg,neg,l,m,name,ks⟩:=t;rw[okT] at hok;obtain⟨-,hnb,hoks⟩:=hok;have ih':∀k,k∈ks->∀{p:Pol},aO k=.ok p->∃S:List (List UInt8),S.length<=szT k/\Sok S/\PG S p:=fun k hk=>by
  obtain⟨j,hj,e⟩:=List.mem_iff_getElem.1 hk;exact ih k (bD (j:=j) (by rw[bIq hj,e])) (d+1) (eF hoks hk)
 have two:∀{S1 S2:List (List UInt8)},Sok S1->Sok S2->Sok (S1++S2):=fun h1 h2 s hs=>(bIx.1 hs).elim (h1 s) (h2 s)
 rw[aO] at hp;unfold gO at hp;rw[szT];by_cases h1:op=1
 .rw[if_pos h1] at hp;cases hp;have hn:=hnb.2.2.2.2;rw[if_pos h1] at hn;have hz:=hn.1.sz;exact⟨[],bJe _,fun s hs=>by simp at hs,bEe ⟨hz.num,hz.den⟩⟩
 rw[if_neg h1] at hp;by_cases h2:¬(4<=op/\op<=9)
 .rw[if_neg h2] at hp;obtain⟨q1,q2⟩:=aE0 hp;exact⟨[_],by rw[bJm];omega,fun s hs=>by rw[bI2] at hs;subst hs;exact q1,q2⟩
 replace h2:=Decidable.not_not.1 h2;rw[if_pos h2] at hp
 match ks,ih',hp with
 | [],_,hp=>rw[dC] at hp;cases hp
 | k::r,ih',hp=>
  rw[dC] at hp;rw[fO];cases ha:aO k with
  | error n=>rw[ha] at hp;cases hp
  | ok a=>
   rw[ha] at hp;obtain⟨S1,z1,s1,g1⟩:=ih' k (bIw ..) ha;dsimp only at hp;by_cases h4:op=4
   .rw[if_pos h4] at hp;exact⟨S1,Aa,s1,aW2 _ ⟨xP,fun t ht=>by simp at ht⟩ g1 hp⟩
   rw[if_neg h4] at hp;by_cases h9:op=9
   .rw[if_pos h9] at hp;by_cases hn:arg<0
    .rw[if_pos hn] at hp;cases hc:cA k a with
     | error n=>rw[hc] at hp;cases hp
     | ok c=>
      rw[hc] at hp;obtain⟨S2,z2,s2,g2⟩:=qJ g1.good hc;exact⟨S2,Aa,s2,aHk g2 hp⟩
    .rw[if_neg hn] at hp;exact⟨S1,Aa,s1,aHk g1 hp⟩
   rw[if_neg h9] at hp
   match r,ih',hp with
   | [],_,hp=>rw[dC] at hp;cases hp
   | k'::r,ih',hp=>
    rw[dC] at hp;rw[fO];cases hb:aO k' with
    | error n=>rw[hb] at hp;cases hp
    | ok b=>
     rw[hb] at hp;obtain⟨S2,z2,s2,g2⟩:=ih' k' (bIz _ (bIw ..)) hb;have m1:PG (S1++S2) a:=g1.mono fun s hs=>bJh _ hs
     have m2:PG (S1++S2) b:=g2.mono fun s hs=>bJi _ hs
     have z12:(S1++S2).length<=1+(szT k+(szT k'+fO r)):=by rw[bIo];omega
     dsimp only at hp;by_cases h5:op=5
     .rw[if_pos h5] at hp;exact⟨_,z12,two s1 s2,aW2 _ m1 m2 hp⟩
     rw[if_neg h5] at hp;by_cases h6:op=6
     .rw[if_pos h6] at hp;exact⟨_,z12,two s1 s2,aW2 _ m1 m2 hp⟩
     rw[if_neg h6] at hp;by_cases h7:op=7
     .rw[if_pos h7] at hp;exact⟨_,z12,two s1 s2,aKj m1.key m2.key hp⟩
     rw[if_neg h7] at hp;cases hc:cA k' b with
     | error n=>rw[hc] at hp;cases hp
     | ok c=>
      rw[hc] at hp;obtain⟨S3,z3,s3,g3⟩:=qJ g2.good hc;have h0:=aZw k';exact⟨S1++S3,by rw[bIo];omega,two s1 s3,aKj (g1.mono fun s hs=>bJh _ hs).key (g3.mono fun s hs=>bJi _ hs).key hp⟩
end Go.Proofs.Y