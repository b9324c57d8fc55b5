/- Subst on both sides; its law. -/
import Derived.Test.YtblecjeceecaaaaGreatDoorE66
set_option linter.all false
set_option maxHeartbeats 1000000
set_option maxRecDepth 20000
namespace Go.Vc
open Go Go.Dig
end Go.Vc
namespace Go.Proofs.Y
open Go Go.Vc Go.Dig
def MsR{α:Type}(ms ps:List (List Nat × α)):Prop:=(∀n,n∈ms.map (·.1)↔n∈ps.map (·.1))/\((ps.map (·.1)).Nodup->ms=ps)
theorem bGq:((0:Int):Rat)=0:=rfl
theorem bCk:((1:Int):Rat)=1:=rfl
theorem bP.of{h:aA}{n:Bool}{a b:Sl}{q:Rat}(w:bP h n a b (some q)):∃l m,bV h a b l m/\okR n l m/\aK n l m=q:=by
 obtain⟨l,m,v,e⟩:=w.ex;unfold iV at e
 split at e
 .exact⟨l,m,v,Ab,(Option.some.inj e).symm⟩
 .cases e
theorem bP.fits{h:aA}{n:Bool}{a b:Sl}{q:Rat}(w:bP h n a b (some q)):fits q:=by
 obtain⟨l,m,v,k,rfl⟩:=w.of;exact k.2.2
def bEr(h:aA)(v:Value)(q:Rat):Prop:=∃n,∃a b:Sl,v=.agg #[.bool n,a.val,b.val]/\bP h n a b (some q)
instance:UpV bEr:=⟨fun hl ⟨n,a,b,e,w⟩=>⟨n,a,b,e,by obtain⟨l,m,v,e2⟩:=w.ex;exact⟨l,m,v.mono hl,e2⟩⟩⟩
def VQ(h:aA)(v:Value)(x:Option Rat):Prop:=∃n,∃a b:Sl,∃bb,v=.tuple #[.agg #[.bool n,a.val,b.val],.bool bb]/\(bb=true->∃q,x=some q/\bP h n a b (some q))/\(bb=false->x=none)
def NQ(h:aA)(v:Value)(p:Rat × Int):Prop:=∃n,∃a b:Sl,v=.tuple #[.agg #[.bool n,a.val,b.val],.int .i64 p.2]/\bP h n a b (some p.1)
def mS(p:Rat × Int)(x:Option Rat):Prop:=(p.2=0->x=some p.1)/\(p.2≠0->x=none)
def aNm(q:Rat)(arg:Int):Rat × Int:=if arg<0/\q=0 then (0,10) else eO (oX q arg)
end Go.Proofs.Y
/- Values of variables that come in: a slice of them in memory. -/
namespace Go.Vc
open Go Go.Dig
theorem LdN.hasN{h:aA}{L:Vc.Own}{b o m:Nat}{k:Value->Prop}(vs:List Value)(hl:vs.length=m)(hv:∀(i:Nat) v,vs[i]?=some v->Has h L ⟨b,o+i,none⟩ v)(hk:k (.agg vs.toArray)):LdN h L ⟨b,o,none⟩ m k:=
 ⟨vs,hl,fun i hi=>by
   rw[bQ];exact hv i _ (by rw[bIp,bIq Aa];rfl),hk⟩
end Go.Vc
namespace Go.Proofs.Y
open Go Go.Vc Go.Dig
def tK(h:aA)(c:Array Value):Nat->List (List Nat × Option Rat)->Prop
 | _,[]=>True
 | off,(n,x)::bs=>(c[off]?=some (.string (txt n))/\(∀y∈n,y<256)/\∃ng,∃a b:Sl,(∀i v,[Value.bool ng,a.val,b.val][i]?=some v->c[off+1+i]?=some v)/\bP h ng a b x)/\tK h c (off+4) bs
structure IsV (h:aA) (s:Sl) (bs:List (List Nat × Option Rat)):Prop where
 len:s.l=bs.length
 cap:s.l<=s.c
 mem:bs=[]\/∃bl off c T fz,s.a=some ⟨bl,off,none⟩/\h bl=some (.cells c T fz)/\tK h c off bs
def aS(bs:List (List Nat × Option Rat)):List (List Nat × Rat):=bs.map fun b=>(b.1,b.2.getD 0)
def iY(bs:List (List Nat × Option Rat)):Prop:=∀b∈bs,b.2.isSome=true
instance (bs:List (List Nat × Option Rat)):Decidable (iY bs):=by unfold iY;exact inferInstance
def jN(bs:List (List Nat × Option Rat))(t:Tr):Rat × Bool × Int:=
 if ¬bB t then (0,false,40) else if ¬eS bs then (0,false,41) else if ¬iY bs then (0,false,1) else match bL (aS bs) t with
  | none=>(0,false,0)
  | some q=>(q,true,0)
theorem jF{q:Rat}(h:fits q):Sr 128 q:=⟨((aBm q).1 h).1,((aBm q).1 h).2⟩
def RQ(h:aA)(v:Value)(x:Option Rat):Prop:=∃n,∃s t:Sl,∃bb,v=.tuple #[.agg #[.bool n,s.val,t.val],.bool bb]/\(bb=true->∃q,x=some q/\n=sg q/\IsQ h s t q/\Sr 4294967296 q)/\(bb=false->x=none)
theorem bEu{q r:Rat}(hq:Sr 128 q)(hr:Sr 128 r)(h0:nu r≠0):Sr 256 (q / r):=by
 rw[bMb];exact aL1 hq (aL2 hr h0)
end Go.Proofs.Y
/- One kid turned, on both sides; nodes made. -/
namespace Go.Vc
open Go Go.Dig
end Go.Vc
namespace Go.Proofs.Y
open Go Go.Vc Go.Dig
theorem aYc(op arg:Int)(ho:-9223372036854775808<=op/\op<=9223372036854775807)(ha:-9223372036854775808<=arg/\arg<=9223372036854775807)(ks:List Tr)(s:Sl)(h:aA)(hk:IsK h s ks):Fn0 T F.q119 [.int .i64 op,.int .i64 arg,s.val] h fun v h'=>VE h' v (aG op arg ks):=by
 refine f0C ok D.q119 rfl ?_;conv=>whnf
 repeat' ((first|((first|apply oI.z|apply cI.z))|intro (_:Nat)|refine LdN.o 0 rfl rfl ?_|refine Sto.l 0 rfl rfl rfl ?_)<;>conv=>whnf)
 exact RN.a (VE.node ho ha hk)
theorem rone_ct(op arg:Int)(ho:-9223372036854775808<=op/\op<=9223372036854775807)(ha:-9223372036854775808<=arg/\arg<=9223372036854775807)(t:Tr)(h:aA)(vs:List Value)(w:IsE h vs t):Fn0 T F.q268 [.int .i64 op,.int .i64 arg,.agg vs.toArray] h fun v h'=>VE h' v (aG op arg [t]):=by
 obtain⟨⟨op0,arg0,neg,l,m,name,ks⟩,ht⟩:=AH t;obtain⟨a,b,s,hvs,-⟩:=(ht.symm▸w:IsE h vs (.mk op0 arg0 neg l m name ks)).isK;subst hvs;refine f0C ok D.q268 rfl ?_;conv=>whnf
 repeat' ((first|((first|apply oI.z|apply cI.z))|intro (_:Nat)|refine LdN.o 1 rfl rfl ?_|refine Sto.l 1 rfl rfl rfl ?_)<;>conv=>whnf)
 exact RN.keep 0 rfl fun hle=>RN.a (VE.node ho ha (IsK.one w rfl hle))
def aYd:Option Rat->Tr × Nat
 | some q=>(mkL q,0)
 | none=>(bI,1)
theorem VE.numQ{h:aA}{c d:Sl}{p:Rat}(hf:fits p)(w:eA h c d p):IsE h [.int .i64 1,.int .i64 0,.bool (sg p),c.val,d.val,.string (txt []),.slice none 0 0] (numQ p):=
 IsE.mkK (s:=⟨none,0,0⟩) Ae Ae (lO w (oK hf)) (fun _ x=>by cases x) (IsK.nil _)
theorem aSd(q:Rat):fits (eO q).1:=(Fok.out q).ft
def bG0(h:aA)(v:Value)(q:Rat):Prop:=∃a tt b,v=.tuple #[a,.bool b]/\VE h a tt/\(b=true->fits q/\tt=mkL q)/\(b=false->¬fits q)
theorem bBy{q:Rat}:(sg q=true->q<0/\gP q=-q)/\(sg q=false->¬q<0/\gP q=q):=by
 unfold sg;constructor
 .intro h;have h:=of_decide_eq_true h;have h1:q<0:=by
   rcases Classical.em (q<0) with x|x
   .exact x
   .have:=Rat.num_nonneg.2 (Rat.not_lt.1 x);omega
  exact⟨h1,aWa (Rat.not_le.2 h1)⟩
 .intro h;have h:=of_decide_eq_false h;have h1:0<=q:=Rat.num_nonneg.1 Aa;exact⟨Rat.not_lt.2 h1,aJz h1⟩
theorem aKz{q:Rat}:fits (gP q)↔fits q:=by unfold fits;rw[vG,rA]
theorem bBz{q:Rat}:(sg q=true->mkL q=aG 4 0 [numQ (gP q)])/\(sg q=false->mkL q=numQ (gP q)):=by
 obtain⟨h1,h2⟩:=bBy (q:=q);unfold mkL;exact⟨fun x=>by rw[if_pos (h1 x).1,(h1 x).2],fun x=>by rw[if_neg (h2 x).1,(h2 x).2]⟩
theorem bEv(h:aA)(a b:Sl)(q:Rat)(w:eJ h a b q)(z:Sz 1073741824 q):Fn0 T F.q124 [.agg #[.bool (sg q),a.val,b.val]] h fun v h'=>bG0 h' v q:=by
 have w':eJ h a b (gP q):=⟨by rw[vG];exact w.num,by rw[rA];exact w.den⟩
 have c1:=fun h w=>jZ h a b (gP q) w ⟨by rw[vG];exact z.num,by rw[rA];exact z.den⟩
 rw[aL9] at c1;have hf:=aSd (gP q);have e1:(eO (gP q)).2=0->fits q/\(eO (gP q)).1=gP q:=fun x=>by
  unfold eO at x ⊢
  split at x
  .rename_i y;rw[if_pos y];exact⟨aKz.1 y,rfl⟩
  .cases x
 have e2:(eO (gP q)).2≠0->¬fits q:=fun x y=>x (by unfold eO;rw[if_pos (aKz.2 y)])
 obtain⟨l1,l2⟩:=bBz (q:=q);obtain⟨S,hS⟩:=AH (sg q);obtain⟨P,hP⟩:=AH (eO (gP q));obtain⟨P1,P2⟩:=P;rw[<-hS] at l1 l2 ⊢;simp only[<-hP] at c1 hf e1 e2;replace c1:∀h,eJ h a b (gP q)->Fn0 T F.q49 [.agg #[.bool false,a.val,b.val]] h fun v h'=>∃c d:Sl,v=.tuple #[.agg #[.bool (sg P1),c.val,d.val],.int .i64 P2]/\eA h' c d P1:=c1
 have fin:∀h (v:Value) (t:Tr),(S=true->t=aG 4 0 [numQ P1])->(S=false->t=numQ P1)->VE h v t->bG0 h (.tuple #[v,.bool (eq P2 0)]) q:=fun h v t s1 s2 ve=>by
  refine⟨v,t,_,rfl,ve,fun x=>?_,fun x=>e2 fun y=>?_⟩
  .have y:P2=0:=by
    by_cases y:P2=0
    .exact y
    .rw[lF,aH y] at x;cases x
   obtain⟨y1,y2⟩:=e1 y;refine⟨y1,?_⟩;have y2:P1=gP q:=y2;cases S with
   | true=>rw[s1 rfl,l1 rfl,y2]
   | false=>rw[s2 rfl,l2 rfl,y2]
  .rw[lF,aX y] at x;cases x
 have hf:fits P1:=hf;clear e1 e2 l1 l2 hS hP w z;refine f0C ok D.q124 rfl ?_;cases S
 .conv=>whnf
  repeat' ((first|(apply bJ.go)|(show CN _ _ _ _ _ _;(refine CN.f rfl (c1 _ Ab) (fun v h' hl2 hr=>?_);obtain⟨c,d,rfl,hq⟩:=hr))|((first|apply oI.z|apply cI.z))|intro (_:Nat)|(show LdN _ _ _ _ _;first|refine LdN.o 0 rfl rfl ?_|refine LdN.o 1 rfl rfl ?_|refine LdN.o 2 rfl rfl ?_)|refine Ld.o 1 rfl rfl ?_|(show Sto _ _ _ _;first|refine Sto.l 0 rfl rfl rfl ?_|refine Sto.l 1 rfl rfl rfl ?_|refine Sto.l 2 rfl rfl rfl ?_))<;>conv=>whnf)
  all_goals exact RN.a (fin _ _ (numQ P1) (fun x=>by cases x) (fun _=>rfl) ⟨1,0,_,c,d,[],⟨none,0,0⟩,rfl,VE.numQ hf Ab⟩)
 .conv=>whnf
  repeat' ((first|(apply bJ.go)|(show CN _ _ _ _ _ _;first|(refine CN.f rfl (c1 _ Ab) (fun v h' hl2 hr=>?_);obtain⟨c,d,rfl,hq⟩:=hr;have hE:=VE.numQ hf hq)|(refine CN.keep 0 rfl rfl (fun hl2=>?_);refine CN.f rfl (aYc 4 0 Ae Ae [numQ P1] ⟨some ⟨_,0,none⟩,1,1⟩ _ (IsK.one (hE.mono Ad) rfl hl2)) (fun v h3 hl3 hr=>?_);obtain⟨op9,ar9,ng9,nn9,dd9,nm9,ss9,rfl,hE9⟩:=hr))|((first|apply oI.z|apply cI.z))|intro (_:Nat)|(show LdN _ _ _ _ _;first|refine LdN.o 0 rfl rfl ?_|refine LdN.o 1 rfl rfl ?_|refine LdN.o 2 rfl rfl ?_)|refine Ld.o 1 rfl rfl ?_|(show Sto _ _ _ _;first|refine Sto.l 0 rfl rfl rfl ?_|refine Sto.l 1 rfl rfl rfl ?_|refine Sto.l 2 rfl rfl rfl ?_))<;>conv=>whnf)
  all_goals exact RN.a (fin _ _ _ (fun _=>rfl) (fun x=>by cases x) ⟨op9,ar9,ng9,nn9,dd9,nm9,ss9,rfl,hE9⟩)
theorem signQ_neg{q:Rat}:(dH q<0->mkL q=aG 4 0 [numQ (-q)])/\(¬dH q<0->mkL q=numQ q):=by
 have h:dH q<0↔q<0:=by
  rw[wK,Int.sign_neg_iff];exact⟨fun x=>Rat.not_le.1 fun y=>by have:=Rat.num_nonneg.2 y;omega,fun x=>by
    by_cases y:q.num<0
    .exact y
    .exact absurd x (Rat.not_lt.2 (Rat.num_nonneg.1 Aa))⟩
 unfold mkL;exact⟨fun x=>if_pos (h.1 x),fun x=>if_neg fun y=>x (h.2 y)⟩
theorem rnum_ct(h:aA)(a b:Sl)(q:Rat)(w:IsQ h a b q)(z:Sr 4294967296 q)(zf:Sz 1073741824 q):Fn0 T F.q269 [.agg #[.bool (sg q),a.val,b.val]] h fun v h'=>VE h' v (numQ q):=by
 have c1:=fun h w=>aTb h a b q w z
 refine f0C ok D.q269 rfl ?_;conv=>whnf
 repeat' ((first|(show CN _ _ _ _ _ _;(refine CN.f rfl (c1 _ Ab) (fun v h' hl2 hr=>?_);obtain⟨c,d,rfl,hq⟩:=hr))|((first|apply oI.z|apply cI.z))|intro (_:Nat)|(show LdN _ _ _ _ _;first|refine LdN.o 0 rfl rfl ?_|refine LdN.o 1 rfl rfl ?_)|refine Sto.l 0 rfl rfl rfl ?_)<;>conv=>whnf)
 all_goals exact RN.a ⟨1,0,_,c,d,[],⟨none,0,0⟩,rfl,IsE.mkK (s:=⟨none,0,0⟩) Ae Ae (lO Ab zf) (fun _ x=>by cases x) (IsK.nil _)⟩
theorem rlit_ct(h:aA)(a b:Sl)(q:Rat)(w:IsQ h a b q)(z:Sr 4294967296 q)(zf:Sz 1073741824 q):Fn0 T F.q203 [.agg #[.bool (sg q),a.val,b.val]] h fun v h'=>VE h' v (mkL q):=by
 obtain⟨l1,l2⟩:=signQ_neg (q:=q);have c1:=fun h w=>aBl h a b q w (z.mono Ae)
 have c2:=fun h w=>bB6 h a b q w (z.mono Ae)
 have c3:=fun h w=>rnum_ct h a b q w z zf
 have c4:=fun h w=>rnum_ct h a b (-q) (IsQ.neg w) (Sr.neg z) ⟨by rw[yH];exact zf.num,by rw[bNs];exact zf.den⟩
 obtain⟨S,hS⟩:=AH (dH q);simp only[<-hS] at c1 l1 l2;clear hS;refine f0C ok D.q203 rfl ?_;conv=>whnf
 repeat' ((first|(show CN _ _ _ _ _ _;first|refine CN.quiet rfl (c1 _ Ab) ?_|refine CN.quiet rfl (c2 _ Ab) ?_|(refine CN.f rfl (c3 _ Ab) (fun v h' hl2 hr=>?_);obtain⟨op9,ar9,ng9,nn9,dd9,nm9,ss9,rfl,hE9⟩:=hr)|(refine CN.f rfl (c4 _ Ab) (fun v h' hl2 hr=>?_);obtain⟨op9,ar9,ng9,nn9,dd9,nm9,ss9,rfl,hE9⟩:=hr)|(refine CN.f rfl (rone_ct 4 0 Ae Ae _ _ _ hE9) (fun v h' hl2 hr=>?_);obtain⟨op8,ar8,ng8,nn8,dd8,nm8,ss8,rfl,hE8⟩:=hr))|((first|apply oI.z|apply cI.z))|intro (_:Nat)|(show LdN _ _ _ _ _;first|refine LdN.o 0 rfl rfl ?_|refine LdN.o 1 rfl rfl ?_)|refine Sto.l 0 rfl rfl rfl ?_|(apply aB<;>intro _<;>try (exfalso;omega)))<;>conv=>whnf)
 all_goals first
  | (rw[l1 Aa];exact RN.a ⟨op8,ar8,ng8,nn8,dd8,nm8,ss8,rfl,hE8⟩)
  | (rw[l2 Aa];exact RN.a ⟨op9,ar9,ng9,nn9,dd9,nm9,ss9,rfl,hE9⟩)
theorem bEw(h:aA)(n:Bool)(a b:Sl)(x:Option Rat)(w:bP h n a b x):Fn0 T F.q160 [.agg #[.bool n,a.val,b.val]] h fun v _=>v=.bool (!dec (x.isSome=true)):=by
 obtain⟨l,m,v,rfl⟩:=w.ex;refine (aIq h n a b l m v).mono fun v h' _ r=>?_
 rw[r,dJ (q:=(iV n l m).isSome=true)];unfold iV;by_cases k:okR n l m<;>simp[k]
theorem bCl(h:aA)(n:Bool)(a b:Sl)(q:Rat)(w:bP h n a b (some q)):Fn0 T F.q21 [.agg #[.bool n,a.val,b.val]] h fun v h'=>∃s t:Sl,v=.agg #[.bool (sg q),s.val,t.val]/\IsQ h' s t q:=by
 obtain⟨l,m,v,-,rfl⟩:=w.of;exact sM h n a b l m v
theorem RLiteral_ct(h:aA)(n:Bool)(a b:Sl)(x:Option Rat)(w:bP h n a b x):Fn0 T F.q123 [.agg #[.bool n,a.val,b.val]] h fun v h'=>bC8 h' v (aYd x):=by
 have c1:=fun h w=>bEw h n a b x w
 cases x with
 | none=>
  refine f0C ok D.q123 rfl ?_;conv=>whnf
  repeat' ((first|(show CN _ _ _ _ _ _;(refine CN.f rfl (c1 _ Ab) (fun v h' hl2 hr=>?_);rw[aH Aq] at hr;subst hr))|((first|apply oI.z|apply cI.z))|intro (_:Nat)|(show LdN _ _ _ _ _;first|refine LdN.o 0 rfl rfl ?_|refine LdN.o 1 rfl rfl ?_)|refine Sto.l 0 rfl rfl rfl ?_)<;>conv=>whnf)
  all_goals exact RN.a ⟨_,rfl,VE.zero _⟩
 | some q=>
  have hf:=w.fits;have z:=(jF hf).mono (l:=4294967296) Ae;have zf:=oK hf;have c2:=fun h w=>bCl h n a b q w
  have c3:=fun h s t w=>rlit_ct h s t q w z zf
  refine f0C ok D.q123 rfl ?_;conv=>whnf
  repeat' ((first|(show CN _ _ _ _ _ _;first|(refine CN.f rfl (c1 _ Ab) (fun v h' hl2 hr=>?_);rw[aX Aq] at hr;subst hr)|(refine CN.f rfl (c2 _ Ax) (fun v h' hl2 hr=>?_);obtain⟨s1,t1,rfl,hq⟩:=hr)|(refine CN.f rfl (c3 _ _ _ Ab) (fun v h' hl2 hr=>?_);obtain⟨op9,ar9,ng9,nn9,dd9,nm9,ss9,rfl,hE9⟩:=hr))|((first|apply oI.z|apply cI.z))|intro (_:Nat)|(show LdN _ _ _ _ _;first|refine LdN.o 0 rfl rfl ?_|refine LdN.o 1 rfl rfl ?_)|refine Sto.l 0 rfl rfl rfl ?_)<;>conv=>whnf)
  all_goals exact RN.a ⟨_,rfl,op9,ar9,ng9,nn9,dd9,nm9,ss9,rfl,hE9⟩
end Go.Proofs.Y