/- A walk that stops ahead of a region. -/
import Derived.Test.YtdccpmlhflpeaaaGreatDoorE93
set_option linter.all false
set_option maxHeartbeats 1000000
set_option maxRecDepth 20000
namespace Go.Vc
open Go
structure aX6 (p:Prop):Prop where x:p
theorem cI.stop{T:Tab}{Q:fN}{ρ:Env}{h:aA}{L:Own}(id:Nat){ops:Array Oper}{dr:Bool}{b:Code}(x:aX6 (aQ (cI T (.region id ops dr)) (cI T b) (wr (.region id ops dr)) Q ρ h L)):cI T (.seq (.region id ops dr) b) Q ρ h L:=cI.seqN x.x
theorem cI.stopS{T:Tab}{Q:fN}{ρ:Env}{h:aA}{L:Own}(id:Nat){ops:Array Oper}{dr:Bool}{b c:Code}(x:aX6 (aQ (cI T (.seq (.region id ops dr) c)) (cI T b) (wr (.seq (.region id ops dr) c)) Q ρ h L)):cI T (.seq (.seq (.region id ops dr) c) b) Q ρ h L:=cI.seqN x.x
end Go.Vc
/- Subst on both sides; its law. -/
namespace Go.Vc
open Go Go.Dig
end Go.Vc
namespace Go.Proofs.Y
open Go Go.Vc Go.Dig
def MsR{α:Type}(ms ps:List (List Nat × α)):Prop:=(∀n,n∈ms.map (·.1)↔n∈ps.map (·.1))/\((ps.map (·.1)).Nodup->ms=ps)
theorem MsR.new{α:Type}{ms ps:List (List Nat × α)}{n:List Nat}{u:α}(r:MsR ms ps):MsR (ms++[(n,u)]) (ps++[(n,u)]):=by
 refine⟨fun k=>?_,fun h=>?_⟩
 .have:=r.1 k;simp only[bDl,bDf,this]
 .rw[bDl] at h;rw[r.2 (bGt.1 h).1]
theorem MsR.old{α:Type}{ms ps:List (List Nat × α)}{n:List Nat}{u t:α}{j:Nat}(r:MsR ms ps)(hj:ms[j]?=some (n,t)):MsR (ms.set j (n,u)) (ps++[(n,u)]):=by
 have hm:(ms.set j (n,u)).map (·.1)=ms.map (·.1):=by
  rw[List.map_set];refine bGr fun i=>?_
  rw[bHa]
  split
  .rename_i e;subst e;rw[bF1,hj];have:=(bC9.1 hj).1;rw[if_pos (by rw[bDt];exact this)]
   rfl
  .rfl
 have hn:n∈ps.map (·.1):=(r.1 n).1 (List.mem_map.2 ⟨_,bDc hj,rfl⟩);refine⟨fun k=>?_,fun h=>?_⟩
 .rw[hm,r.1 k,bDl,bDf];refine⟨.inl,fun x=>x.elim id fun x=>?_⟩
  simp at x;rw[x];exact hn
 .rw[bDl] at h;have:=(bGt.1 h).2.2 n hn n Ao;exact absurd rfl this
theorem sG{α:Type}{ps:List (List Nat × α)}{b:List Nat × α}:jQ (ps++[b])↔jQ ps/\fE b.1/\b.1∉ps.map (·.1):=by
 unfold jQ;rw[bDl,bGt];simp only[bDf,bDk];constructor
 .rintro⟨h1,h2,-,h3⟩
  exact⟨⟨fun x hx=>h1 x (.inl hx),h2⟩,h1 b (.inr rfl),fun hb=>h3 _ hb _ Ao rfl⟩
 .rintro⟨⟨h1,h2⟩,h3,h4⟩
  refine⟨fun x hx=>hx.elim (h1 x) fun e=>e▸h3,h2,by simp,fun x hx y hy e=>?_⟩
  simp at hy;subst e hy;exact h4 hx
theorem aT2{α:Type}:jQ ([]:List (List Nat × α)):=⟨fun _ h=>(by cases h),bHz⟩
theorem vF:((0:Int):Rat)=0:=rfl
theorem aCv:((1:Int):Rat)=1:=rfl
theorem cR.of{h:aA}{n:Bool}{a b:Sl}{q:Rat}(w:cR h n a b (some q)):∃l m,bJ h a b l m/\okR n l m/\aN n l m=q:=by
 obtain⟨l,m,v,e⟩:=w.ex;unfold jS at e
 split at e
 .exact⟨l,m,v,Ab,(Option.some.inj e).symm⟩
 .cases e
theorem cR.fits{h:aA}{n:Bool}{a b:Sl}{q:Rat}(w:cR h n a b (some q)):fits q:=by
 obtain⟨l,m,v,k,rfl⟩:=w.of;exact k.2.2
def bA3(h:aA)(v:Value)(q:Rat):Prop:=∃n,∃a b:Sl,v=.agg #[.bool n,a.val,b.val]/\cR h n a b (some q)
instance:UpV bA3:=⟨fun hl ⟨n,a,b,e,w⟩=>⟨n,a,b,e,by obtain⟨l,m,v,e2⟩:=w.ex;exact⟨l,m,v.mono hl,e2⟩⟩⟩
def VQ(h:aA)(v:Value)(x:Option Rat):Prop:=∃n,∃a b:Sl,∃bb,v=.tuple #[.agg #[.bool n,a.val,b.val],.bool bb]/\(bb=true->∃q,x=some q/\cR h n a b (some q))/\(bb=false->x=none)
def NQ(h:aA)(v:Value)(p:Rat × Int):Prop:=∃n,∃a b:Sl,v=.tuple #[.agg #[.bool n,a.val,b.val],.int .i64 p.2]/\cR h n a b (some p.1)
theorem aNa.nq{h:aA}{v:Value}{p:Rat × Int}:aNa h v p->NQ h v p:=fun ⟨a,b,e,_,w⟩=>⟨_,a,b,e,w⟩
def rO(p:Rat × Int)(x:Option Rat):Prop:=(p.2=0->x=some p.1)/\(p.2≠0->x=none)
theorem rO.out(q:Rat):rO (fH q) (iK q):=by
 unfold fH iK
 split
 .exact⟨fun _=>rfl,fun h=>absurd rfl h⟩
 .exact⟨fun h=>absurd h Ad,fun _=>rfl⟩
theorem rO.err(e:Int)(h:e≠0):rO (0,e) none:=⟨fun x=>absurd x h,fun _=>rfl⟩
theorem VQ.out{h:aA}{p:Rat × Int}{x:Option Rat}{n:Bool}{a b:Sl}(ox:rO p x)(w:cR h n a b (some p.1)):VQ h (.tuple #[.agg #[.bool n,a.val,b.val],.bool (eq p.2 0)]) x:=by
 refine⟨n,a,b,_,rfl,fun e=>⟨p.1,ox.1 ?_,w⟩,fun e=>ox.2 fun y=>?_⟩
 .by_cases y:p.2=0
  .exact y
  .rw[pO,aG y] at e;cases e
 .rw[pO,bA y] at e;cases e
theorem aMe(h:aA)(n:Bool)(a b:Sl)(e:Int):Fn0 T F.q108 [.agg #[.bool n,a.val,b.val],.int .i64 e] h fun v h'=>h'=h/\v=.tuple #[.agg #[.bool n,a.val,b.val],.bool (eq e 0)]:=by
 refine f0C ok D.q108 rfl ?_;conv=>whnf
 repeat' ((first|((first|apply oI.z|apply cI.z))|intro (_:Nat)|(show LdN _ _ _ _ _;first|refine LdN.o 0 rfl rfl ?_|refine LdN.o 1 rfl rfl ?_)|refine Sto.l 0 rfl rfl rfl ?_)<;>conv=>whnf)
 all_goals exact RN.a ⟨rfl,rfl⟩
theorem bC1(h:aA)(tb:Tb h)(n:Bool)(a b:Sl)(q:Rat)(w:cR h n a b (some q)):Fn0 T F.q109 [.agg #[.bool n,a.val,b.val]] h fun v h'=>NQ h' v (fH (-q)):=by
 obtain⟨l,m,v,k,rfl⟩:=w.of;exact (aU9 h tb n a b l m v).mono fun v h' _ r=>by
  rw[show qD (fun q=>-q) n l m=fH (-(aN n l m)) from if_pos k] at r
  exact (r.isn (Fok.out _)).nq
def aJ5(q:Rat)(arg:Int):Rat × Int:=if arg<0/\q=0 then (0,10) else fH (kR q arg)
theorem rO.pow(q:Rat)(arg:Int):rO (aJ5 q arg) (if arg<0/\q=0 then none else iK (kR q arg)):=by
 unfold aJ5
 split
 .exact rO.err 10 Ad
 .exact rO.out _
theorem bC2(h:aA)(tb:Tb h)(n:Bool)(a b:Sl)(q:Rat)(arg:Int)(h1:-32<=arg)(h2:arg<=32)(w:cR h n a b (some q)):Fn0 T F.q110 [.agg #[.bool n,a.val,b.val],.int .i64 arg] h fun v h'=>NQ h' v (aJ5 q arg):=by
 obtain⟨l,m,v,k,rfl⟩:=w.of;exact (aU8 h tb n a b l m v arg Aa Aa).mono fun v h' _ r=>by
  rw[show jG n l m arg=aJ5 (aN n l m) arg from (if_pos k).trans ((if_neg Aa).trans (by unfold aJ5;simp only[gU]))] at r;refine (r.isn ?_).nq;unfold aJ5
  split
  .exact Fok.err1 10
  .exact Fok.out _
theorem bA4(h:aA)(tb:Tb h)(n:Bool)(a b:Sl)(q:Rat)(w:cR h n a b (some q)):Fn0 T F.q28 [.agg #[.bool n,a.val,b.val]] h fun v h'=>∃c d:Sl,v=.tuple #[.agg #[.bool (sg q),c.val,d.val],.int .i64 0]/\fP h' c d q:=by
 obtain⟨l,m,v,k,rfl⟩:=w.of;exact (vX h tb n a b l m v).mono fun v h' _ r=>by
  rw[show qD (fun q=>q) n l m=(aN n l m,0) from (if_pos k).trans (if_pos k.2.2)] at r
  obtain⟨c,d,rfl,hr⟩:=r;exact⟨c,d,rfl,hr⟩
theorem bA5(h:aA)(tb:Tb h)(n:Bool)(a b:Sl)(x:Option Rat)(w:cR h n a b x):Fn0 T F.q28 [.agg #[.bool n,a.val,b.val]] h fun v h'=>∃n',∃c d:Sl,∃e,v=.tuple #[.agg #[.bool n',c.val,d.val],.int .i64 e]/\cR h' n' c d (some (x.getD 0))/\(e=0↔x.isSome=true):=by
 obtain⟨l,m,v,rfl⟩:=w.ex;exact (vX h tb n a b l m v).mono fun v h' _ r=>by
  by_cases k:okR n l m
  .rw[show qD (fun q=>q) n l m=(aN n l m,0) from (if_pos k).trans (if_pos k.2.2)] at r
   obtain⟨c,d,rfl,hr⟩:=r;rw[show jS n l m=some (aN n l m) from if_pos k];exact⟨_,c,d,0,rfl,hr.isnum k.2.2,by simp⟩
  .rw[show qD (fun q=>q) n l m=(0,1) from if_neg k] at r
   obtain⟨c,d,rfl,hr⟩:=r;rw[show jS n l m=none from if_neg k];exact⟨_,c,d,1,rfl,hr.isnum eV,by simp⟩
theorem aT3(q:Rat)(h:aA)(tb:Tb h)(op arg:Int)(neg:Bool)(a b s:Sl)(name:List Nat)(n:Bool)(c d:Sl)(hop:op=4\/op=9/\-32<=arg/\arg<=32)(w:cR h n c d (some q)):
  Fn0 T F.q64 [.agg #[.int .i64 op,.int .i64 arg,.bool neg,a.val,b.val,.string (txt name),s.val],.agg #[.bool n,c.val,d.val]] h fun v h'=>VQ h' v (unQ op arg q):=by
 have r1:op=4->unQ op arg q=iK (-q):=fun e=>if_pos e
 have r2:op=9->unQ op arg q=if arg<0/\q=0 then none else iK (kR q arg):=fun e=>(if_neg Aa).trans (if_pos e)
 obtain⟨R,hR⟩:=AB (unQ op arg q);rw[<-hR] at r1 r2 ⊢;clear hR;have c1:=fun h tb w=>bC1 h tb n c d q w
 have c3:=fun h tb w h1 h2=>bC2 h tb n c d q arg h1 h2 w
 have o1:=rO.out (-q);have o3:=rO.pow q arg;obtain⟨P1,hP1⟩:=AB (fH (-q));obtain⟨P3,hP3⟩:=AB (aJ5 q arg);rw[<-hP1] at o1;rw[<-hP3] at o3;simp only[<-hP1] at c1;simp only[<-hP3] at c3;clear hP1 hP3;refine f0C ok D.q64 rfl ?_;conv=>whnf
 repeat' ((first|(show CN _ _ _ _ _ _;first|((first|refine CN.f rfl (c1 _ Ab Ab) (fun v h' hl hr=>?_)|refine CN.f rfl (c3 _ Ab Ab Aa Aa) (fun v h' hl hr=>?_));obtain⟨n1,c1',d1,rfl,hn1⟩:=hr)|refine CN.quiet rfl (aMe _ _ _ _ _) ?_)|((first|apply oI.z|apply cI.z))|intro (_:Nat)|(show LdN _ _ _ _ _;first|refine LdN.o 0 rfl rfl ?_|refine LdN.o 1 rfl rfl ?_)|refine Ld.o 2 rfl rfl ?_|refine Sto.l 0 rfl rfl rfl ?_|(apply aD<;>intro _<;>try (exfalso;omega)))<;>conv=>whnf)
 all_goals first
  | (rw[r1 Aa];exact RN.a (VQ.out o1 Ab))
  | (rw[r2 Aa];exact RN.a (VQ.out o3 Ab))
theorem aO1(q r:Rat)(h:aA)(tb:Tb h)(op:Int)(n:Bool)(c d:Sl)(n':Bool)(c' d':Sl)(hop:op=5\/op=6\/op=7)(w:cR h n c d (some q))(w':cR h n' c' d' (some r)):
  Fn0 T F.q65 [.int .i64 op,.agg #[.bool n,c.val,d.val],.agg #[.bool n',c'.val,d'.val]] h fun v h'=>VQ h' v (biQ op q r):=by
 have r1:op=5->biQ op q r=iK (q+r):=fun e=>if_pos e
 have r2:op=6->biQ op q r=iK (q-r):=fun e=>(if_neg Aa).trans (if_pos e)
 have r3:op=7->biQ op q r=iK (q*r):=fun e=>(if_neg Aa).trans ((if_neg Aa).trans (if_pos e))
 obtain⟨R,hR⟩:=AB (biQ op q r);rw[<-hR] at r1 r2 r3 ⊢;clear hR;have c1:=fun h tb w w'=>(bCo h n c d n' c' d' (some q) (some r) tb w w').mono fun v h' _ r=>r.nq
 have c2:=fun h tb w w'=>(bCp h n c d n' c' d' (some q) (some r) tb w w').mono fun v h' _ r=>r.nq
 have c3:=fun h tb w w'=>(bCq h n c d n' c' d' (some q) (some r) tb w w').mono fun v h' _ r=>r.nq
 have o1:rO (opR (·+·) (some q) (some r)) (iK (q+r)):=rO.out (q+r);have o2:rO (opR (· - ·) (some q) (some r)) (iK (q-r)):=rO.out (q-r);have o3:rO (opR (·*·) (some q) (some r)) (iK (q*r)):=rO.out (q*r);obtain⟨P1,hP1⟩:=AB (opR (·+·) (some q) (some r));obtain⟨P2,hP2⟩:=AB (opR (· - ·) (some q) (some r));obtain⟨P3,hP3⟩:=AB (opR (·*·) (some q) (some r));rw[<-hP1] at o1;rw[<-hP2] at o2;rw[<-hP3] at o3;simp only[<-hP1] at c1;simp only[<-hP2] at c2;simp only[<-hP3] at c3;clear hP1 hP2 hP3;refine f0C ok D.q65 rfl ?_;conv=>whnf
 repeat' ((first|(show CN _ _ _ _ _ _;first|((first|refine CN.f rfl (c1 _ Ab Ab Ab) (fun v h' hl hr=>?_)|refine CN.f rfl (c2 _ Ab Ab Ab) (fun v h' hl hr=>?_)|refine CN.f rfl (c3 _ Ab Ab Ab) (fun v h' hl hr=>?_));obtain⟨n1,a1,b1,rfl,hn1⟩:=hr)|refine CN.quiet rfl (aMe _ _ _ _ _) ?_)|((first|apply oI.z|apply cI.z))|intro (_:Nat)|(show LdN _ _ _ _ _;first|refine LdN.o 0 rfl rfl ?_|refine LdN.o 1 rfl rfl ?_|refine LdN.o 2 rfl rfl ?_)|refine Sto.l 0 rfl rfl rfl ?_|(apply aD<;>intro _<;>try (exfalso;omega)))<;>conv=>whnf)
 all_goals first
  | (rw[r1 Aa];exact RN.a (VQ.out o1 Ab))
  | (rw[r2 Aa];exact RN.a (VQ.out o2 Ab))
  | (rw[r3 Aa];exact RN.a (VQ.out o3 Ab))
end Go.Proofs.Y
/- Values of variables that come in: a slice of them in memory. -/
namespace Go.Vc
open Go Go.Dig
theorem LdN.hasN{h:aA}{L:Vc.Own}{b o m:Nat}{k:Value->Prop}(vs:List Value)(hl:vs.length=m)(hv:∀(i:Nat) v,vs[i]?=some v->Has h L ⟨b,o+i,none⟩ v)(hk:k (.agg vs.toArray)):LdN h L ⟨b,o,none⟩ m k:=
 ⟨vs,hl,fun i hi=>by
   rw[bB];exact hv i _ (by rw[bC7,bC8 Aa];rfl),hk⟩
theorem LdN.hasC{h:aA}{L:Vc.Own}{b o m:Nat}{k:Value->Prop}{x:Value}(vs:List Value)(hl:vs.length+1=m)(hx:Has h L ⟨b,o,none⟩ x)(hv:∀(i:Nat) v,vs[i]?=some v->Has h L ⟨b,o+1+i,none⟩ v)(hk:k (.agg (x::vs).toArray)):LdN h L ⟨b,o,none⟩ m k:=
 LdN.hasN (x::vs) hl (fun i v e=>by
   cases i with
   | zero=>cases e;exact hx
   | succ i=>
     rw[show o+(i+1)=o+1+i by omega]
     exact hv i v (by simpa using e)) hk
end Go.Vc
namespace Go.Proofs.Y
open Go Go.Vc Go.Dig
def tP(h:aA)(c:Array Value):Nat->List (List Nat × Option Rat)->Prop
 | _,[]=>True
 | off,(n,x)::bs=>(c[off]?=some (.string (txt n))/\(∀y∈n,y<256)/\∃ng,∃a b:Sl,(∀i v,[Value.bool ng,a.val,b.val][i]?=some v->c[off+1+i]?=some v)/\cR h ng a b x)/\tP h c (off+4) bs
structure IsV (h:aA) (s:Sl) (bs:List (List Nat × Option Rat)):Prop where
 len:s.l=bs.length
 cap:s.l<=s.c
 mem:bs=[]\/∃bl off c T fz,s.a=some ⟨bl,off,none⟩/\h bl=some (.cells c T fz)/\tP h c off bs
theorem tP.up{h h':aA}(hl:h.le h'){c:Array Value}:∀{bs:List (List Nat × Option Rat)} {off:Nat},tP h c off bs->tP h' c off bs
 | [],_,_=>trivial
 | (_,_)::_,_,⟨⟨h1,h2,ng,a,b,h4,h5⟩,r⟩=>⟨⟨h1,h2,ng,a,b,h4,h5.mono hl⟩,tP.up hl r⟩
theorem IsV.mono{h h':aA}{s:Sl}{bs:List (List Nat × Option Rat)}(w:IsV h s bs)(hl:h.le h'):IsV h' s bs:=
 ⟨w.len,w.cap,w.mem.elim .inl fun ⟨bl,off,c,T,fz,k1,k2,k3⟩=>.inr ⟨bl,off,c,T,fz,k1,hl _ _ k2,tP.up hl k3⟩⟩
theorem tP.get{h:aA}{c:Array Value}:∀{bs:List (List Nat × Option Rat)} {off j:Nat} {n:List Nat} {x:Option Rat},tP h c off bs->bs[j]?=some (n,x)->
  c[off+j*4]?=some (.string (txt n))/\(∀y∈n,y<256)/\∃ng,∃a b:Sl,(∀i v,[Value.bool ng,a.val,b.val][i]?=some v->c[off+j*4+1+i]?=some v)/\cR h ng a b x
 | [],_,_,_,_,_,e=>by simp at e
 | (n',t')::bs,off,0,n,t,w,e=>by
  simp at e;obtain⟨rfl,rfl⟩:=e;rw[bEv,bEh];exact w.1
 | (n',t')::bs,off,j+1,n,t,w,e=>by
  have:=tP.get (j:=j) w.2 (by simpa using e);rw[show off+4+j*4=off+(j+1)*4 by omega] at this
  exact this
theorem IsV.bytes{h:aA}{s:Sl}{bs:List (List Nat × Option Rat)}(w:IsV h s bs){j:Nat}{n:List Nat}{x:Option Rat}(hj:bs[j]?=some (n,x)):∀y∈n,y<256:=by
 rcases w.mem with e|⟨bl,off,c,T,fz,e1,e2,e3⟩
 .subst e;simp at hj
 .exact (tP.get e3 hj).2.1
theorem Idx.valu{h:aA}{s:Sl}{bs:List (List Nat × Option Rat)}(w:IsV h s bs){i:Int}{k:Addr->Prop}(j:Nat)(n:List Nat)(x:Option Rat)(hi:i=j)(ht:bs[j]?=some (n,x))
  (hk:∀(bl off:Nat) (ng:Bool) (a b:Sl),(∀y∈n,y<256)->cR h ng a b x->
    (∀h' L,h.le h'->Has h' L ⟨bl,off,none⟩ (.string (txt n)))->(∀h' L (i:Nat) v,h.le h'->[Value.bool ng,a.val,b.val][i]?=some v->Has h' L ⟨bl,off+1+i,none⟩ v)->k ⟨bl,off,none⟩):Idx s.a i s.l 4 k:=by
 obtain⟨hj,-⟩:=bC9.1 ht;rcases w.mem with e|⟨bl,off,c,T,fz,e1,e2,e3⟩
 .subst e;simp at ht
 .obtain⟨g1,g2,ng,a,b,h2,h3⟩:=tP.get e3 ht;refine Idx.of j e1 hi (by rw[w.len];exact hj) ?_;exact hk bl (off+j*4) ng a b g2 h3 (fun h' L hl=>Has.imm (hl _ _ e2) g1) fun h' L i v hl hv=>Has.imm (hl _ _ e2) (h2 i v hv)
def cF(bs:List (List Nat × Option Rat)):List (List Nat × Rat):=bs.map fun b=>(b.1,b.2.getD 0)
def jR(bs:List (List Nat × Option Rat)):Prop:=∀b∈bs,b.2.isSome=true
instance (bs:List (List Nat × Option Rat)):Decidable (jR bs):=by unfold jR;exact inferInstance
def lX(bs:List (List Nat × Option Rat))(t:Tr):Rat × Bool × Int:=
 if ¬dN t then (0,false,40) else if ¬jQ bs then (0,false,41) else if ¬jR bs then (0,false,1) else match dP (cF bs) t with
  | none=>(0,false,0)
  | some q=>(q,true,0)
theorem aCw{bs:List (List Nat × Option Rat)}{t:Tr}(h:¬dN t):lX bs t=(0,false,40):=if_pos h
theorem aCx{bs:List (List Nat × Option Rat)}{t:Tr}(h:dN t)(n:¬jQ bs):lX bs t=(0,false,41):=(if_neg fun x=>x h).trans (if_pos n)
theorem aCy{bs:List (List Nat × Option Rat)}{t:Tr}(h:dN t)(n:jQ bs)(s:¬jR bs):lX bs t=(0,false,1):=(if_neg fun x=>x h).trans ((if_neg fun x=>x n).trans (if_pos s))
theorem aCz{bs:List (List Nat × Option Rat)}{t:Tr}(h:dN t)(n:jQ bs)(s:jR bs)(v:dP (cF bs) t=none):lX bs t=(0,false,0):=
 (if_neg fun x=>x h).trans ((if_neg fun x=>x n).trans ((if_neg fun x=>x s).trans (by rw[v])))
theorem aC0{bs:List (List Nat × Option Rat)}{t:Tr}(h:dN t)(n:jQ bs)(s:jR bs){q:Rat}(v:dP (cF bs) t=some q):lX bs t=(q,true,0):=
 (if_neg fun x=>x h).trans ((if_neg fun x=>x n).trans ((if_neg fun x=>x s).trans (by rw[v])))
theorem aT4:jR []:=fun _ h=>by cases h
theorem wQ{ps:List (List Nat × Option Rat)}{b:List Nat × Option Rat}:jR (ps++[b])↔jR ps/\b.2.isSome=true:=by
 unfold jR;simp only[bDf,bDk];exact⟨fun h=>⟨fun x hx=>h x (.inl hx),h b (.inr rfl)⟩,fun h x hx=>hx.elim (h.1 x) fun e=>e▸h.2⟩
theorem aHu(ps:List (List Nat × Option Rat))(n:List Nat)(x:Option Rat):cF (ps++[(n,x)])=cF ps++[(n,x.getD 0)]:=by
 unfold cF;rw[bDl];rfl
theorem vG(ps:List (List Nat × Option Rat)):(cF ps).map (·.1)=ps.map (·.1):=by
 unfold cF;rw[bGx];rfl
theorem aO2{x:Option Rat}(h:∀q,x=some q->fits q):fits (x.getD 0):=by
 cases x with
 | none=>exact eV
 | some q=>exact h q rfl
theorem aX7{q:Rat}(h:fits q):Sr 128 q:=⟨((zE q).1 h).1,((zE q).1 h).2⟩
end Go.Proofs.Y
/- One kid turned, on both sides; nodes made. -/
namespace Go.Vc
open Go Go.Dig
end Go.Vc
namespace Go.Proofs.Y
open Go Go.Vc Go.Dig
theorem lG(op arg:Int)(ho:-9223372036854775808<=op/\op<=9223372036854775807)(ha:-9223372036854775808<=arg/\arg<=9223372036854775807)(ks:List Tr)(s:Sl)(h:aA)(hk:IsK h s ks):Fn0 T F.q94 [.int .i64 op,.int .i64 arg,s.val] h fun v h'=>VE h' v (aF op arg ks):=by
 refine f0C ok D.q94 rfl ?_;conv=>whnf
 repeat' ((first|((first|apply oI.z|apply cI.z))|intro (_:Nat)|refine LdN.o 0 rfl rfl ?_|refine Sto.l 0 rfl rfl rfl ?_)<;>conv=>whnf)
 exact RN.a (VE.node ho ha hk)
theorem VE.numQ{h:aA}{c d:Sl}{p:Rat}(hf:fits p)(w:fP h c d p):IsE h [.int .i64 1,.int .i64 0,.bool (sg p),c.val,d.val,.string (txt []),.slice none 0 0] (numQ p):=
 IsE.mkK (s:=⟨none,0,0⟩) Ad Ad (mD w (iD hf)) (fun _ x=>by cases x) (IsK.nil _)
theorem aO3(q:Rat):fits (fH q).1:=(Fok.out q).ft
def aO4(h:aA)(v:Value)(q:Rat):Prop:=∃a tt b,v=.tuple #[a,.bool b]/\VE h a tt/\(b=true->fits q/\tt=mkL q)/\(b=false->¬fits q)
theorem aXk{q:Rat}:(sg q=true->q<0/\kV q=-q)/\(sg q=false->¬q<0/\kV q=q):=by
 unfold sg;constructor
 .intro h;have h:=of_decide_eq_true h;have h1:q<0:=by
   rcases Classical.em (q<0) with x|x
   .exact x
   .have:=Rat.num_nonneg.2 (Rat.not_lt.1 x);omega
  exact⟨h1,aSs (Rat.not_le.2 h1)⟩
 .intro h;have h:=of_decide_eq_false h;have h1:0<=q:=Rat.num_nonneg.1 Aa;exact⟨Rat.not_lt.2 h1,aGw h1⟩
theorem aHv{q:Rat}:fits (kV q)↔fits q:=by unfold fits;rw[aIz,aDv]
theorem aXl{q:Rat}:(sg q=true->mkL q=aF 4 0 [numQ (kV q)])/\(sg q=false->mkL q=numQ (kV q)):=by
 obtain⟨h1,h2⟩:=aXk (q:=q);unfold mkL;exact⟨fun x=>by rw[if_pos (h1 x).1,(h1 x).2],fun x=>by rw[if_neg (h2 x).1,(h2 x).2]⟩
theorem aE3(h:aA)(a b:Sl)(q:Rat)(w:cS h a b q)(z:Sz 1073741824 q):Fn0 T F.q155 [.agg #[.bool (sg q),a.val,b.val]] h fun v h'=>aO4 h' v q:=by
 have w':cS h a b (kV q):=⟨by rw[aIz];exact w.num,by rw[aDv];exact w.den⟩
 have c1:=fun h w=>lN h a b (kV q) w ⟨by rw[aIz];exact z.num,by rw[aDv];exact z.den⟩
 rw[aYt] at c1;have hf:=aO3 (kV q);have e1:(fH (kV q)).2=0->fits q/\(fH (kV q)).1=kV q:=fun x=>by
  unfold fH at x ⊢
  split at x
  .rename_i y;rw[if_pos y];exact⟨aHv.1 y,rfl⟩
  .cases x
 have e2:(fH (kV q)).2≠0->¬fits q:=fun x y=>x (by unfold fH;rw[if_pos (aHv.2 y)])
 obtain⟨l1,l2⟩:=aXl (q:=q);obtain⟨S,hS⟩:=AB (sg q);obtain⟨P,hP⟩:=AB (fH (kV q));obtain⟨P1,P2⟩:=P;rw[<-hS] at l1 l2 ⊢;simp only[<-hP] at c1 hf e1 e2;replace c1:∀h,cS h a b (kV q)->Fn0 T F.q41 [.agg #[.bool false,a.val,b.val]] h fun v h'=>∃c d:Sl,v=.tuple #[.agg #[.bool (sg P1),c.val,d.val],.int .i64 P2]/\fP h' c d P1:=c1
 have fin:∀h (v:Value) (t:Tr),(S=true->t=aF 4 0 [numQ P1])->(S=false->t=numQ P1)->VE h v t->aO4 h (.tuple #[v,.bool (eq P2 0)]) q:=fun h v t s1 s2 ve=>by
  refine⟨v,t,_,rfl,ve,fun x=>?_,fun x=>e2 fun y=>?_⟩
  .have y:P2=0:=by
    by_cases y:P2=0
    .exact y
    .rw[pO,aG y] at x;cases x
   obtain⟨y1,y2⟩:=e1 y;refine⟨y1,?_⟩;have y2:P1=kV q:=y2;cases S with
   | true=>rw[s1 rfl,l1 rfl,y2]
   | false=>rw[s2 rfl,l2 rfl,y2]
  .rw[pO,bA y] at x;cases x
 have hf:fits P1:=hf;clear e1 e2 l1 l2 hS hP w z;refine f0C ok D.q155 rfl ?_;cases S
 .conv=>whnf
  repeat' ((first|(apply aQ.go)|(show CN _ _ _ _ _ _;(refine CN.f rfl (c1 _ Ab) (fun v h' hl2 hr=>?_);obtain⟨c,d,rfl,hq⟩:=hr))|((first|apply oI.z|apply cI.z))|intro (_:Nat)|(show LdN _ _ _ _ _;first|refine LdN.o 0 rfl rfl ?_|refine LdN.o 1 rfl rfl ?_|refine LdN.o 2 rfl rfl ?_)|refine Ld.o 1 rfl rfl ?_|(show Sto _ _ _ _;first|refine Sto.l 0 rfl rfl rfl ?_|refine Sto.l 1 rfl rfl rfl ?_|refine Sto.l 2 rfl rfl rfl ?_))<;>conv=>whnf)
  all_goals exact RN.a (fin _ _ (numQ P1) (fun x=>by cases x) (fun _=>rfl) ⟨1,0,_,c,d,[],⟨none,0,0⟩,rfl,VE.numQ hf Ab⟩)
 .conv=>whnf
  repeat' ((first|(apply aQ.go)|(show CN _ _ _ _ _ _;first|(refine CN.f rfl (c1 _ Ab) (fun v h' hl2 hr=>?_);obtain⟨c,d,rfl,hq⟩:=hr;have hE:=VE.numQ hf hq)|(refine CN.keep 0 rfl rfl (fun hl2=>?_);refine CN.f rfl (lG 4 0 Ad Ad [numQ P1] ⟨some ⟨_,0,none⟩,1,1⟩ _ (IsK.one (hE.mono Af) rfl hl2)) (fun v h3 hl3 hr=>?_);obtain⟨op9,ar9,ng9,nn9,dd9,nm9,ss9,rfl,hE9⟩:=hr))|((first|apply oI.z|apply cI.z))|intro (_:Nat)|(show LdN _ _ _ _ _;first|refine LdN.o 0 rfl rfl ?_|refine LdN.o 1 rfl rfl ?_|refine LdN.o 2 rfl rfl ?_)|refine Ld.o 1 rfl rfl ?_|(show Sto _ _ _ _;first|refine Sto.l 0 rfl rfl rfl ?_|refine Sto.l 1 rfl rfl rfl ?_|refine Sto.l 2 rfl rfl rfl ?_))<;>conv=>whnf)
  all_goals exact RN.a (fin _ _ _ (fun _=>rfl) (fun x=>by cases x) ⟨op9,ar9,ng9,nn9,dd9,nm9,ss9,rfl,hE9⟩)
end Go.Proofs.Y