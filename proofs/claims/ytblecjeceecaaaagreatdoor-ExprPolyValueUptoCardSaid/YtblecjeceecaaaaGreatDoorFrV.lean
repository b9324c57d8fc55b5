/- Values that come in, opened: of variables, and alone. -/
import Derived.Test.YtblecjeceecaaaaGreatDoorFrT
import Derived.Test.YtblecjeceecaaaaGreatDoorE62
set_option linter.all false
set_option maxRecDepth 20000
namespace Go.Proofs.YtblecjeceecaaaaGreatDoor
open Go Go.Proofs.Y Go.Vc Go.Dig Go.ChangeShapes Go.WideShapes Go.ChangeAt Go.RowKit
theorem aC8:Tryz.prog.cellsOf 63=4:=by kernel_rfl
theorem numV_of{h:aA}{n:Bool}{a b:Sl}{l m:List Nat}(v:bV h a b l m):bP h n a b (iV n l m):=⟨l,m,v,rfl⟩
theorem isV_nil(h:aA):IsV h ⟨none,0,0⟩ []:=⟨rfl,bJf _,.inl rfl⟩
theorem tK.of{h:aA}{c:Array Value}:∀(bs:List (List Nat × Option Rat)) (off:Nat),(∀j n x,bs[j]?=some (n,x)->c[off+j*4]?=some (.string (txt n))/\(∀y∈n,y<256)/\∃ng,∃a b:Sl,(∀i v,[Value.bool ng,a.val,b.val][i]?=some v->c[off+j*4+1+i]?=some v)/\bP h ng a b x)->tK h c off bs
 | [],_,_=>trivial
 | (n,t)::bs,off,g=>by
  refine⟨?_,tK.of bs (off+4) fun j n x hb=>?_⟩
  .have:=g 0 n t rfl
   rwa [bKi,bJz] at this
  .have:=g (j+1) n x (by simpa using hb)
   rwa [show off+(j+1)*4=off+4+j*4 by omega] at this
theorem aK8{H:Type}{enc:TypeId × Value->H}{w:World}{n:Nat}{c0:Value}{d:DataW H}{p:List MemPlace}(f:DataW.trod enc Tryz.prog w 0 (fun _=>true) true n 36 [c0]=some (d,p))(hb:Rows.uptoBulk d<=1048576):∃(s:Sl) (bs:List (List Nat × Option Rat)),c0=s.val/\IsV (eM w) s bs/\bs.length<=1048576:=by
 rcases DataW.trod_slice Tryz.underlying36 f with ⟨e4,-⟩|⟨ad,len',cap',elems,rest,n',rfl,e4,e5,-,hlc,hcm,hel,hk,-,-⟩
 .exact⟨⟨none,0,0⟩,[],(List.cons.inj e4).1,isV_nil _,bJe _⟩
 .have ev:=(List.cons.inj e4).1;have hbl:Rows.uptoBulkAll (elems.map (·.1))<=1048576:=by
   have e6:=(Prod.mk.inj e5).1;rw[e6] at hb;simp only[Rows.uptoBulk] at hb;omega
  have hk':∀i,i<len'->∃(b:List Nat × Option Rat) (vs:List Value),w.cells? 0 (ad.add (i*4)) 4=some vs/\vs[0]?=some (.string (txt b.1))/\(∀y∈b.1,y<256)/\∃ng,∃a c:Sl,vs.drop 1=[.bool ng,a.val,c.val]/\bP (eM w) ng a c b.2:=fun i hi=>by
   have h1:=hk i hi;rw[aC8,bIq Aa,Option.bind_eq_some_iff] at h1;obtain⟨vs,h2,h3⟩:=h1;obtain⟨y0,y1,m,hx,hlen,g0,g1⟩:=trod_struct2 Tryz.underlying63 h3;have hl4:vs.length=4:=by rw[aC8] at hlen;exact hlen
   rw[show (Tryz.prog.cellsOf 9)=1 from aJd] at g0;rw[show (Tryz.prog.cellsOf 24)=3 from aJc] at g1;obtain⟨c0,c1,c2,c3,hvs⟩:∃c0 c1 c2 c3,vs=[c0,c1,c2,c3]:=by
    match vs,hl4 with
    | [c0,c1,c2,c3],_=>exact⟨c0,c1,c2,c3,rfl⟩
   subst hvs;have g0':DataW.trod enc Tryz.prog w 0 (fun _=>true) true m 9 [c0]=some y0:=g0
   have g1':DataW.trod enc Tryz.prog w 0 (fun _=>true) true m 24 [c1,c2,c3]=some y1:=g1
   obtain⟨s,e3,rfl,hs⟩:=DataW.trod_string Tryz.underlying9 g0';obtain⟨ng,a,b,l,mm,dn,dm,e2,wa,wb,ba,bb,hd,pa,pb,-⟩:=aJa (enc:=enc) (base:=0) (v:=.agg #[c1,c2,c3]) (d:=y1.1) (p:=y1.2) ⟨_,rfl⟩ ⟨m,g1'⟩;have e2':=congrArg Array.toList (Value.agg.inj e2);obtain⟨hn1,hn2⟩:=aU1 s;refine⟨(s.data.toList.map (·.toNat),iV ng l mm),_,h2,?_,hn2,ng,a,b,e2',numV_of ?_⟩
   .rw[List.getElem?_cons_zero,(List.cons.inj e3).1];exact congrArg some (congrArg Value.string hn1)
   .have hm:Rows.uptoBulk (elems[i]'(Aa)).1<=1048576:=bJd (aB2 (bJg (bK2 _))) hbl;rw[hx] at hm;simp only[Rows.uptoBulk,Rows.uptoBulkAll,hd] at hm;have q1:=wX pa;have q2:=wX pb;exact⟨wa,wb,ba,bb,Aa,Aa⟩
  have hch:∀i,∃b:List Nat × Option Rat,i<len'->∃vs:List Value,w.cells? 0 (ad.add (i*4)) 4=some vs/\vs[0]?=some (.string (txt b.1))/\(∀y∈b.1,y<256)/\∃ng,∃a c:Sl,vs.drop 1=[.bool ng,a.val,c.val]/\bP (eM w) ng a c b.2:=fun i=>by
   by_cases hi:i<len'
   .obtain⟨b,g⟩:=hk' i hi;exact⟨b,fun _=>g⟩
   .exact⟨([],none),fun x=>absurd x hi⟩
  obtain⟨f,hF⟩:=Classical.axiomOfChoice hch;have hlb:len'<=1048576:=by
   have:=aB1 (elems.map (·.1));rw[bJb,hel] at this;omega
  refine⟨⟨some ad,len',cap'⟩,(List.range len').map f,ev,⟨by simp,hlc,?_⟩,by simpa using hlb⟩
  rcases bKm len' with h0|h0
  .left;rw[h0];rfl
  .right
   obtain⟨bl,off,spot⟩:=ad;obtain⟨vs0,g0,-⟩:=hF 0 h0;have c0:=(gD g0).2 0 Aa;have l0:=(gD g0).1;rw[bIq Aa,bKi] at c0;rw[show Addr.add (Addr.add ⟨bl,off,spot⟩ 0) 0=⟨bl,off,spot⟩ from rfl] at c0;obtain⟨hsp,c,T,fz,hc,-⟩:=pY c0
   change spot=none at hsp
   subst hsp;refine⟨bl,off,c,T,fz,rfl,hc,tK.of _ _ fun i bn bx hb=>?_⟩
   rw[bKo] at hb;obtain⟨i',hi',hb⟩:=Option.map_eq_some_iff.1 hb;obtain⟨hil,rfl⟩:i<len'/\i=i':=by
    rcases bJ4 i len' with q|q
    .rw[List.getElem?_range q] at hi';exact⟨q,Option.some.inj hi'⟩
    .rw[bJn (by simpa using q)] at hi';cases hi'
   obtain⟨vs,g1,g2,g3,ng,a,b,g4,g5⟩:=hF i hil;rw[hb] at g2 g3 g5;obtain⟨l1,g6⟩:=gD g1;have cell:∀j,j<4->c[off+i*4+j]?=vs[j]?:=fun j hj=>by
    have c1:=g6 j hj;rw[sV,sV,bIq Aa] at c1;obtain⟨-,c',T',fz',hc',hv⟩:=pY c1;rw[hc] at hc';cases hc';rw[hv,bIq Aa]
   refine⟨?_,g3,ng,a,b,fun j v hv=>?_,g5⟩
   .have:=cell 0 Aa;rw[bJz] at this;rw[this,g2]
   .have hj:j<3:=(bIr.1 hv).1;have:=cell (1+j) Aa;rw[<-bKd] at this;rw[this,<-bLt,g4,hv]
theorem tM{h:aA}{v:Value}(i:In h 36 v):∃(s:Sl) (bs:List (List Nat × Option Rat)),v=s.val/\IsV h s bs/\bs.length<=1048576:=by
 obtain⟨w,H,enc,base,d,p,rfl,hval,⟨n,hn⟩,hb⟩:=i.raw;obtain⟨a,len,cap,rfl⟩:=okWide_slice Tryz.underlying36 hval;exact aK8 (c0:=.slice a len cap) hn hb
end Go.Proofs.YtblecjeceecaaaaGreatDoor