/- Rows of terms in memory that is never written: read term by term. -/
import Derived.Test.YtiohcpiloenmoaaGreatDoorPG1
set_option linter.all false
set_option maxHeartbeats 4000000
set_option maxRecDepth 20000
namespace Go.Vc
open Go Go.Dig
def aLb(K:aA->El->Prop)(h:aA)(s:Sl)(p:List (Mon × Rat)):Prop:=∃l:List El,l.map pq=p/\Rw h s 4 (fl l)/\∀x∈l,K h x
class UpE (K:aA->El->Prop):Prop where
 up:∀{h h':aA} {x:El},h.le h'->K h x->K h' x
theorem aLb.mono{K:aA->El->Prop}[UpE K]{h h':aA}{s:Sl}{p:List (Mon × Rat)}(w:aLb K h s p)(hl:h.le h'):aLb K h' s p:=by
 obtain⟨l,h1,h2,h3⟩:=w;exact⟨l,h1,h2.mono hl,fun x hx=>UpE.up hl (h3 x hx)⟩
def aP1(h:aA)(b off:Nat)(x:El):Prop:=∀h' L k v,h.le h'->k<4->x.cells[k]?=some v->Has h' L ⟨b,off+k,none⟩ v
theorem Idx.el{h:aA}{s:Sl}{l:List El}(w:Rw h s 4 (fl l)){i:Int}{k:Addr->Prop}(j:Nat)(x:El)(hi:i=j)(hx:l[j]?=some x)(hk:∀b off,aP1 h b off x->k ⟨b,off,none⟩):Idx s.a i s.l 4 k:=by
 have hj:=(aY5.1 hx).1;have hl:=cY l;have hne:fl l≠[]:=fun e=>by rw[e] at hl;simp at hl;omega
 obtain⟨b,off,c,T,fz,h1,h2,h3⟩:=w.mem hne;have hlen:=w.len;refine Idx.of j h1 hi Aa (hk _ _ fun h' L k v hle hk4 hv=>Has.imm (hle _ _ h2) ?_)
 rw[bA6,h3 _ Aa,aCb hx k hk4,hv]
theorem LdN.el4{h h':aA}{L:Vc.Own}{b off:Nat}{x:El}{k:Value->Prop}(w:aP1 h b off x)(hl:h.le h')(hk:k (.agg x.cells.toArray)):LdN h' L ⟨b,off,none⟩ 4 k:=
 ⟨x.cells,rfl,fun i hi=>by
   rw[aZ];exact w h' L i _ hl hi (by match i,hi with
     | 0,_=>rfl
     | 1,_=>rfl
     | 2,_=>rfl
     | 3,_=>rfl),hk⟩
theorem LdN.elq{h h':aA}{L:Vc.Own}{b off:Nat}{x:El}{k:Value->Prop}(w:aP1 h b off x)(hl:h.le h')(hk:k (.agg #[.bool x.neg,x.n.val,x.d.val])):LdN h' L ⟨b,off+0,none⟩ 3 k:=
 ⟨[.bool x.neg,x.n.val,x.d.val],rfl,fun i hi=>by
   rw[aZ,bAg];exact w h' L i _ hl Aa (by match i,hi with
     | 0,_=>rfl
     | 1,_=>rfl
     | 2,_=>rfl),hk⟩
theorem Ld.elf{h h':aA}{L:Vc.Own}{b off:Nat}{x:El}{k:Value->Prop}(w:aP1 h b off x)(hl:h.le h')(hk:k x.f.val):Ld h' L ⟨b,off+3,none⟩ k:=Ld.of (w h' L 3 _ hl Ag rfl) hk
theorem aE.el{e:TypeId}{v:Value}{n:Nat}{out:List El}{L:Vc.Own}{x:El}(g:aE e 4 v (n+1) (fl out++x.cells) L):aE e 4 v (n+1) (fl (out++[x])) L:=by
 rw[aO1];have:fl [x]=x.cells:=by show x.cells++[]=_;rw[aZc]
 rw[this];exact g
theorem RN.growE{K:aA->El->Prop}[UpE K]{e:TypeId}{v w:Value}{n:Nat}{out:List El}{h:aA}{L:Vc.Own}{R:Value->aA->Prop}(g:aE e 4 v n (fl out) L)(hw:∀x∈out,K h x)
  (hk:∀h' (s:Sl),h.le h'->v=s.val->aLb K h' s (out.map pq)->R w h'):RN w h L fun v h' L'=>L'=[]/\R v h':=
 RN.growR Ag g fun h' s hl e r=>hk h' s hl e ⟨out,rfl,r,fun x hx=>UpE.up hl (hw x hx)⟩
end Go.Vc
namespace Go.Proofs.Y
open Go Go.Vc Go.Dig
instance:UpE TmW:=⟨fun hl w=>w.mono hl⟩
structure QmW (h:aA) (x:El):Prop where
 q:IsQ h x.n x.d x.q
 sg:x.neg=sg x.q
 fac:lQ h x
instance:UpE QmW:=⟨fun hl w=>⟨w.q.mono hl,w.sg,w.fac.mono hl⟩⟩
structure RmW (h:aA) (x:El):Prop where
 q:fI h x.n x.d x.q
 sg:x.neg=sg x.q
 fac:lQ h x
instance:UpE RmW:=⟨fun hl w=>⟨w.q.mono hl,w.sg,w.fac.mono hl⟩⟩
end Go.Proofs.Y
/- The program's forms: terms put in order, like ones added, limits. -/
namespace Go.Vc
open Go Go.Dig
theorem aWd(t:Mon × Rat):grS [] t=[t]:=rfl
theorem aTy(o:List (Mon × Rat))(u t:Mon × Rat):grS (o++[u]) t=if u.1=t.1 then o++[(u.1,u.2+t.2)] else o++[u]++[t]:=by
 unfold grS;rw[List.getLast?_concat,List.dropLast_concat]
theorem aP2(o:List El)(u:El){n:Nat}(hn:n=o.length):(o++[u])[n]?=some u:=by rw[hn];exact mF o u []
theorem aP3(o:List El)(u v:El){n:Nat}(hn:n=o.length):(o++[u]).set n v=o++[v]:=by rw[hn,bAj _ _ (aZt _),bBv];rfl
theorem aWe{l:List El}(h:dC l):aEg (l.map pq):=List.pairwise_map.2 h
end Go.Vc
namespace Go.Proofs.Y
open Go Go.Vc Go.Dig
abbrev kK (h:aA) (s:Sl) (p:Pol):Prop:=aLb TmW h s p
def flr(n:Nat):List PanicEntry:=[{ v:=.iface Ty.expr_failure (.agg #[.int .i64 (n:Nat)]),recovered:=false }]
abbrev mR (r:Except Nat Pol) (v:Value) (h':aA):Prop:=∃p s,r=.ok p/\v=Sl.val s/\kK h' s p
def aG6(l:List El):Bool:=l.any fun x=>!dec (fits x.q)
def vA(m:Mon):Bool:=m.any fun f=>decide (64<f.2)
def aE6(l:List El):Bool:=l.any fun x=>vA x.m
theorem aE7{m:Mon}:vA m=true↔∃f∈m,64<f.2:=by unfold vA;simp
theorem aTz{l:List El}{p:Pol}(hp:l.map pq=p):aGz p↔200<l.length\/aE6 l=true:=by
 subst hp;unfold aGz aE6;rw[aZp];refine or_congr Iff.rfl ?_;rw[List.any_eq_true];constructor
 .rintro⟨t,ht,g⟩
  obtain⟨x,hx,rfl⟩:=List.mem_map.1 ht;exact⟨x,hx,aE7.2 g⟩
 .rintro⟨x,hx,g⟩
  exact⟨pq x,aZu hx,aE7.1 g⟩
theorem aT0{l:List El}{p:Pol}(hp:l.map pq=p):aG0 p↔aG6 l=true:=by
 subst hp;unfold aG0 aG6;rw[List.any_eq_true];constructor
 .rintro⟨t,ht,g⟩
  obtain⟨x,hx,rfl⟩:=List.mem_map.1 ht;exact⟨x,hx,by rw[show dec (fits x.q)=false from aG g];rfl⟩
 .rintro⟨x,hx,g⟩
  refine⟨pq x,aZu hx,fun hf=>?_⟩
  rw[show dec (fits x.q)=true from aW hf] at g;cases g
theorem aLc{l:List El}{i:Nat}{x:El}(h:l[i]?=some x):aG6 (l.take (i+1))=(aG6 (l.take i) || !dec (fits x.q)):=by
 rw[bB h];unfold aG6;rw[List.any_append];simp
theorem aLd{l:List El}{i:Nat}{x:El}(h:l[i]?=some x):aE6 (l.take (i+1))=(aE6 (l.take i) || vA x.m):=by
 rw[bB h];unfold aE6;rw[List.any_append];simp
theorem aAx{m:Mon}{i:Nat}{f:Fac}(h:m[i]?=some f):vA (m.take (i+1))=(vA (m.take i) || decide (64<f.2)):=by
 rw[bB h];unfold vA;rw[List.any_append];simp
theorem aLe(l:List El):(l.filter nz).map pq=(l.map pq).filter fun t=>!decide (t.2=0):=by
 rw[List.filter_map];rfl
attribute [local irreducible] Vc.Fn FnP
theorem aT1(h:aA)(tb:Tb h)(bp cap N:Nat)(zs:List Value)(l:List El)(hN:l.length=N)(hb:N<=40400)(hc:N<=cap)(w:∀x∈l,TmW h x/\Sz 130 x.q)(r:Except Nat Pol)(hr:cN (l.map pq)=r):
  FnP T F.q169 [.slice (some ⟨bp,0,none⟩) N cap] h [cM bp zs l] (fun v h' L'=>L'=[]/\∃p s,r=.ok p/\v=Sl.val s/\kK h' s p) (fun c _ _=>∃n,r=.error n/\c=flr n):=by
 have c1:=yX h bp cap N zs l hN Aa fun x hx=>(w x hx).1.fac
 refine fPC ok _ D.q169 rfl ?_;conv=>whnf
 repeat' ((first|(show CN _ _ _ _ _ _;(refine CN.own 0 rfl rfl (Fn.wP c1) (fun v h' La hl hr=>?_);obtain⟨l',o1,p1,rfl⟩:=hr;refine⟨_,rfl,?_⟩))|((first|apply oI.z|apply cI.z)))<;>conv=>whnf)
 have hr1:(((l'.map pq).foldl grS []).filter fun t=>!decide (t.2=0))=fP (l.map pq):=aS2 (p1.map pq) (aWe o1)
 have hl':l'.length=N:=p1.length_eq.trans hN;have w':∀x∈l',TmW h' x/\Sz 130 x.q:=fun x hx=>⟨(w x (p1.mem_iff.1 hx)).1.mono hl,(w x (p1.mem_iff.1 hx)).2⟩
 replace tb:=tb.mono hl;refine LpN.keepOnly 0 rfl fun h1 hl1 hb1=>?_
 replace w':∀x∈l',TmW h1 x/\Sz 130 x.q:=fun x hx=>⟨(w' x hx).1.mono hl1,(w' x hx).2⟩
 replace tb:=tb.mono hl1;clear c1 o1 p1 w hl hl1;refine LpN.of (fun r ρ hx L=>∃(i:Nat) (out:List El) (v:Value),r=N-i/\h1.le hx/\i<=N/\rd ρ 17=.int .i64 i/\rd ρ 3=v/\aE Ty.expr_term 4 v out.length (fl out) L/\out.length<=i/\Hq (out.map pq=((l'.take i).map pq).foldl grS [])/\Hq (∀x∈out,TmW hx x/\Sz (132*i) x.q)) N
  ⟨0,[],_,rfl,aA.lr _,aZs _,rfl,rfl,aE.nil _ _ _,aZt _,⟨rfl⟩,⟨fun x hx=>by cases hx⟩⟩ ?_
 conv=>whnf
 repeat intro _
 rename_i r2 h2 L2 hI;obtain⟨i,out,v,rfl,hle,hi,e17,e3,g,ho,⟨hq⟩,⟨hw⟩⟩:=hI;have hb2:=hle _ _ hb1;replace tb:=tb.mono hle;by_cases hiN:i=N
 .have hfin:(out.filter nz).map pq=fP (l.map pq):=by
   rw[aLe,hq,<-hr1]
   congr 2
   rw[hiN,<-hl',aZi]
  have wf:∀x∈out.filter nz,TmW h2 x/\Sz 1073741824 x.q:=fun x hx=>by
   have hx':=hw x (List.mem_filter.1 hx).1;exact⟨hx'.1,hx'.2.mono Aa⟩
  have wq:∀x∈out,TmW h2 x/\Sz 1099511627776 x.q:=fun x hx=>⟨(hw x hx).1,(hw x hx).2.mono Aa⟩
  have hrr:(if aGz (fP (l.map pq)) then Except.error 4 else if aG0 (fP (l.map pq)) then Except.error 1 else Except.ok (fP (l.map pq)))=r:=hr
  have hl1:=aTz hfin;have hl2:=aT0 hfin;have hlen:(out.filter nz).length<=40400:=aZr (bCw ..) Aa;obtain⟨P,hP⟩:=AE (out.filter nz);rw[<-hP] at hfin wf hl1 hl2 hlen;have key:∀(hb:Bool) (lim:Bool),lim=(decide (200<P.length) || aE6 P)->hb=aG6 P->(lim=true->r=.error 4)/\(lim=false->hb=true->r=.error 1)/\(lim=false->hb=false->r=.ok (fP (l.map pq))):=fun hb lim e1 e2=>by
   have e3:aGz (fP (l.map pq))↔lim=true:=by rw[hl1,e1];simp
   have e4:aG0 (fP (l.map pq))↔hb=true:=by rw[hl2,e2]
   refine⟨fun x=>?_,fun x y=>?_,fun x y=>?_⟩
   .rw[<-hrr,if_pos (e3.2 x)]
   .rw[<-hrr,if_neg (fun z=>by rw[e3.1 z] at x;cases x),if_pos (e4.2 y)]
   .rw[<-hrr,if_neg (fun z=>by rw[e3.1 z] at x;cases x),if_neg (fun z=>by rw[e4.1 z] at y;cases y)]
  clear hrr hl1 hl2 hr hr1 w';obtain⟨gl,⟨rfl,h0⟩|⟨j,b,cap',zs',rfl,hG,hcap,hzl⟩⟩:=g
  .skip
   conv at e3=>lhs;whnf
   subst e3;conv at e17=>lhs;whnf
   subst e17;have e0:out=[]:=aZ3.1 h0;have eP:P=[]:=by rw[hP,e0];rfl
   have c2:=pS;have hk:=(key false false (by rw[eP];rfl) (by rw[eP];rfl)).2.2 rfl rfl;rw[<-hfin,eP] at hk;conv=>whnf
   repeat' ((first|(show CN _ _ _ _ _ _;refine CN.quiet rfl (Fn0.wP (c2 _)) ?_)|((first|apply oI.z|apply cI.z))|(apply aB<;>intro _<;>try (exfalso;omega)))<;>conv=>whnf)
   refine LpN.of (fun r ρ hx L=>hx=h2/\rd ρ 63=.int .i64 0/\rd ρ 7=.bool false/\rd ρ 8=.bool false) 0 ⟨rfl,rfl,congrArg Value.bool (lt_false' Ag),rfl⟩ ?_
   conv=>whnf
   repeat intro _
   rename_i r3 h3 L3 hI;obtain⟨rfl,e63,e7,e8⟩:=hI;conv at e63=>lhs;whnf
   subst e63;conv at e7=>lhs;whnf
   subst e7;conv at e8=>lhs;whnf
   subst e8;conv=>whnf
   repeat' ((first|(apply aO.go)|((first|apply oI.z|apply cI.z))|(apply aB<;>intro _<;>try (exfalso;omega)))<;>conv=>whnf)
   exact RN.a (R:=mR r) ⟨[],⟨none,0,0⟩,hk,rfl,[],rfl,Rw.nil _ _,fun x hx=>by cases hx⟩
  .skip
   conv at e3=>lhs;whnf
   subst e3;conv at e17=>lhs;whnf
   subst e17;have c2:=yY h2 b cap' zs' out Aa hcap wq;rw[<-hP] at c2;conv=>whnf
   repeat' ((first|(show CN _ _ _ _ _ _;(refine CN.own j hG rfl (Fn.wP c2) (fun v h' La hl hr=>?_);obtain⟨zs2,rfl,rfl⟩:=hr;refine⟨_,rfl,?_⟩))|((first|apply oI.z|apply cI.z))|(apply aB<;>intro _<;>try (exfalso;omega)))<;>conv=>whnf)
   have hjl:=(aY5.1 hG).1;refine LpN.keepOnly j (bAr hjl) fun h3 hl3 hb3=>?_
   have wf3:∀x∈P,TmW h3 x:=fun x hx=>(wf x hx).1.mono (aA.lt hl hl3)
   have wz3:∀x∈P,Sz 1073741824 x.q:=fun x hx=>(wf x hx).2
   have hPc:P.length<=cap':=by rw[hP];exact aZr (bCw ..) hcap
   clear wf wq c2 hl hl3 hG hb2 hb1 hle hP;refine LpN.of (fun r ρ hx L=>∃(i:Nat) (B C:Bool),r=P.length-i/\h3.le hx/\i<=P.length/\rd ρ 63=.int .i64 i/\rd ρ 7=.bool B/\rd ρ 8=.bool C/\Hq (B=(decide (200<P.length) || aE6 (P.take i)))/\Hq (C=aG6 (P.take i))) P.length
    ⟨0,_,_,rfl,aA.lr _,aZs _,rfl,rfl,rfl,⟨by
      rw[bAt];show Vc.lt 200 _=(decide (200<P.length) || false)
      rw[Bool.or_false];unfold Vc.lt;exact decide_eq_decide.2 Aa⟩,⟨rfl⟩⟩ ?_
   conv=>whnf
   repeat intro _
   rename_i r4 h4 L4 hI;obtain⟨i2,B,C,rfl,hle4,hi2,e63,e7,e8,⟨hB⟩,⟨hC⟩⟩:=hI;conv at e63=>lhs;whnf
   subst e63;conv at e7=>lhs;whnf
   subst e7;conv at e8=>lhs;whnf
   subst e8;have hb4:=hle4 _ _ hb3;by_cases hiP:i2=P.length
   .rw[hiP,aZi] at hB hC;obtain⟨k1,k2,k3⟩:=key C B hB hC;obtain⟨M,hM⟩:=AE P.length;have hPW:kK h4 ⟨some ⟨b,0,none⟩,M,cap'⟩ (fP (l.map pq)):=⟨P,hfin,⟨by rw[cY,hM],by rw[hM];exact hPc,fun _=>⟨b,0,_,_,_,rfl,hb4,fun i hi=>by
      rw[aZq,aZx,aZe hi]⟩⟩,fun x hx=>(wf3 x hx).mono hle4⟩
    rw[<-hM] at hiP ⊢;clear hB hC key hfin;conv=>whnf
    repeat' first|((first|(apply aO.go)|(show Ext _ _ _ _ _ _ _;refine Ext.iface rfl (fun m x=>by cases x) ?_)|((first|apply oI.z|apply cI.z)))<;>conv=>whnf)|(show cnd _ _ _;first|(apply aB<;>intro _<;>first|(exfalso;omega)|conv=>whnf)|(refine bQ (fun hb=>?_) (fun hb=>?_)<;>(first|cases hb|subst hb)<;>(conv=>whnf)))
    all_goals first
     | exact RN.a (R:=mR r) ⟨_,_,k3 rfl rfl,rfl,hPW⟩
     | exact Ext.panic ⟨4,k1 rfl,rfl⟩
     | exact Ext.panic ⟨1,k2 rfl rfl,rfl⟩
   .obtain⟨x,hx⟩:∃x,P[i2]?=some x:=⟨_,aY4 Aa⟩
    have wx:=(wf3 x (aY8 hx)).mono hle4;have zx:=wz3 x (aY8 hx);have hB1:=aLd hx;have hC1:=aLc hx;rw[<-hC] at hC1;obtain⟨xn,xa,xd,xf,xm,xq⟩:=x;obtain rfl:xn=sg xq:=wx.sg;have c2:=aBo h4 xa xd xq wx.fr (zx.mono Ag);have hxf:xf.l=xm.length:=by have:=wx.fac.rw.len;rw[fF] at this;dsimp only at this;omega
    have hxf2:(⟨sg xq,xa,xd,xf,xm,xq⟩:El).f.l=xm.length:=hxf;have hxm:xm.length<=1099511627776:=wx.fac.len;have fw:=wx.fac.rw;dsimp only at hB1 hC1 fw;obtain⟨M,hM⟩:=AE P.length;have hB2:∀B2:Bool,B2=(B || vA xm)->B2=(decide (200<M) || aE6 (P.take (i2+1))):=fun B2 e=>by rw[e,hB,hB1,hM,Bool.or_assoc]
    clear key hfin hB hB1 hC;rw[<-hM] at hiP hi2 ⊢;obtain⟨FB,hFB⟩:=AE (dec (fits xq));rw[<-hFB] at c2 hC1;conv=>whnf
    repeat' first|((first|(show Idx _ _ _ _ _;refine Idx.of i2 rfl Aa Aa ?_)|(show LdN _ _ _ _ _;first|refine LdN.elI hb4 hx ?_|refine LdN.oA 0 rfl rfl ?_)|(show CN _ _ _ _ _ _;refine CN.quiet rfl (Fn0.wP c2) ?_)|((first|apply oI.z|apply cI.z))|intro (_:Nat)|refine Ld.o 0 rfl rfl ?_|refine Sto.l 0 rfl rfl rfl ?_)<;>conv=>whnf)|(show cnd _ _ _;first|(apply aB<;>intro _<;>first|(exfalso;omega)|conv=>whnf)|(refine bQ (fun hb=>?_) (fun hb=>?_)<;>(first|cases hb|subst hb)<;>(conv=>whnf)))
    .refine LpN.of (fun r ρ hx L=>∃(j:Nat) (B2:Bool),r=xm.length-j/\h4.le hx/\j<=xm.length/\rd ρ 77=.int .i64 j/\rd ρ 7=.bool B2/\Hq (B2=(B || vA (xm.take j)))) xm.length
      ⟨0,B,rfl,aA.lr _,aZs _,rfl,rfl,⟨by rw[bAt];exact (Bool.or_false B).symm⟩⟩ ?_
     conv=>whnf
     repeat intro _
     rename_i r5 h5 L5 hI;obtain⟨j2,B2,rfl,hle5,hj2,e77,e7,⟨hB3⟩⟩:=hI;conv at e77=>lhs;whnf
     subst e77;conv at e7=>lhs;whnf
     subst e7;have fw5:=fw.mono hle5;by_cases hjm:j2=xm.length
     .rw[hjm,aZi] at hB3;obtain⟨M2,hM2⟩:=AE xm.length;rw[<-hM2] at hjm hj2 hxf2 ⊢;conv=>whnf
      repeat' ((first|((first|apply oI.z|apply cI.z))|refine WN.i64 Aa Aa ?_|(apply aB<;>intro _<;>try (exfalso;omega)))<;>conv=>whnf)
      exact⟨rfl,M-(i2+1),Aa,i2+1,B2,_,rfl,Ac,Aa,vi Aa,rfl,rfl,⟨hB2 B2 hB3⟩,⟨by rw[hC1];rfl⟩⟩
     .obtain⟨f,hf⟩:∃f,xm[j2]?=some f:=⟨_,aY4 Aa⟩
      have hs5:=aAx hf;obtain⟨fx,fe⟩:=f;have hB5:∀z:Bool,z=decide (64<fe)->(B2 || z)=(B || vA (xm.take (j2+1))):=fun z e=>by rw[hB3,hs5,e,Bool.or_assoc]
      have hz5:Vc.lt 64 (fe:Int)=decide (64<fe):=by unfold Vc.lt;exact decide_eq_decide.2 Aa
      clear hB3 hs5;conv=>whnf
      repeat' first|((first|(show Idx _ _ _ _ _;refine Idx.fac fw5 j2 _ Aa hf (fun bk off k0 k1=>?_))|(show LdN _ _ _ _ _;refine LdN.two (k0 _) (k1 _) ?_)|((first|apply oI.z|apply cI.z))|intro (_:Nat)|refine WN.i64 Aa Aa ?_|refine Ld.o 0 rfl rfl ?_|refine Sto.l 0 rfl rfl rfl ?_)<;>conv=>whnf)|(show cnd _ _ _;first|(apply aB<;>intro _<;>first|(exfalso;omega)|conv=>whnf)|(refine bQ (fun hb=>?_) (fun hb=>?_)<;>(first|cases hb|subst hb)<;>(conv=>whnf)))
      all_goals exact⟨rfl,xm.length-(j2+1),Aa,j2+1,_,rfl,Ab,Aa,vi Aa,rfl,⟨hB5 _ hz5⟩⟩
    .refine LpN.of (fun r ρ hx L=>∃(j:Nat) (B2:Bool),r=xm.length-j/\h4.le hx/\j<=xm.length/\rd ρ 77=.int .i64 j/\rd ρ 7=.bool B2/\Hq (B2=(B || vA (xm.take j)))) xm.length
      ⟨0,B,rfl,aA.lr _,aZs _,rfl,rfl,⟨by rw[bAt];exact (Bool.or_false B).symm⟩⟩ ?_
     conv=>whnf
     repeat intro _
     rename_i r5 h5 L5 hI;obtain⟨j2,B2,rfl,hle5,hj2,e77,e7,⟨hB3⟩⟩:=hI;conv at e77=>lhs;whnf
     subst e77;conv at e7=>lhs;whnf
     subst e7;have fw5:=fw.mono hle5;by_cases hjm:j2=xm.length
     .rw[hjm,aZi] at hB3;obtain⟨M2,hM2⟩:=AE xm.length;rw[<-hM2] at hjm hj2 hxf2 ⊢;conv=>whnf
      repeat' ((first|((first|apply oI.z|apply cI.z))|refine WN.i64 Aa Aa ?_|(apply aB<;>intro _<;>try (exfalso;omega)))<;>conv=>whnf)
      exact⟨rfl,M-(i2+1),Aa,i2+1,B2,_,rfl,Ac,Aa,vi Aa,rfl,rfl,⟨hB2 B2 hB3⟩,⟨by rw[hC1];rfl⟩⟩
     .obtain⟨f,hf⟩:∃f,xm[j2]?=some f:=⟨_,aY4 Aa⟩
      have hs5:=aAx hf;obtain⟨fx,fe⟩:=f;have hB5:∀z:Bool,z=decide (64<fe)->(B2 || z)=(B || vA (xm.take (j2+1))):=fun z e=>by rw[hB3,hs5,e,Bool.or_assoc]
      have hz5:Vc.lt 64 (fe:Int)=decide (64<fe):=by unfold Vc.lt;exact decide_eq_decide.2 Aa
      clear hB3 hs5;conv=>whnf
      repeat' first|((first|(show Idx _ _ _ _ _;refine Idx.fac fw5 j2 _ Aa hf (fun bk off k0 k1=>?_))|(show LdN _ _ _ _ _;refine LdN.two (k0 _) (k1 _) ?_)|((first|apply oI.z|apply cI.z))|intro (_:Nat)|refine WN.i64 Aa Aa ?_|refine Ld.o 0 rfl rfl ?_|refine Sto.l 0 rfl rfl rfl ?_)<;>conv=>whnf)|(show cnd _ _ _;first|(apply aB<;>intro _<;>first|(exfalso;omega)|conv=>whnf)|(refine bQ (fun hb=>?_) (fun hb=>?_)<;>(first|cases hb|subst hb)<;>(conv=>whnf)))
      all_goals exact⟨rfl,xm.length-(j2+1),Aa,j2+1,_,rfl,Ab,Aa,vi Aa,rfl,⟨hB5 _ hz5⟩⟩
 .obtain⟨t,ht⟩:∃t,l'[i]?=some t:=⟨_,aY4 Aa⟩
  have hwt:=w' t (aY8 ht);have wt:=hwt.1.mono hle;have wz:=hwt.2;have hs:=bB ht;have hfold:((l'.take (i+1)).map pq).foldl grS []=grS (out.map pq) (pq t):=by rw[hs,aZh,List.foldl_append,<-hq];rfl
  obtain⟨tn,ta,td,tf,tm,tq⟩:=t;obtain rfl:tn=sg tq:=wt.sg;rcases bB0 out with rfl|⟨o,u,rfl⟩
  .obtain⟨va,vz,vc,rfl,hvz⟩:∃a z c,v=.slice a z c/\z=0:=by
    obtain⟨-,⟨e,-⟩|⟨j,b,cap',zs',e,-⟩⟩:=g
    .exact⟨_,_,_,e,rfl⟩
    .exact⟨_,_,_,e,rfl⟩
   obtain⟨n0,hn0⟩:=AE (([]:List El).length);have hn1:n0=0:=hn0;have hn2:([(⟨sg tq,ta,td,tf,tm,tq⟩:El)]).length=n0+1:=by rw[hn1];rfl
   rw[<-hn0] at g ho;obtain⟨xs0,hx0⟩:=AE (fl []);rw[<-hx0] at g;clear hn0;conv at e3=>lhs;whnf
   subst e3;conv at e17=>lhs;whnf
   subst e17;conv=>whnf
   repeat' ((first|(apply aO.go)|(show Idx _ _ _ _ _;refine Idx.of i rfl Aa Aa ?_)|(show LdN _ _ _ _ _;first|refine LdN.elI hb2 ht ?_|refine LdN.o 0 rfl rfl ?_)|(show App _ _ _ _ _ _ _ _ _;refine App.growK0 (A:=[_,_]) (F:=L2) (size:=4) (bytes:=80) (z:=[.bool false,.slice none 0 0,.slice none 0 0,.slice none 0 0]) rfl rfl g ⟨_,0,none⟩ 1 1 [_,_,_,_] rfl (Has.four _) rfl Ag Aa Aa Ag (fun v' F' g'=>?_))|((first|apply oI.z|apply cI.z))|intro (_:Nat)|refine WN.i64 Aa Aa ?_|refine Sto.l 0 rfl rfl rfl ?_|refine DrN.run Al ?_|(apply aB<;>intro _<;>try (exfalso;omega)))<;>conv=>whnf)
   exact⟨rfl,N-(i+1),Aa,i+1,[⟨sg tq,ta,td,tf,tm,tq⟩],_,rfl,hle,Aa,vi Aa,rfl,by rw[hn2];rw[hx0] at g';exact ((aE.el (out:=[]) g').cons _).cons _,by rw[hn2];omega,⟨by rw[hfold];exact (aWd _).symm⟩,⟨fun x hx=>by
     rw[aZg] at hx;subst hx;exact⟨wt,wz.mono Aa⟩⟩⟩
  .rw[List.concat_eq_append] at *;rw[aY2,aZ0] at g ho;have g0:=g;obtain⟨gl,⟨-,h0⟩|⟨j,b,cap',zs',rfl,hG,hcap,hzl⟩⟩:=g
   .omega
   conv at e3=>lhs;whnf
   subst e3;conv at e17=>lhs;whnf
   subst e17;have wu:=hw u (aZw _ (aZg.2 rfl));obtain⟨un,ua,ud,uf,um,uq⟩:=u;obtain rfl:un=sg uq:=wu.1.sg;obtain⟨n,hn⟩:=AE o.length;have hu:(o++[(⟨sg uq,ua,ud,uf,um,uq⟩:El)])[n]?=some ⟨sg uq,ua,ud,uf,um,uq⟩:=aP2 o _ hn;rw[aZh,bAa,bBd,aTy] at hfold;rw[<-hn] at ho hcap gl g0 ⊢;have c2:=fun h w1 w2=>xP h uf tf um tm w1 w2 wu.1.fac.len
   obtain⟨C,hC⟩:=AE (lI um tm);rw[<-hC] at c2;by_cases hm:um=tm
   .have hC0:C=0:=by rw[hC];exact aAk.2 hm
    have hset:=fun y=>aP3 o (⟨sg uq,ua,ud,uf,um,uq⟩:El) y hn
    have c3:=fun h tb w1 w2=>rY h tb ua ud ta td uq tq w1 w2 (wu.2.mono Aa) (wz.mono Aa)
    have wu1:=wu.1;conv=>whnf
    repeat' first|((first|(apply aO.go)|(show Idx _ _ _ _ _;first|refine Idx.of i rfl Aa Aa ?_|refine Idx.of n rfl Aa Aa ?_)|(show LdN _ _ _ _ _;first|refine LdN.elI hb2 ht ?_|refine LdN.el3 (j+1) hG hu ?_|refine LdN.oA 0 rfl rfl ?_)|(show Ld _ _ _ _;first|refine Ld.of (Has.elF (j+1) hG hu Ag rfl) ?_|refine Ld.o 0 rfl rfl ?_)|(show CN _ _ _ _ _ _;first|(refine CN.f rfl (Fn0.wP (c2 _ (wu1.fac.rw.mono Ad) (wt.fac.rw.mono Ad))) (fun v h' hl hr=>?_);subst hr)|(refine CN.f rfl (Fn0.wP (c3 _ Ae (wu1.fr.mono Ab) (wt.fr.mono Ab))) (fun v h' hl hr=>?_);obtain⟨s',t',rfl,hq'⟩:=hr))|(show Sto _ _ _ _;first|(refine Sto.el3 (y:=⟨sg (uq+tq),s',t',uf,um,uq+tq⟩) (j+1) hG hu rfl ?_;rw[hset])|refine Sto.l 0 rfl rfl rfl ?_)|((first|apply oI.z|apply cI.z))|refine⟨fun _=>aF.o Ab,?_⟩|refine⟨fun hst=>(by cases (show true=false from hst)),?_⟩|intro (_:Nat)|refine WN.i64 Aa Aa ?_|refine DrN.run Al ?_)<;>conv=>whnf)|(show cnd _ _ _;first|((first|apply aB|apply aD)<;>intro _<;>first|(exfalso;omega)|conv=>whnf))
    have hjl:=(aY5.1 hG).1;have hny:(o++[(⟨sg (uq+tq),s',t',uf,um,uq+tq⟩:El)]).length=n+1:=by rw[aY2,hn];rfl
    refine⟨rfl,N-(i+1),Aa,i+1,o++[⟨sg (uq+tq),s',t',uf,um,uq+tq⟩],_,rfl,Ac,Aa,vi Aa,rfl,?_,Aa,⟨Eq.symm (hfold.trans ((if_pos hm).trans (by rw[aZh];rfl)))⟩,⟨fun x hx=>?_⟩⟩
    .rw[hny];refine⟨by rw[cY,hny],.inr ⟨j+1,b,cap',zs',rfl,bAr (by rw[aY6];omega),hcap,?_⟩⟩
     rw[aY2,cY] at hzl ⊢;rw[hny];rw[aY2,<-hn] at hzl;exact hzl
    .rcases aZb.1 hx with hx|hx
     .have:=hw x (aZv _ hx);exact⟨this.1.mono Ac,this.2.mono Aa⟩
     .rw[aZg] at hx;subst hx;exact⟨⟨hq',rfl,⟨wu1.fac.rw.mono Ac,wu1.fac.len⟩⟩,(Sz.add wu.2 wz).mono Aa⟩
   .have hC0:C≠0:=by rw[hC];exact fun e=>hm (aAk.1 e)
    have wu1:=wu.1;conv=>whnf
    repeat' first|((first|(apply aO.go)|(show Idx _ _ _ _ _;first|refine Idx.of i rfl Aa Aa ?_|refine Idx.of n rfl Aa Aa ?_)|(show LdN _ _ _ _ _;first|refine LdN.elI hb2 ht ?_|refine LdN.o 0 rfl rfl ?_)|(show Ld _ _ _ _;first|refine Ld.of (Has.elF (j+1) hG hu Ag rfl) ?_|refine Ld.o 0 rfl rfl ?_)|(show CN _ _ _ _ _ _;(refine CN.f rfl (Fn0.wP (c2 _ (wu1.fac.rw.mono Ad) (wt.fac.rw.mono Ad))) (fun v h' hl hr=>?_);subst hr))|(show App _ _ _ _ _ _ _ _ _;refine App.growK0 (A:=[_,_]) (F:=L2) (size:=4) (bytes:=80) (z:=[.bool false,.slice none 0 0,.slice none 0 0,.slice none 0 0]) rfl rfl g0 ⟨_,0,none⟩ 1 1 [_,_,_,_] rfl (Has.four _) rfl Ag Aa Aa Ag (fun v' F' g'=>?_))|((first|apply oI.z|apply cI.z))|refine⟨fun _=>aF.o Ab,?_⟩|intro (_:Nat)|refine WN.i64 Aa Aa ?_|refine Sto.l 0 rfl rfl rfl ?_|refine DrN.run Al ?_)<;>conv=>whnf)|(show cnd _ _ _;first|((first|apply aB|apply aD)<;>intro _<;>first|(exfalso;omega)|conv=>whnf))
    have hny:(o++[(⟨sg uq,ua,ud,uf,um,uq⟩:El)]++[(⟨sg tq,ta,td,tf,tm,tq⟩:El)]).length=n+1+1:=by rw[aY2,aY2,hn];rfl
    refine⟨rfl,N-(i+1),Aa,i+1,o++[⟨sg uq,ua,ud,uf,um,uq⟩]++[⟨sg tq,ta,td,tf,tm,tq⟩],_,rfl,Ac,Aa,vi Aa,rfl,?_,Aa,⟨Eq.symm (hfold.trans ((if_neg hm).trans (by rw[aZh,aZh];rfl)))⟩,⟨fun x hx=>?_⟩⟩
    .rw[hny];exact ((aE.el g').cons _).cons _
    .rcases aZb.1 hx with hx|hx
     .have:=hw x hx;exact⟨this.1.mono Ab,this.2.mono Aa⟩
     .rw[aZg] at hx;subst hx;exact⟨wt.mono Ab,wz.mono Aa⟩
end Go.Proofs.Y
/- Sums and scaled sums of forms; constants; single atoms: the program. -/
namespace Go.Vc
open Go Go.Dig
theorem App.clone{T:Tab}{e:TypeId}{size bytes b:Nat}{h:aA}{L:Vc.Own}{k:Value->aA->Vc.Own->Prop}{z cs:List Value}{t:Sl}(hi:T.inf e=some (z,bytes))(hz:z.length=size)(hsz:0<size)(w:Rw h t size cs)(hn:t.a≠none)(hl:t.l<=1048576)(hby:bytes<=256)(hone:cs.all eS=true)
  (hk:∀v' L',aE e size v' t.l cs L'->k v' h L'):App T e size bytes (.slice (some ⟨b,0,none⟩) 0 0) t.val h ((b,.cells #[] e (0,0))::L) k:=by
 obtain⟨ta,tl,tc⟩:=t;cases ta with
 | none=>exact absurd rfl hn
 | some ad=>
  have g:aE e size (.slice (some ⟨b,0,none⟩) 0 0) 0 [] ((b,.cells #[] e (0,0))::L):=⟨by simp,.inr ⟨0,b,0,[],rfl,rfl,aZt _,by simp⟩⟩
  refine App.grow (n:=0) hi hz g ad tl tc cs w.len.symm (fun j hj=>?_) hone ?_ ?_ hsz fun v' L' g' _=>hk v' L' ?_
  .obtain⟨b',off,c,T',fz,h1,h2,h3⟩:=w.mem (fun x=>by rw[x] at hj;simp at hj)
   cases h1
   rw[aZ];refine Has.imm h2 ?_;rw[h3 j hj,aY3,aY4 hj];rfl
  .have:tl<=1048576:=hl;omega
  .have:tl<=1048576:=hl
   calc (0+tl)*bytes<=1048576*256:=bA1 Aa hby
    _<=_:=Ag
  .rw[aZq,bAi] at g';exact g'
theorem aWf(l:List El):(fl l).all eS=true:=by
 refine List.all_eq_true.2 fun v hv=>?_
 obtain⟨x,_,hv⟩:=List.mem_flatMap.1 hv;simp only[El.cells,aZl,bAy,or_false] at hv;rcases hv with rfl|rfl|rfl|rfl<;>rfl
theorem aT2(l:Mon):(fcs l).all eS=true:=by
 refine List.all_eq_true.2 fun v hv=>?_
 obtain⟨x,_,hv⟩:=List.mem_flatMap.1 hv;simp only[fcv,aZl,bAy,or_false] at hv;rcases hv with rfl|rfl<;>rfl
end Go.Vc
namespace Go.Proofs.Y
open Go Go.Vc Go.Dig
def SP(r:Except Nat Pol):List PanicEntry->aA->Vc.Own->Prop:=fun c _ _=>∃n,r=.error n/\c=flr n
def FP(f:FuncId)(args:List Value)(h:aA)(r:Except Nat Pol):Prop:=FnP T f args h [] (fun v h' L'=>L'=[]/\∃p s,r=.ok p/\v=Sl.val s/\kK h' s p) (SP r)
theorem CN.poly{f:FuncId}{args:List Value}{h:aA}{L:Vc.Own}{k:Value->aA->Vc.Own->Prop}{r r0:Except Nat Pol}(hf:T.fn f=true)(hc:FP f args h r)(hk:∀p s h',h.le h'->r=.ok p->kK h' s p->k (Sl.val s) h' L)(hs:∀n,r=.error n->r0=.error n):CN (T.withPan (SP r0)) f args h L k:=
 ⟨hf,.done ⟨[],L,_,_,by simp,FnP.withPan hc,fun v h' La hl ⟨e,p,s,e1,e2,w⟩=>⟨L,by rw[e];simp,by rw[e2];exact hk p s h' hl e1 w⟩,fun c h' La hl ⟨n,e1,e2⟩=>⟨La++L,.refl _,n,hs n e1,e2⟩⟩⟩
theorem aP4(h:aA):FP F.q169 [.slice none 0 0] h (.ok []):=by
 have c1:=xX;have c2:=pS;refine fPC ok _ D.q169 rfl ?_;conv=>whnf
 repeat' ((first|(show CN _ _ _ _ _ _;(refine CN.f rfl (Fn0.wP (c1 _)) (fun v h' hl hr=>?_);subst hr;clear hl))|((first|apply oI.z|apply cI.z)))<;>conv=>whnf)
 refine LpN.of (fun r ρ hx L=>hx=h'/\rd ρ 17=.int .i64 0/\rd ρ 3=.slice none 0 0) 0 ⟨rfl,rfl,rfl⟩ ?_
 conv=>whnf
 repeat intro _
 rename_i r2 h2 L2 hI;obtain⟨rfl,e17,e3⟩:=hI;conv at e3=>lhs;whnf
 subst e3;conv at e17=>lhs;whnf
 subst e17;conv=>whnf
 repeat' ((first|(show CN _ _ _ _ _ _;refine CN.quiet rfl (Fn0.wP (c2 _)) ?_)|((first|apply oI.z|apply cI.z))|(apply aB<;>intro _<;>try (exfalso;omega)))<;>conv=>whnf)
 refine LpN.of (fun r ρ hx L=>hx=h2/\rd ρ 63=.int .i64 0/\rd ρ 7=.bool false/\rd ρ 8=.bool false) 0 ⟨rfl,rfl,congrArg Value.bool (lt_false' Ag),rfl⟩ ?_
 conv=>whnf
 repeat intro _
 rename_i r3 h3 L3 hI;obtain⟨rfl,e63,e7,e8⟩:=hI;conv at e63=>lhs;whnf
 subst e63;conv at e7=>lhs;whnf
 subst e7;conv at e8=>lhs;whnf
 subst e8;conv=>whnf
 repeat' ((first|(apply aO.go)|((first|apply oI.z|apply cI.z))|(apply aB<;>intro _<;>try (exfalso;omega)))<;>conv=>whnf)
 exact RN.a (R:=mR (.ok [])) ⟨[],⟨none,0,0⟩,rfl,rfl,[],rfl,Rw.nil _ _,fun x hx=>by cases hx⟩
theorem tA{h:aA}(tb:Tb h){l:List El}{v:Value}{L:Vc.Own}{k:Value->aA->Vc.Own->Prop}{n:Nat}(g:aE Ty.expr_term 4 v n (fl l) L)(hn:n=l.length)(hb:n<=40400)(w:∀x∈l,TmW h x/\Sz 130 x.q){r r0:Except Nat Pol}(hr:cN (l.map pq)=r)
  (hk:∀p s h' L',h.le h'->r=.ok p->kK h' s p->k (Sl.val s) h' L') (hs:∀n,r=.error n->r0=.error n):CN (T.withPan (SP r0)) F.q169 [v] h L k:=by
 obtain⟨gl,⟨rfl,rfl⟩|⟨i,b,cap,zs,rfl,hi,hc,hlen⟩⟩:=g
 .have e:l=[]:=aZ3.1 hn.symm;subst e;have e2:r=.ok []:=hr.symm;subst e2;exact CN.poly rfl (aP4 h) (fun p s h' hl e w=>hk p s h' L hl e w) hs
 .have hc1:=aT1 h tb b cap n zs l hn.symm hb hc w r hr;obtain⟨hlt,hget⟩:=aY5.1 hi;have perm:∀(L:Vc.Own) (n:Nat) (hn:n<L.length),L.Perm (L[n]::L.eraseIdx n):=by
   intro L
   induction L with
   | nil=>intro n hl;simp at hl
   | cons y L ih=>
    intro n hl
    match n with
    | 0=>exact .refl _
    | n+1=>
     simp only[bC7,List.getElem_cons_succ];exact (List.Perm.cons _ (ih n (by simpa using hl))).trans (List.Perm.swap _ _ _)
  have hp:=perm L i hlt;rw[hget] at hp;exact⟨rfl,.done ⟨[cM b zs l],L.eraseIdx i,_,_,hp,FnP.withPan hc1,fun v h' La hl ⟨e,p,s,e1,e2,w⟩=>⟨L.eraseIdx i,by rw[e];simp,by rw[e2];exact hk p s h' _ hl e1 w⟩,fun c h' La hl ⟨n,e1,e2⟩=>⟨La++L.eraseIdx i,.refl _,n,hs n e1,e2⟩⟩⟩
theorem aLf(h:aA)(s:Sl)(l:List El)(w:Rw h s 4 (fl l))(hl:l.length<=1000000):Vc.Fn T F.q170 [s.val] h [] fun v h' L'=>h'=h/\aE Ty.expr_term 4 v l.length (fl l) L':=by
 have hlen:=w.len;rw[cY] at hlen;obtain⟨sa,sl,sc⟩:=s;obtain rfl:sl=l.length:=by dsimp only at hlen;omega
 cases sa with
 | none=>
  have e:l=[]:=by
   refine Classical.byContradiction fun hne=>?_
   obtain⟨b,off,c,T',fz,h1,-⟩:=w.mem fun x=>hne (by have:=cY l;rw[x] at this;exact aZ3.1 (by simp at this;omega))
   cases h1
  subst e;refine f1C ok D.q170 rfl ?_;conv=>whnf
  repeat ((first|apply oI.z|apply cI.z);conv=>whnf)
  skip
  exact RN.done ⟨rfl,aE.nil _ _ _⟩
 | some ad=>
  refine f1C ok D.q170 rfl ?_;conv=>whnf
  repeat' ((first|(show App _ _ _ _ _ _ _ _ _;(refine App.clone (t:=⟨some ad,l.length,sc⟩) (size:=4) (bytes:=80) (z:=[.bool false,.slice none 0 0,.slice none 0 0,.slice none 0 0]) rfl rfl Ag w (fun x=>by cases x) (by show l.length<=_;omega) Ag (aWf l) (fun v' L' g=>?_)))|((first|apply oI.z|apply cI.z))|intro (_:Nat))<;>conv=>whnf)
  exact RN.done ⟨rfl,g⟩
theorem aLg(h:aA)(s:Sl)(m:Mon)(w:Rw h s 2 (fcs m))(hl:m.length<=1000000):Fn0 T F.q31 [s.val] h fun v h'=>∃s':Sl,v=s'.val/\Rw h' s' 2 (fcs m):=by
 have hlen:=w.len;rw[fF] at hlen;obtain⟨sa,sl,sc⟩:=s;obtain rfl:sl=m.length:=by dsimp only at hlen;omega
 cases sa with
 | none=>
  have e:m=[]:=by
   refine Classical.byContradiction fun hne=>?_
   obtain⟨b,off,c,T',fz,h1,-⟩:=w.mem fun x=>hne (by have:=fF m;rw[x] at this;exact aZ3.1 (by simp at this;omega))
   cases h1
  subst e;refine f0C ok D.q31 rfl ?_;conv=>whnf
  repeat ((first|apply oI.z|apply cI.z);conv=>whnf)
  skip
  exact RN.a ⟨⟨none,0,0⟩,rfl,Rw.nil _ _⟩
 | some ad=>
  refine f0C ok D.q31 rfl ?_;conv=>whnf
  repeat' ((first|(show App _ _ _ _ _ _ _ _ _;(refine App.clone (t:=⟨some ad,m.length,sc⟩) (size:=2) (bytes:=24) (z:=[.string (txt []),.int .i64 0]) rfl rfl Ag w (fun x=>by cases x) (by show m.length<=_;omega) Ag (aT2 m) (fun v' L' g=>?_)))|((first|apply oI.z|apply cI.z))|intro (_:Nat))<;>conv=>whnf)
  exact RN.growR (size:=2) Ag g fun h' s hl e w=>⟨s,e,w⟩
theorem aWg{k:Int}(hk:k=1\/k=-1):Sz 64 (k:Rat):=by
 have h1:Sz 64 (1:Rat):=⟨fA.1,fA.2⟩;rcases hk with rfl|rfl
 .exact h1
 .exact Sz.neg h1
theorem rO{q:Rat}(h:fits q):Sz 64 q:=⟨h.1,h.2⟩
attribute [local irreducible] Vc.Fn FnP
theorem aE8{m:Mon}{q:Rat}(hd:∀f∈m,f.2<=64)(h0:q≠0)(hf:fits q):cN [(m,q)]=.ok [(m,q)]:=by
 have hn:fP [(m,q)]=[(m,q)]:=aOu ⟨List.pairwise_cons.2 ⟨fun _ h=>(by simp at h),List.Pairwise.nil⟩,fun t h=>by rw[aZg] at h;subst h;exact h0⟩
 unfold cN;rw[hn,if_neg (fun h=>?_),if_neg (fun h=>?_)]
 .obtain⟨t,ht,g⟩:=h;rw[aZg] at ht;subst ht;exact g hf
 .rcases h with h|⟨t,ht,f,hfm,g⟩
  .simp at h
  .rw[aZg] at ht;subst ht;have:=hd f hfm;omega
theorem aP5{q:Rat}(hf:fits q):cN [([],q)]=.ok (uY q):=by
 unfold uY;by_cases h0:q=0
 .rw[if_pos h0];have hn:fP [(([]:Mon),q)]=[]:=by
   rw[h0];unfold fP;have:sM [(([]:Mon),(0:Rat))]=[([],0)]:=rfl;rw[this];rfl
  unfold cN;rw[hn];exact if_neg (fun h=>by
    rcases h with h|⟨t,ht,-⟩
    .simp at h
    .cases ht) |>.trans (if_neg fun ⟨t,ht,_⟩=>by cases ht)
 .rw[if_neg h0];exact aE8 (fun f hf=>by simp at hf) h0 hf
theorem aE.one4{e:TypeId}{b:Nat}{L:Vc.Own}(x:El):aE e 4 (.slice (some ⟨b,0,none⟩) 1 1) 1 (fl [x]) ((b,.cells x.cells.toArray e (0,0))::L):=
 ⟨by rw[cY];rfl,.inr ⟨0,b,1,[],rfl,by
   have:fl [x]=x.cells:=by show x.cells++[]=_;rw[aZc]
   rw[this,aZc];rfl,aZt _,by rw[aZc,cY];rfl⟩⟩
theorem mH(h:aA)(tb:Tb h)(a b:Sl)(q:Rat)(hq:bV h a b q)(hf:fits q):FP F.q113 [.agg #[.bool (sg q),a.val,b.val]] h (.ok (uY q)):=by
 have hr:cN (([⟨sg q,a,b,⟨none,0,0⟩,[],q⟩]:List El).map pq)=.ok (uY q):=aP5 hf;have hw:∀x∈([⟨sg q,a,b,⟨none,0,0⟩,[],q⟩]:List El),TmW h x/\Sz 130 x.q:=fun x hx=>by
  rw[aZg] at hx;subst hx;exact⟨⟨hq,rfl,Rw.nil _ _,aZs _⟩,(rO hf).mono Ag⟩
 unfold FP;refine fPC ok _ D.q113 rfl ?_;conv=>whnf
 repeat' ((first|refine tA tb (aE.one4 ⟨sg q,a,b,⟨none,0,0⟩,[],q⟩) rfl Ag hw hr (fun p s h' L' hl e w=>?_) (fun n e=>e)|((first|apply oI.z|apply cI.z))|intro (_:Nat)|refine LdN.o 0 rfl rfl ?_)<;>conv=>whnf)
 exact RN.a (R:=mR (.ok (uY q))) ⟨p,s,e,rfl,w⟩
theorem aLh(s:List UInt8):cN [([(s,1)],1)]=.ok [([(s,1)],1)]:=aE8 (fun f hf=>by rw[aZg] at hf;subst hf;show 1<=64;omega) Ag fA
theorem Rw.oneF{h:aA}{b:Nat}{x:List UInt8}{e:Nat}{T0:TypeId}(hb:h b=some (.cells [.string ⟨x.toArray⟩,.int .i64 (e:Nat)].toArray T0 (0,0))):Rw h ⟨some ⟨b,0,none⟩,1,1⟩ 2 (fcs [(x,e)]):=
 ⟨rfl,aZt _,fun _=>⟨b,0,_,T0,(0,0),rfl,hb,fun i hi=>by rw[aZq,aZx];rfl⟩⟩
theorem aLi{s:List UInt8}(h:s.length<=4000):eK s=.ok [([(s,1)],1)]:=if_neg Aa
theorem aLj{s:List UInt8}(h:4000<s.length):eK s=.error 4:=if_pos h
theorem uF(h:aA)(tb:Tb h)(s:List UInt8):FP F.q117 [.string ⟨s.toArray⟩] h (eK s):=by
 have hsz:(⟨s.toArray⟩:ByteArray).size=s.length:=by simp[ByteArray.size]
 obtain⟨r,hr⟩:=AE (eK s);have r1:4000<s.length->r=.error 4:=fun a=>hr.trans (aLj a)
 have r2:s.length<=4000->r=.ok [([(s,1)],1)]:=fun a=>hr.trans (aLi a)
 rw[<-hr];unfold FP;refine fPC ok _ D.q117 rfl ?_;conv=>whnf
 repeat' ((first|(apply aO.go)|(show Ext _ _ _ _ _ _ _;refine Ext.iface rfl (fun m x=>by cases x) ?_)|(show CN _ _ _ _ _ _;(refine CN.f rfl (Fn0.wP (nX _ 1 Ag Ag)) (fun v h' hl hr=>?_);obtain⟨s',t',rfl,hq'⟩:=hr))|((first|apply oI.z|apply cI.z))|intro (_:Nat)|(apply aB<;>intro _<;>try (exfalso;omega)))<;>conv=>whnf)
 .exact Ext.panic ⟨4,r1 Aa,rfl⟩
 .rename_i b1 b2;refine CN.keep 1 rfl rfl fun hle=>?_
  have e1:((1:Int):Rat)=1:=rfl;have hF:Rw (h'.put b1 (.cells [.string ⟨s.toArray⟩,.int .i64 1].toArray 77 (0,0))) ⟨some ⟨b1,0,none⟩,1,1⟩ 2 (fcs [(s,1)]):=Rw.oneF (e:=1) (if_pos rfl);have hw:∀x∈([⟨sg ((1:Int):Rat),s',t',⟨some ⟨b1,0,none⟩,1,1⟩,[(s,1)],((1:Int):Rat)⟩]:List El),TmW (h'.put b1 (.cells [.string ⟨s.toArray⟩,.int .i64 1].toArray 77 (0,0))) x/\Sz 130 x.q:=fun x hx=>by
   rw[aZg] at hx;subst hx;exact⟨⟨hq'.mono hle,rfl,⟨hF,by show 1<=1099511627776;decide⟩⟩,by rw[e1];exact (rO fA).mono Ag⟩
  refine tA ((tb.mono hl).mono hle) (aE.one4 _) rfl Ag hw (r:=.ok [([(s,1)],1)]) ?_ (fun p s h' L' hl e w=>?_) (fun n e=>by cases e)
  .exact aLh s
  .conv=>whnf
   repeat ((first|apply oI.z|apply cI.z);conv=>whnf)
   skip
   exact RN.a (R:=mR r) ⟨p,s,(r2 Aa).trans e,rfl,w⟩
end Go.Proofs.Y