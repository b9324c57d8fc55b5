/- Rows of terms in memory that is never written: read term by term. -/
import Derived.Test.YtdccpmlhflpeaaaGreatDoorPG1
set_option linter.all false
set_option maxHeartbeats 4000000
set_option maxRecDepth 20000
namespace Go.Vc
open Go Go.Dig
def aHl(K:aA->El->Prop)(h:aA)(s:Sl)(p:List (Mon × Rat)):Prop:=∃l:List El,l.map pq=p/\Rw h s 4 (fl l)/\∀x∈l,K h x
class UpE (K:aA->El->Prop):Prop where
 up:∀{h h':aA} {x:El},h.le h'->K h x->K h' x
theorem aHl.mono{K:aA->El->Prop}[UpE K]{h h':aA}{s:Sl}{p:List (Mon × Rat)}(w:aHl K h s p)(hl:h.le h'):aHl K h' s p:=by
 obtain⟨l,h1,h2,h3⟩:=w;exact⟨l,h1,h2.mono hl,fun x hx=>UpE.up hl (h3 x hx)⟩
def aTk(h:aA)(b off:Nat)(x:El):Prop:=∀h' L k v,h.le h'->k<4->x.cells[k]?=some v->Has h' L ⟨b,off+k,none⟩ v
theorem Idx.el{h:aA}{s:Sl}{l:List El}(w:Rw h s 4 (fl l)){i:Int}{k:Addr->Prop}(j:Nat)(x:El)(hi:i=j)(hx:l[j]?=some x)(hk:∀b off,aTk h b off x->k ⟨b,off,none⟩):Idx s.a i s.l 4 k:=by
 have hj:=(bC9.1 hx).1;have hl:=cU l;have hne:fl l≠[]:=fun e=>by rw[e] at hl;simp at hl;omega
 obtain⟨b,off,c,T,fz,h1,h2,h3⟩:=w.mem hne;have hlen:=w.len;refine Idx.of j h1 hi Aa (hk _ _ fun h' L k v hle hk4 hv=>Has.imm (hle _ _ h2) ?_)
 rw[bE4,h3 _ Aa,aEc hx k hk4,hv]
theorem LdN.el4{h h':aA}{L:Vc.Own}{b off:Nat}{x:El}{k:Value->Prop}(w:aTk h b off x)(hl:h.le h')(hk:k (.agg x.cells.toArray)):LdN h' L ⟨b,off,none⟩ 4 k:=
 ⟨x.cells,rfl,fun i hi=>by
   rw[bB];exact w h' L i _ hl hi (by match i,hi with
     | 0,_=>rfl
     | 1,_=>rfl
     | 2,_=>rfl
     | 3,_=>rfl),hk⟩
theorem LdN.elq{h h':aA}{L:Vc.Own}{b off:Nat}{x:El}{k:Value->Prop}(w:aTk h b off x)(hl:h.le h')(hk:k (.agg #[.bool x.neg,x.n.val,x.d.val])):LdN h' L ⟨b,off+0,none⟩ 3 k:=
 ⟨[.bool x.neg,x.n.val,x.d.val],rfl,fun i hi=>by
   rw[bB,bEh];exact w h' L i _ hl Aa (by match i,hi with
     | 0,_=>rfl
     | 1,_=>rfl
     | 2,_=>rfl),hk⟩
theorem Ld.elf{h h':aA}{L:Vc.Own}{b off:Nat}{x:El}{k:Value->Prop}(w:aTk h b off x)(hl:h.le h')(hk:k x.f.val):Ld h' L ⟨b,off+3,none⟩ k:=Ld.of (w h' L 3 _ hl Ad rfl) hk
theorem aE.el{e:TypeId}{v:Value}{n:Nat}{out:List El}{L:Vc.Own}{x:El}(g:aE e 4 v (n+1) (fl out++x.cells) L):aE e 4 v (n+1) (fl (out++[x])) L:=by
 rw[aR1];have:fl [x]=x.cells:=by show x.cells++[]=_;rw[bDg]
 rw[this];exact g
theorem RN.growE{K:aA->El->Prop}[UpE K]{e:TypeId}{v w:Value}{n:Nat}{out:List El}{h:aA}{L:Vc.Own}{R:Value->aA->Prop}(g:aE e 4 v n (fl out) L)(hw:∀x∈out,K h x)
  (hk:∀h' (s:Sl),h.le h'->v=s.val->aHl K h' s (out.map pq)->R w h'):RN w h L fun v h' L'=>L'=[]/\R v h':=
 RN.growR Ad g fun h' s hl e r=>hk h' s hl e ⟨out,rfl,r,fun x hx=>UpE.up hl (hw x hx)⟩
end Go.Vc
namespace Go.Proofs.Y
open Go Go.Vc Go.Dig
instance:UpE TmW:=⟨fun hl w=>w.mono hl⟩
structure QmW (h:aA) (x:El):Prop where
 q:IsQ h x.n x.d x.q
 sg:x.neg=sg x.q
 fac:mV h x
instance:UpE QmW:=⟨fun hl w=>⟨w.q.mono hl,w.sg,w.fac.mono hl⟩⟩
structure RmW (h:aA) (x:El):Prop where
 q:fP h x.n x.d x.q
 sg:x.neg=sg x.q
 fac:mV h x
instance:UpE RmW:=⟨fun hl w=>⟨w.q.mono hl,w.sg,w.fac.mono hl⟩⟩
end Go.Proofs.Y
/- The program's forms: terms put in order, like ones added, limits. -/
namespace Go.Vc
open Go Go.Dig
theorem bAn(t:Mon × Rat):grS [] t=[t]:=rfl
theorem aXa(o:List (Mon × Rat))(u t:Mon × Rat):grS (o++[u]) t=if u.1=t.1 then o++[(u.1,u.2+t.2)] else o++[u]++[t]:=by
 unfold grS;rw[List.getLast?_concat,List.dropLast_concat]
theorem aTl(o:List El)(u:El){n:Nat}(hn:n=o.length):(o++[u])[n]?=some u:=by rw[hn];exact nJ o u []
theorem aTm(o:List El)(u v:El){n:Nat}(hn:n=o.length):(o++[u]).set n v=o++[v]:=by rw[hn,bEo _ _ (bDx _),bFr];rfl
theorem bAo{l:List El}(h:dD l):aGh (l.map pq):=List.pairwise_map.2 h
end Go.Vc
namespace Go.Proofs.Y
open Go Go.Vc Go.Dig
abbrev qK (h:aA) (s:Sl) (p:Pol):Prop:=aHl TmW h s p
def flr(n:Nat):List PanicEntry:=[{ v:=.iface Ty.expr_failure (.agg #[.int .i64 (n:Nat)]),recovered:=false }]
abbrev vC (r:Except Nat Pol) (v:Value) (h':aA):Prop:=∃p s,r=.ok p/\v=Sl.val s/\qK h' s p
def aJ2(l:List El):Bool:=l.any fun x=>!dec (fits x.q)
def xF(m:Mon):Bool:=m.any fun f=>decide (64<f.2)
def aHm(l:List El):Bool:=l.any fun x=>xF x.m
theorem aHn{m:Mon}:xF m=true↔∃f∈m,64<f.2:=by unfold xF;simp
theorem aXb{l:List El}{p:Pol}(hp:l.map pq=p):aJn p↔200<l.length\/aHm l=true:=by
 subst hp;unfold aJn aHm;rw[bDt];refine or_congr Iff.rfl ?_;rw[List.any_eq_true];constructor
 .rintro⟨t,ht,g⟩
  obtain⟨x,hx,rfl⟩:=List.mem_map.1 ht;exact⟨x,hx,aHn.2 g⟩
 .rintro⟨x,hx,g⟩
  exact⟨pq x,bDy hx,aHn.1 g⟩
theorem aXc{l:List El}{p:Pol}(hp:l.map pq=p):aJo p↔aJ2 l=true:=by
 subst hp;unfold aJo aJ2;rw[List.any_eq_true];constructor
 .rintro⟨t,ht,g⟩
  obtain⟨x,hx,rfl⟩:=List.mem_map.1 ht;exact⟨x,hx,by rw[show dec (fits x.q)=false from aG g];rfl⟩
 .rintro⟨x,hx,g⟩
  refine⟨pq x,bDy hx,fun hf=>?_⟩
  rw[show dec (fits x.q)=true from bA hf] at g;cases g
theorem aOl{l:List El}{i:Nat}{x:El}(h:l[i]?=some x):aJ2 (l.take (i+1))=(aJ2 (l.take i) || !dec (fits x.q)):=by
 rw[bD h];unfold aJ2;rw[List.any_append];simp
theorem aOm{l:List El}{i:Nat}{x:El}(h:l[i]?=some x):aHm (l.take (i+1))=(aHm (l.take i) || xF x.m):=by
 rw[bD h];unfold aHm;rw[List.any_append];simp
theorem aCt{m:Mon}{i:Nat}{f:Fac}(h:m[i]?=some f):xF (m.take (i+1))=(xF (m.take i) || decide (64<f.2)):=by
 rw[bD h];unfold xF;rw[List.any_append];simp
theorem aOn(l:List El):(l.filter nz).map pq=(l.map pq).filter fun t=>!decide (t.2=0):=by
 rw[List.filter_map];rfl
attribute [local irreducible] Vc.Fn FnP
theorem aXd(h:aA)(tb:Tb h)(bp cap N:Nat)(zs:List Value)(l:List El)(hN:l.length=N)(hb:N<=40400)(hc:N<=cap)(w:∀x∈l,TmW h x/\Sz 130 x.q)(r:Except Nat Pol)(hr:cV (l.map pq)=r):
  FnP T F.q197 [.slice (some ⟨bp,0,none⟩) N cap] h [cQ bp zs l] (fun v h' L'=>L'=[]/\∃p s,r=.ok p/\v=Sl.val s/\qK h' s p) (fun c _ _=>∃n,r=.error n/\c=flr n):=by
 have c1:=aBf h bp cap N zs l hN Aa fun x hx=>(w x hx).1.fac
 refine fPC ok _ D.q197 rfl ?_;conv=>whnf
 repeat' ((first|(show CN _ _ _ _ _ _;(refine CN.own 0 rfl rfl (Fn.wP c1) (fun v h' La hl hr=>?_);obtain⟨l',o1,p1,rfl⟩:=hr;refine⟨_,rfl,?_⟩))|((first|apply oI.z|apply cI.z)))<;>conv=>whnf)
 have hr1:(((l'.map pq).foldl grS []).filter fun t=>!decide (t.2=0))=aV (l.map pq):=aWc (p1.map pq) (bAo o1)
 have hl':l'.length=N:=p1.length_eq.trans hN;have w':∀x∈l',TmW h' x/\Sz 130 x.q:=fun x hx=>⟨(w x (p1.mem_iff.1 hx)).1.mono hl,(w x (p1.mem_iff.1 hx)).2⟩
 replace tb:=tb.mono hl;refine LpN.keepOnly 0 rfl fun h1 hl1 hb1=>?_
 replace w':∀x∈l',TmW h1 x/\Sz 130 x.q:=fun x hx=>⟨(w' x hx).1.mono hl1,(w' x hx).2⟩
 replace tb:=tb.mono hl1;clear c1 o1 p1 w hl hl1;refine LpN.of (fun r ρ hx L=>∃(i:Nat) (out:List El) (v:Value),r=N-i/\h1.le hx/\i<=N/\rd ρ 17=.int .i64 i/\rd ρ 3=v/\aE Ty.expr_term 4 v out.length (fl out) L/\out.length<=i/\Hq (out.map pq=((l'.take i).map pq).foldl grS [])/\Hq (∀x∈out,TmW hx x/\Sz (132*i) x.q)) N
  ⟨0,[],_,rfl,aA.lr _,bDw _,rfl,rfl,aE.nil _ _ _,bDx _,⟨rfl⟩,⟨fun x hx=>by cases hx⟩⟩ ?_
 conv=>whnf
 repeat intro _
 rename_i r2 h2 L2 hI;obtain⟨i,out,v,rfl,hle,hi,e17,e3,g,ho,⟨hq⟩,⟨hw⟩⟩:=hI;have hb2:=hle _ _ hb1;replace tb:=tb.mono hle;by_cases hiN:i=N
 .have hfin:(out.filter nz).map pq=aV (l.map pq):=by
   rw[aOn,hq,<-hr1]
   congr 2
   rw[hiN,<-hl',bDm]
  have wf:∀x∈out.filter nz,TmW h2 x/\Sz 1073741824 x.q:=fun x hx=>by
   have hx':=hw x (List.mem_filter.1 hx).1;exact⟨hx'.1,hx'.2.mono Aa⟩
  have wq:∀x∈out,TmW h2 x/\Sz 1099511627776 x.q:=fun x hx=>⟨(hw x hx).1,(hw x hx).2.mono Aa⟩
  have hrr:(if aJn (aV (l.map pq)) then Except.error 4 else if aJo (aV (l.map pq)) then Except.error 1 else Except.ok (aV (l.map pq)))=r:=hr
  have hl1:=aXb hfin;have hl2:=aXc hfin;have hlen:(out.filter nz).length<=40400:=bDv (bG9 ..) Aa;obtain⟨P,hP⟩:=AB (out.filter nz);rw[<-hP] at hfin wf hl1 hl2 hlen;have key:∀(hb:Bool) (lim:Bool),lim=(decide (200<P.length) || aHm P)->hb=aJ2 P->(lim=true->r=.error 4)/\(lim=false->hb=true->r=.error 1)/\(lim=false->hb=false->r=.ok (aV (l.map pq))):=fun hb lim e1 e2=>by
   have e3:aJn (aV (l.map pq))↔lim=true:=by rw[hl1,e1];simp
   have e4:aJo (aV (l.map pq))↔hb=true:=by rw[hl2,e2]
   refine⟨fun x=>?_,fun x y=>?_,fun x y=>?_⟩
   .rw[<-hrr,if_pos (e3.2 x)]
   .rw[<-hrr,if_neg (fun z=>by rw[e3.1 z] at x;cases x),if_pos (e4.2 y)]
   .rw[<-hrr,if_neg (fun z=>by rw[e3.1 z] at x;cases x),if_neg (fun z=>by rw[e4.1 z] at y;cases y)]
  clear hrr hl1 hl2 hr hr1 w';obtain⟨gl,⟨rfl,h0⟩|⟨j,b,cap',zs',rfl,hG,hcap,hzl⟩⟩:=g
  .skip
   conv at e3=>lhs;whnf
   subst e3;conv at e17=>lhs;whnf
   subst e17;have e0:out=[]:=bD7.1 h0;have eP:P=[]:=by rw[hP,e0];rfl
   have c2:=rH;have hk:=(key false false (by rw[eP];rfl) (by rw[eP];rfl)).2.2 rfl rfl;rw[<-hfin,eP] at hk;conv=>whnf
   repeat' ((first|(show CN _ _ _ _ _ _;refine CN.quiet rfl (Fn0.wP (c2 _)) ?_)|((first|apply oI.z|apply cI.z))|(apply aB<;>intro _<;>try (exfalso;omega)))<;>conv=>whnf)
   refine LpN.of (fun r ρ hx L=>hx=h2/\rd ρ 63=.int .i64 0/\rd ρ 7=.bool false/\rd ρ 8=.bool false) 0 ⟨rfl,rfl,congrArg Value.bool (lY Ad),rfl⟩ ?_
   conv=>whnf
   repeat intro _
   rename_i r3 h3 L3 hI;obtain⟨rfl,e63,e7,e8⟩:=hI;conv at e63=>lhs;whnf
   subst e63;conv at e7=>lhs;whnf
   subst e7;conv at e8=>lhs;whnf
   subst e8;conv=>whnf
   repeat' ((first|(apply aQ.go)|((first|apply oI.z|apply cI.z))|(apply aB<;>intro _<;>try (exfalso;omega)))<;>conv=>whnf)
   exact RN.a (R:=vC r) ⟨[],⟨none,0,0⟩,hk,rfl,[],rfl,Rw.nil _ _,fun x hx=>by cases hx⟩
  .skip
   conv at e3=>lhs;whnf
   subst e3;conv at e17=>lhs;whnf
   subst e17;have c2:=aBg h2 b cap' zs' out Aa hcap wq;rw[<-hP] at c2;conv=>whnf
   repeat' ((first|(show CN _ _ _ _ _ _;(refine CN.own j hG rfl (Fn.wP c2) (fun v h' La hl hr=>?_);obtain⟨zs2,rfl,rfl⟩:=hr;refine⟨_,rfl,?_⟩))|((first|apply oI.z|apply cI.z))|(apply aB<;>intro _<;>try (exfalso;omega)))<;>conv=>whnf)
   have hjl:=(bC9.1 hG).1;refine LpN.keepOnly j (bEy hjl) fun h3 hl3 hb3=>?_
   have wf3:∀x∈P,TmW h3 x:=fun x hx=>(wf x hx).1.mono (aA.lt hl hl3)
   have wz3:∀x∈P,Sz 1073741824 x.q:=fun x hx=>(wf x hx).2
   have hPc:P.length<=cap':=by rw[hP];exact bDv (bG9 ..) hcap
   clear wf wq c2 hl hl3 hG hb2 hb1 hle hP;refine LpN.of (fun r ρ hx L=>∃(i:Nat) (B C:Bool),r=P.length-i/\h3.le hx/\i<=P.length/\rd ρ 63=.int .i64 i/\rd ρ 7=.bool B/\rd ρ 8=.bool C/\Hq (B=(decide (200<P.length) || aHm (P.take i)))/\Hq (C=aJ2 (P.take i))) P.length
    ⟨0,_,_,rfl,aA.lr _,bDw _,rfl,rfl,rfl,⟨by
      rw[bFa];show Vc.lt 200 _=(decide (200<P.length) || false)
      rw[Bool.or_false];unfold Vc.lt;exact decide_eq_decide.2 Aa⟩,⟨rfl⟩⟩ ?_
   conv=>whnf
   repeat intro _
   rename_i r4 h4 L4 hI;obtain⟨i2,B,C,rfl,hle4,hi2,e63,e7,e8,⟨hB⟩,⟨hC⟩⟩:=hI;conv at e63=>lhs;whnf
   subst e63;conv at e7=>lhs;whnf
   subst e7;conv at e8=>lhs;whnf
   subst e8;have hb4:=hle4 _ _ hb3;by_cases hiP:i2=P.length
   .rw[hiP,bDm] at hB hC;obtain⟨k1,k2,k3⟩:=key C B hB hC;obtain⟨M,hM⟩:=AB P.length;have hPW:qK h4 ⟨some ⟨b,0,none⟩,M,cap'⟩ (aV (l.map pq)):=⟨P,hfin,⟨by rw[cU,hM],by rw[hM];exact hPc,fun _=>⟨b,0,_,_,_,rfl,hb4,fun i hi=>by
      rw[bDu,bD1,bDi hi]⟩⟩,fun x hx=>(wf3 x hx).mono hle4⟩
    rw[<-hM] at hiP ⊢;clear hB hC key hfin;conv=>whnf
    repeat' first|((first|(apply aQ.go)|(show Ext _ _ _ _ _ _ _;refine Ext.iface rfl (fun m x=>by cases x) ?_)|((first|apply oI.z|apply cI.z)))<;>conv=>whnf)|(show cnd _ _ _;first|(apply aB<;>intro _<;>first|(exfalso;omega)|conv=>whnf)|(refine dE (fun hb=>?_) (fun hb=>?_)<;>(first|cases hb|subst hb)<;>(conv=>whnf)))
    all_goals first
     | exact RN.a (R:=vC r) ⟨_,_,k3 rfl rfl,rfl,hPW⟩
     | exact Ext.panic ⟨4,k1 rfl,rfl⟩
     | exact Ext.panic ⟨1,k2 rfl rfl,rfl⟩
   .obtain⟨x,hx⟩:∃x,P[i2]?=some x:=⟨_,bC8 Aa⟩
    have wx:=(wf3 x (bDc hx)).mono hle4;have zx:=wz3 x (bDc hx);have hB1:=aOm hx;have hC1:=aOl hx;rw[<-hC] at hC1;obtain⟨xn,xa,xd,xf,xm,xq⟩:=x;obtain rfl:xn=sg xq:=wx.sg;have c2:=aDt h4 xa xd xq wx.fr (zx.mono Ad);have hxf:xf.l=xm.length:=by have:=wx.fac.rw.len;rw[gQ] at this;dsimp only at this;omega
    have hxf2:(⟨sg xq,xa,xd,xf,xm,xq⟩:El).f.l=xm.length:=hxf;have hxm:xm.length<=1099511627776:=wx.fac.len;have fw:=wx.fac.rw;dsimp only at hB1 hC1 fw;obtain⟨M,hM⟩:=AB P.length;have hB2:∀B2:Bool,B2=(B || xF xm)->B2=(decide (200<M) || aHm (P.take (i2+1))):=fun B2 e=>by rw[e,hB,hB1,hM,Bool.or_assoc]
    clear key hfin hB hB1 hC;rw[<-hM] at hiP hi2 ⊢;obtain⟨FB,hFB⟩:=AB (dec (fits xq));rw[<-hFB] at c2 hC1;conv=>whnf
    repeat' first|((first|(show Idx _ _ _ _ _;refine Idx.of i2 rfl Aa Aa ?_)|(show LdN _ _ _ _ _;first|refine LdN.elI hb4 hx ?_|refine LdN.oA 0 rfl rfl ?_)|(show CN _ _ _ _ _ _;refine CN.quiet rfl (Fn0.wP c2) ?_)|((first|apply oI.z|apply cI.z))|intro (_:Nat)|refine Ld.o 0 rfl rfl ?_|refine Sto.l 0 rfl rfl rfl ?_)<;>conv=>whnf)|(show cnd _ _ _;first|(apply aB<;>intro _<;>first|(exfalso;omega)|conv=>whnf)|(refine dE (fun hb=>?_) (fun hb=>?_)<;>(first|cases hb|subst hb)<;>(conv=>whnf)))
    .refine LpN.of (fun r ρ hx L=>∃(j:Nat) (B2:Bool),r=xm.length-j/\h4.le hx/\j<=xm.length/\rd ρ 77=.int .i64 j/\rd ρ 7=.bool B2/\Hq (B2=(B || xF (xm.take j)))) xm.length
      ⟨0,B,rfl,aA.lr _,bDw _,rfl,rfl,⟨by rw[bFa];exact (Bool.or_false B).symm⟩⟩ ?_
     conv=>whnf
     repeat intro _
     rename_i r5 h5 L5 hI;obtain⟨j2,B2,rfl,hle5,hj2,e77,e7,⟨hB3⟩⟩:=hI;conv at e77=>lhs;whnf
     subst e77;conv at e7=>lhs;whnf
     subst e7;have fw5:=fw.mono hle5;by_cases hjm:j2=xm.length
     .rw[hjm,bDm] at hB3;obtain⟨M2,hM2⟩:=AB xm.length;rw[<-hM2] at hjm hj2 hxf2 ⊢;conv=>whnf
      repeat' ((first|((first|apply oI.z|apply cI.z))|refine WN.i64 Aa Aa ?_|(apply aB<;>intro _<;>try (exfalso;omega)))<;>conv=>whnf)
      exact⟨rfl,M-(i2+1),Aa,i2+1,B2,_,rfl,Ac,Aa,vi Aa,rfl,rfl,⟨hB2 B2 hB3⟩,⟨by rw[hC1];rfl⟩⟩
     .obtain⟨f,hf⟩:∃f,xm[j2]?=some f:=⟨_,bC8 Aa⟩
      have hs5:=aCt hf;obtain⟨fx,fe⟩:=f;have hB5:∀z:Bool,z=decide (64<fe)->(B2 || z)=(B || xF (xm.take (j2+1))):=fun z e=>by rw[hB3,hs5,e,Bool.or_assoc]
      have hz5:Vc.lt 64 (fe:Int)=decide (64<fe):=by unfold Vc.lt;exact decide_eq_decide.2 Aa
      clear hB3 hs5;conv=>whnf
      repeat' first|((first|(show Idx _ _ _ _ _;refine Idx.fac fw5 j2 _ Aa hf (fun bk off k0 k1=>?_))|(show LdN _ _ _ _ _;refine LdN.two (k0 _) (k1 _) ?_)|((first|apply oI.z|apply cI.z))|intro (_:Nat)|refine WN.i64 Aa Aa ?_|refine Ld.o 0 rfl rfl ?_|refine Sto.l 0 rfl rfl rfl ?_)<;>conv=>whnf)|(show cnd _ _ _;first|(apply aB<;>intro _<;>first|(exfalso;omega)|conv=>whnf)|(refine dE (fun hb=>?_) (fun hb=>?_)<;>(first|cases hb|subst hb)<;>(conv=>whnf)))
      all_goals exact⟨rfl,xm.length-(j2+1),Aa,j2+1,_,rfl,Ab,Aa,vi Aa,rfl,⟨hB5 _ hz5⟩⟩
    .refine LpN.of (fun r ρ hx L=>∃(j:Nat) (B2:Bool),r=xm.length-j/\h4.le hx/\j<=xm.length/\rd ρ 77=.int .i64 j/\rd ρ 7=.bool B2/\Hq (B2=(B || xF (xm.take j)))) xm.length
      ⟨0,B,rfl,aA.lr _,bDw _,rfl,rfl,⟨by rw[bFa];exact (Bool.or_false B).symm⟩⟩ ?_
     conv=>whnf
     repeat intro _
     rename_i r5 h5 L5 hI;obtain⟨j2,B2,rfl,hle5,hj2,e77,e7,⟨hB3⟩⟩:=hI;conv at e77=>lhs;whnf
     subst e77;conv at e7=>lhs;whnf
     subst e7;have fw5:=fw.mono hle5;by_cases hjm:j2=xm.length
     .rw[hjm,bDm] at hB3;obtain⟨M2,hM2⟩:=AB xm.length;rw[<-hM2] at hjm hj2 hxf2 ⊢;conv=>whnf
      repeat' ((first|((first|apply oI.z|apply cI.z))|refine WN.i64 Aa Aa ?_|(apply aB<;>intro _<;>try (exfalso;omega)))<;>conv=>whnf)
      exact⟨rfl,M-(i2+1),Aa,i2+1,B2,_,rfl,Ac,Aa,vi Aa,rfl,rfl,⟨hB2 B2 hB3⟩,⟨by rw[hC1];rfl⟩⟩
     .obtain⟨f,hf⟩:∃f,xm[j2]?=some f:=⟨_,bC8 Aa⟩
      have hs5:=aCt hf;obtain⟨fx,fe⟩:=f;have hB5:∀z:Bool,z=decide (64<fe)->(B2 || z)=(B || xF (xm.take (j2+1))):=fun z e=>by rw[hB3,hs5,e,Bool.or_assoc]
      have hz5:Vc.lt 64 (fe:Int)=decide (64<fe):=by unfold Vc.lt;exact decide_eq_decide.2 Aa
      clear hB3 hs5;conv=>whnf
      repeat' first|((first|(show Idx _ _ _ _ _;refine Idx.fac fw5 j2 _ Aa hf (fun bk off k0 k1=>?_))|(show LdN _ _ _ _ _;refine LdN.two (k0 _) (k1 _) ?_)|((first|apply oI.z|apply cI.z))|intro (_:Nat)|refine WN.i64 Aa Aa ?_|refine Ld.o 0 rfl rfl ?_|refine Sto.l 0 rfl rfl rfl ?_)<;>conv=>whnf)|(show cnd _ _ _;first|(apply aB<;>intro _<;>first|(exfalso;omega)|conv=>whnf)|(refine dE (fun hb=>?_) (fun hb=>?_)<;>(first|cases hb|subst hb)<;>(conv=>whnf)))
      all_goals exact⟨rfl,xm.length-(j2+1),Aa,j2+1,_,rfl,Ab,Aa,vi Aa,rfl,⟨hB5 _ hz5⟩⟩
 .obtain⟨t,ht⟩:∃t,l'[i]?=some t:=⟨_,bC8 Aa⟩
  have hwt:=w' t (bDc ht);have wt:=hwt.1.mono hle;have wz:=hwt.2;have hs:=bD ht;have hfold:((l'.take (i+1)).map pq).foldl grS []=grS (out.map pq) (pq t):=by rw[hs,bDl,List.foldl_append,<-hq];rfl
  obtain⟨tn,ta,td,tf,tm,tq⟩:=t;obtain rfl:tn=sg tq:=wt.sg;rcases bGk out with rfl|⟨o,u,rfl⟩
  .obtain⟨va,vz,vc,rfl,hvz⟩:∃a z c,v=.slice a z c/\z=0:=by
    obtain⟨-,⟨e,-⟩|⟨j,b,cap',zs',e,-⟩⟩:=g
    .exact⟨_,_,_,e,rfl⟩
    .exact⟨_,_,_,e,rfl⟩
   obtain⟨n0,hn0⟩:=AB (([]:List El).length);have hn1:n0=0:=hn0;have hn2:([(⟨sg tq,ta,td,tf,tm,tq⟩:El)]).length=n0+1:=by rw[hn1];rfl
   rw[<-hn0] at g ho;obtain⟨xs0,hx0⟩:=AB (fl []);rw[<-hx0] at g;clear hn0;conv at e3=>lhs;whnf
   subst e3;conv at e17=>lhs;whnf
   subst e17;conv=>whnf
   repeat' ((first|(apply aQ.go)|(show Idx _ _ _ _ _;refine Idx.of i rfl Aa Aa ?_)|(show LdN _ _ _ _ _;first|refine LdN.elI hb2 ht ?_|refine LdN.o 0 rfl rfl ?_)|(show App _ _ _ _ _ _ _ _ _;refine App.growK0 (A:=[_,_]) (F:=L2) (size:=4) (bytes:=80) (z:=[.bool false,.slice none 0 0,.slice none 0 0,.slice none 0 0]) rfl rfl g ⟨_,0,none⟩ 1 1 [_,_,_,_] rfl (Has.four _) rfl Ad Aa Aa Ad (fun v' F' g'=>?_))|((first|apply oI.z|apply cI.z))|intro (_:Nat)|refine WN.i64 Aa Aa ?_|refine Sto.l 0 rfl rfl rfl ?_|refine DrN.run Al ?_|(apply aB<;>intro _<;>try (exfalso;omega)))<;>conv=>whnf)
   exact⟨rfl,N-(i+1),Aa,i+1,[⟨sg tq,ta,td,tf,tm,tq⟩],_,rfl,hle,Aa,vi Aa,rfl,by rw[hn2];rw[hx0] at g';exact ((aE.el (out:=[]) g').cons _).cons _,by rw[hn2];omega,⟨by rw[hfold];exact (bAn _).symm⟩,⟨fun x hx=>by
     rw[bDk] at hx;subst hx;exact⟨wt,wz.mono Aa⟩⟩⟩
  .rw[List.concat_eq_append] at *;rw[bC6,bD4] at g ho;have g0:=g;obtain⟨gl,⟨-,h0⟩|⟨j,b,cap',zs',rfl,hG,hcap,hzl⟩⟩:=g
   .omega
   conv at e3=>lhs;whnf
   subst e3;conv at e17=>lhs;whnf
   subst e17;have wu:=hw u (bD0 _ (bDk.2 rfl));obtain⟨un,ua,ud,uf,um,uq⟩:=u;obtain rfl:un=sg uq:=wu.1.sg;obtain⟨n,hn⟩:=AB o.length;have hu:(o++[(⟨sg uq,ua,ud,uf,um,uq⟩:El)])[n]?=some ⟨sg uq,ua,ud,uf,um,uq⟩:=aTl o _ hn;rw[bDl,bEe,bFd,aXa] at hfold;rw[<-hn] at ho hcap gl g0 ⊢;have c2:=fun h w1 w2=>zY h uf tf um tm w1 w2 wu.1.fac.len
   obtain⟨C,hC⟩:=AB (mR um tm);rw[<-hC] at c2;by_cases hm:um=tm
   .have hC0:C=0:=by rw[hC];exact aCd.2 hm
    have hset:=fun y=>aTm o (⟨sg uq,ua,ud,uf,um,uq⟩:El) y hn
    have c3:=fun h tb w1 w2=>uC h tb ua ud ta td uq tq w1 w2 (wu.2.mono Aa) (wz.mono Aa)
    have wu1:=wu.1;conv=>whnf
    repeat' first|((first|(apply aQ.go)|(show Idx _ _ _ _ _;first|refine Idx.of i rfl Aa Aa ?_|refine Idx.of n rfl Aa Aa ?_)|(show LdN _ _ _ _ _;first|refine LdN.elI hb2 ht ?_|refine LdN.el3 (j+1) hG hu ?_|refine LdN.oA 0 rfl rfl ?_)|(show Ld _ _ _ _;first|refine Ld.of (Has.elF (j+1) hG hu Ad rfl) ?_|refine Ld.o 0 rfl rfl ?_)|(show CN _ _ _ _ _ _;first|(refine CN.f rfl (Fn0.wP (c2 _ (wu1.fac.rw.mono Af) (wt.fac.rw.mono Af))) (fun v h' hl hr=>?_);subst hr)|(refine CN.f rfl (Fn0.wP (c3 _ Ae (wu1.fr.mono Ab) (wt.fr.mono Ab))) (fun v h' hl hr=>?_);obtain⟨s',t',rfl,hq'⟩:=hr))|(show Sto _ _ _ _;first|(refine Sto.el3 (y:=⟨sg (uq+tq),s',t',uf,um,uq+tq⟩) (j+1) hG hu rfl ?_;rw[hset])|refine Sto.l 0 rfl rfl rfl ?_)|((first|apply oI.z|apply cI.z))|refine⟨fun _=>aH.o Ab,?_⟩|refine⟨fun hst=>(by cases (show true=false from hst)),?_⟩|intro (_:Nat)|refine WN.i64 Aa Aa ?_|refine DrN.run Al ?_)<;>conv=>whnf)|(show cnd _ _ _;first|((first|apply aB|apply aD)<;>intro _<;>first|(exfalso;omega)|conv=>whnf))
    have hjl:=(bC9.1 hG).1;have hny:(o++[(⟨sg (uq+tq),s',t',uf,um,uq+tq⟩:El)]).length=n+1:=by rw[bC6,hn];rfl
    refine⟨rfl,N-(i+1),Aa,i+1,o++[⟨sg (uq+tq),s',t',uf,um,uq+tq⟩],_,rfl,Ac,Aa,vi Aa,rfl,?_,Aa,⟨Eq.symm (hfold.trans ((if_pos hm).trans (by rw[bDl];rfl)))⟩,⟨fun x hx=>?_⟩⟩
    .rw[hny];refine⟨by rw[cU,hny],.inr ⟨j+1,b,cap',zs',rfl,bEy (by rw[bDa];omega),hcap,?_⟩⟩
     rw[bC6,cU] at hzl ⊢;rw[hny];rw[bC6,<-hn] at hzl;exact hzl
    .rcases bDf.1 hx with hx|hx
     .have:=hw x (bDz _ hx);exact⟨this.1.mono Ac,this.2.mono Aa⟩
     .rw[bDk] at hx;subst hx;exact⟨⟨hq',rfl,⟨wu1.fac.rw.mono Ac,wu1.fac.len⟩⟩,(Sz.add wu.2 wz).mono Aa⟩
   .have hC0:C≠0:=by rw[hC];exact fun e=>hm (aCd.1 e)
    have wu1:=wu.1;conv=>whnf
    repeat' first|((first|(apply aQ.go)|(show Idx _ _ _ _ _;first|refine Idx.of i rfl Aa Aa ?_|refine Idx.of n rfl Aa Aa ?_)|(show LdN _ _ _ _ _;first|refine LdN.elI hb2 ht ?_|refine LdN.o 0 rfl rfl ?_)|(show Ld _ _ _ _;first|refine Ld.of (Has.elF (j+1) hG hu Ad rfl) ?_|refine Ld.o 0 rfl rfl ?_)|(show CN _ _ _ _ _ _;(refine CN.f rfl (Fn0.wP (c2 _ (wu1.fac.rw.mono Af) (wt.fac.rw.mono Af))) (fun v h' hl hr=>?_);subst hr))|(show App _ _ _ _ _ _ _ _ _;refine App.growK0 (A:=[_,_]) (F:=L2) (size:=4) (bytes:=80) (z:=[.bool false,.slice none 0 0,.slice none 0 0,.slice none 0 0]) rfl rfl g0 ⟨_,0,none⟩ 1 1 [_,_,_,_] rfl (Has.four _) rfl Ad Aa Aa Ad (fun v' F' g'=>?_))|((first|apply oI.z|apply cI.z))|refine⟨fun _=>aH.o Ab,?_⟩|intro (_:Nat)|refine WN.i64 Aa Aa ?_|refine Sto.l 0 rfl rfl rfl ?_|refine DrN.run Al ?_)<;>conv=>whnf)|(show cnd _ _ _;first|((first|apply aB|apply aD)<;>intro _<;>first|(exfalso;omega)|conv=>whnf))
    have hny:(o++[(⟨sg uq,ua,ud,uf,um,uq⟩:El)]++[(⟨sg tq,ta,td,tf,tm,tq⟩:El)]).length=n+1+1:=by rw[bC6,bC6,hn];rfl
    refine⟨rfl,N-(i+1),Aa,i+1,o++[⟨sg uq,ua,ud,uf,um,uq⟩]++[⟨sg tq,ta,td,tf,tm,tq⟩],_,rfl,Ac,Aa,vi Aa,rfl,?_,Aa,⟨Eq.symm (hfold.trans ((if_neg hm).trans (by rw[bDl,bDl];rfl)))⟩,⟨fun x hx=>?_⟩⟩
    .rw[hny];exact ((aE.el g').cons _).cons _
    .rcases bDf.1 hx with hx|hx
     .have:=hw x hx;exact⟨this.1.mono Ab,this.2.mono Aa⟩
     .rw[bDk] at hx;subst hx;exact⟨wt.mono Ab,wz.mono Aa⟩
end Go.Proofs.Y
/- Sums and scaled sums of forms; constants; single atoms: the program. -/
namespace Go.Vc
open Go Go.Dig
theorem App.clone{T:Tab}{e:TypeId}{size bytes b:Nat}{h:aA}{L:Vc.Own}{k:Value->aA->Vc.Own->Prop}{z cs:List Value}{t:Sl}(hi:T.inf e=some (z,bytes))(hz:z.length=size)(hsz:0<size)(w:Rw h t size cs)(hn:t.a≠none)(hl:t.l<=1048576)(hby:bytes<=256)(hone:cs.all gC=true)
  (hk:∀v' L',aE e size v' t.l cs L'->k v' h L'):App T e size bytes (.slice (some ⟨b,0,none⟩) 0 0) t.val h ((b,.cells #[] e (0,0))::L) k:=by
 obtain⟨ta,tl,tc⟩:=t;cases ta with
 | none=>exact absurd rfl hn
 | some ad=>
  have g:aE e size (.slice (some ⟨b,0,none⟩) 0 0) 0 [] ((b,.cells #[] e (0,0))::L):=⟨by simp,.inr ⟨0,b,0,[],rfl,rfl,bDx _,by simp⟩⟩
  refine App.grow (n:=0) hi hz g ad tl tc cs w.len.symm (fun j hj=>?_) hone ?_ ?_ hsz fun v' L' g' _=>hk v' L' ?_
  .obtain⟨b',off,c,T',fz,h1,h2,h3⟩:=w.mem (fun x=>by rw[x] at hj;simp at hj)
   cases h1
   rw[bB];refine Has.imm h2 ?_;rw[h3 j hj,bC7,bC8 hj];rfl
  .have:tl<=1048576:=hl;omega
  .have:tl<=1048576:=hl
   calc (0+tl)*bytes<=1048576*256:=bFf Aa hby
    _<=_:=Ad
  .rw[bDu,bEm] at g';exact g'
theorem bAp(l:List El):(fl l).all gC=true:=by
 refine List.all_eq_true.2 fun v hv=>?_
 obtain⟨x,_,hv⟩:=List.mem_flatMap.1 hv;simp only[El.cells,bDp,bFy,or_false] at hv;rcases hv with rfl|rfl|rfl|rfl<;>rfl
theorem aXe(l:Mon):(fcs l).all gC=true:=by
 refine List.all_eq_true.2 fun v hv=>?_
 obtain⟨x,_,hv⟩:=List.mem_flatMap.1 hv;simp only[fcv,bDp,bFy,or_false] at hv;rcases hv with rfl|rfl<;>rfl
end Go.Vc
namespace Go.Proofs.Y
open Go Go.Vc Go.Dig
def SP(r:Except Nat Pol):List PanicEntry->aA->Vc.Own->Prop:=fun c _ _=>∃n,r=.error n/\c=flr n
def FP(f:FuncId)(args:List Value)(h:aA)(r:Except Nat Pol):Prop:=FnP T f args h [] (fun v h' L'=>L'=[]/\∃p s,r=.ok p/\v=Sl.val s/\qK h' s p) (SP r)
theorem CN.poly{f:FuncId}{args:List Value}{h:aA}{L:Vc.Own}{k:Value->aA->Vc.Own->Prop}{r r0:Except Nat Pol}(hf:T.fn f=true)(hc:FP f args h r)(hk:∀p s h',h.le h'->r=.ok p->qK h' s p->k (Sl.val s) h' L)(hs:∀n,r=.error n->r0=.error n):CN (T.withPan (SP r0)) f args h L k:=
 ⟨hf,.done ⟨[],L,_,_,by simp,FnP.withPan hc,fun v h' La hl ⟨e,p,s,e1,e2,w⟩=>⟨L,by rw[e];simp,by rw[e2];exact hk p s h' hl e1 w⟩,fun c h' La hl ⟨n,e1,e2⟩=>⟨La++L,.refl _,n,hs n e1,e2⟩⟩⟩
theorem aTn(h:aA):FP F.q197 [.slice none 0 0] h (.ok []):=by
 have c1:=aAd;have c2:=rH;refine fPC ok _ D.q197 rfl ?_;conv=>whnf
 repeat' ((first|(show CN _ _ _ _ _ _;(refine CN.f rfl (Fn0.wP (c1 _)) (fun v h' hl hr=>?_);subst hr;clear hl))|((first|apply oI.z|apply cI.z)))<;>conv=>whnf)
 refine LpN.of (fun r ρ hx L=>hx=h'/\rd ρ 17=.int .i64 0/\rd ρ 3=.slice none 0 0) 0 ⟨rfl,rfl,rfl⟩ ?_
 conv=>whnf
 repeat intro _
 rename_i r2 h2 L2 hI;obtain⟨rfl,e17,e3⟩:=hI;conv at e3=>lhs;whnf
 subst e3;conv at e17=>lhs;whnf
 subst e17;conv=>whnf
 repeat' ((first|(show CN _ _ _ _ _ _;refine CN.quiet rfl (Fn0.wP (c2 _)) ?_)|((first|apply oI.z|apply cI.z))|(apply aB<;>intro _<;>try (exfalso;omega)))<;>conv=>whnf)
 refine LpN.of (fun r ρ hx L=>hx=h2/\rd ρ 63=.int .i64 0/\rd ρ 7=.bool false/\rd ρ 8=.bool false) 0 ⟨rfl,rfl,congrArg Value.bool (lY Ad),rfl⟩ ?_
 conv=>whnf
 repeat intro _
 rename_i r3 h3 L3 hI;obtain⟨rfl,e63,e7,e8⟩:=hI;conv at e63=>lhs;whnf
 subst e63;conv at e7=>lhs;whnf
 subst e7;conv at e8=>lhs;whnf
 subst e8;conv=>whnf
 repeat' ((first|(apply aQ.go)|((first|apply oI.z|apply cI.z))|(apply aB<;>intro _<;>try (exfalso;omega)))<;>conv=>whnf)
 exact RN.a (R:=vC (.ok [])) ⟨[],⟨none,0,0⟩,rfl,rfl,[],rfl,Rw.nil _ _,fun x hx=>by cases hx⟩
theorem vD{h:aA}(tb:Tb h){l:List El}{v:Value}{L:Vc.Own}{k:Value->aA->Vc.Own->Prop}{n:Nat}(g:aE Ty.expr_term 4 v n (fl l) L)(hn:n=l.length)(hb:n<=40400)(w:∀x∈l,TmW h x/\Sz 130 x.q){r r0:Except Nat Pol}(hr:cV (l.map pq)=r)
  (hk:∀p s h' L',h.le h'->r=.ok p->qK h' s p->k (Sl.val s) h' L') (hs:∀n,r=.error n->r0=.error n):CN (T.withPan (SP r0)) F.q197 [v] h L k:=by
 obtain⟨gl,⟨rfl,rfl⟩|⟨i,b,cap,zs,rfl,hi,hc,hlen⟩⟩:=g
 .have e:l=[]:=bD7.1 hn.symm;subst e;have e2:r=.ok []:=hr.symm;subst e2;exact CN.poly rfl (aTn h) (fun p s h' hl e w=>hk p s h' L hl e w) hs
 .have hc1:=aXd h tb b cap n zs l hn.symm hb hc w r hr;obtain⟨hlt,hget⟩:=bC9.1 hi;have perm:∀(L:Vc.Own) (n:Nat) (hn:n<L.length),L.Perm (L[n]::L.eraseIdx n):=by
   intro L
   induction L with
   | nil=>intro n hl;simp at hl
   | cons y L ih=>
    intro n hl
    match n with
    | 0=>exact .refl _
    | n+1=>
     simp only[bHo,List.getElem_cons_succ];exact (List.Perm.cons _ (ih n (by simpa using hl))).trans (List.Perm.swap _ _ _)
  have hp:=perm L i hlt;rw[hget] at hp;exact⟨rfl,.done ⟨[cQ b zs l],L.eraseIdx i,_,_,hp,FnP.withPan hc1,fun v h' La hl ⟨e,p,s,e1,e2,w⟩=>⟨L.eraseIdx i,by rw[e];simp,by rw[e2];exact hk p s h' _ hl e1 w⟩,fun c h' La hl ⟨n,e1,e2⟩=>⟨La++L.eraseIdx i,.refl _,n,hs n e1,e2⟩⟩⟩
theorem aOo(h:aA)(s:Sl)(l:List El)(w:Rw h s 4 (fl l))(hl:l.length<=1000000):Vc.Fn T F.q198 [s.val] h [] fun v h' L'=>h'=h/\aE Ty.expr_term 4 v l.length (fl l) L':=by
 have hlen:=w.len;rw[cU] at hlen;obtain⟨sa,sl,sc⟩:=s;obtain rfl:sl=l.length:=by dsimp only at hlen;omega
 cases sa with
 | none=>
  have e:l=[]:=by
   refine Classical.byContradiction fun hne=>?_
   obtain⟨b,off,c,T',fz,h1,-⟩:=w.mem fun x=>hne (by have:=cU l;rw[x] at this;exact bD7.1 (by simp at this;omega))
   cases h1
  subst e;refine f1C ok D.q198 rfl ?_;conv=>whnf
  repeat ((first|apply oI.z|apply cI.z);conv=>whnf)
  skip
  exact RN.done ⟨rfl,aE.nil _ _ _⟩
 | some ad=>
  refine f1C ok D.q198 rfl ?_;conv=>whnf
  repeat' ((first|(show App _ _ _ _ _ _ _ _ _;(refine App.clone (t:=⟨some ad,l.length,sc⟩) (size:=4) (bytes:=80) (z:=[.bool false,.slice none 0 0,.slice none 0 0,.slice none 0 0]) rfl rfl Ad w (fun x=>by cases x) (by show l.length<=_;omega) Ad (bAp l) (fun v' L' g=>?_)))|((first|apply oI.z|apply cI.z))|intro (_:Nat))<;>conv=>whnf)
  exact RN.done ⟨rfl,g⟩
theorem aOp(h:aA)(s:Sl)(m:Mon)(w:Rw h s 2 (fcs m))(hl:m.length<=1000000):Fn0 T F.q42 [s.val] h fun v h'=>∃s':Sl,v=s'.val/\Rw h' s' 2 (fcs m):=by
 have hlen:=w.len;rw[gQ] at hlen;obtain⟨sa,sl,sc⟩:=s;obtain rfl:sl=m.length:=by dsimp only at hlen;omega
 cases sa with
 | none=>
  have e:m=[]:=by
   refine Classical.byContradiction fun hne=>?_
   obtain⟨b,off,c,T',fz,h1,-⟩:=w.mem fun x=>hne (by have:=gQ m;rw[x] at this;exact bD7.1 (by simp at this;omega))
   cases h1
  subst e;refine f0C ok D.q42 rfl ?_;conv=>whnf
  repeat ((first|apply oI.z|apply cI.z);conv=>whnf)
  skip
  exact RN.a ⟨⟨none,0,0⟩,rfl,Rw.nil _ _⟩
 | some ad=>
  refine f0C ok D.q42 rfl ?_;conv=>whnf
  repeat' ((first|(show App _ _ _ _ _ _ _ _ _;(refine App.clone (t:=⟨some ad,m.length,sc⟩) (size:=2) (bytes:=24) (z:=[.string (txt []),.int .i64 0]) rfl rfl Ad w (fun x=>by cases x) (by show m.length<=_;omega) Ad (aXe m) (fun v' L' g=>?_)))|((first|apply oI.z|apply cI.z))|intro (_:Nat))<;>conv=>whnf)
  exact RN.growR (size:=2) Ad g fun h' s hl e w=>⟨s,e,w⟩
theorem bAq{k:Int}(hk:k=1\/k=-1):Sz 64 (k:Rat):=by
 have h1:Sz 64 (1:Rat):=⟨fL.1,fL.2⟩;rcases hk with rfl|rfl
 .exact h1
 .exact Sz.neg h1
theorem tO{q:Rat}(h:fits q):Sz 64 q:=⟨h.1,h.2⟩
attribute [local irreducible] Vc.Fn FnP
theorem aHo{m:Mon}{q:Rat}(hd:∀f∈m,f.2<=64)(h0:q≠0)(hf:fits q):cV [(m,q)]=.ok [(m,q)]:=by
 have hn:aV [(m,q)]=[(m,q)]:=aRr ⟨List.pairwise_cons.2 ⟨fun _ h=>(by simp at h),List.Pairwise.nil⟩,fun t h=>by rw[bDk] at h;subst h;exact h0⟩
 unfold cV;rw[hn,if_neg (fun h=>?_),if_neg (fun h=>?_)]
 .obtain⟨t,ht,g⟩:=h;rw[bDk] at ht;subst ht;exact g hf
 .rcases h with h|⟨t,ht,f,hfm,g⟩
  .simp at h
  .rw[bDk] at ht;subst ht;have:=hd f hfm;omega
theorem aTo{q:Rat}(hf:fits q):cV [([],q)]=.ok (fO q):=by
 unfold fO;by_cases h0:q=0
 .rw[if_pos h0];have hn:aV [(([]:Mon),q)]=[]:=by
   rw[h0];unfold aV;have:kZ [(([]:Mon),(0:Rat))]=[([],0)]:=rfl;rw[this];rfl
  unfold cV;rw[hn];exact if_neg (fun h=>by
    rcases h with h|⟨t,ht,-⟩
    .simp at h
    .cases ht) |>.trans (if_neg fun ⟨t,ht,_⟩=>by cases ht)
 .rw[if_neg h0];exact aHo (fun f hf=>by simp at hf) h0 hf
theorem aE.one4{e:TypeId}{b:Nat}{L:Vc.Own}(x:El):aE e 4 (.slice (some ⟨b,0,none⟩) 1 1) 1 (fl [x]) ((b,.cells x.cells.toArray e (0,0))::L):=
 ⟨by rw[cU];rfl,.inr ⟨0,b,1,[],rfl,by
   have:fl [x]=x.cells:=by show x.cells++[]=_;rw[bDg]
   rw[this,bDg];rfl,bDx _,by rw[bDg,cU];rfl⟩⟩
theorem xB(h:aA)(tb:Tb h)(a b:Sl)(q:Rat)(hq:cS h a b q)(hf:fits q):FP F.q146 [.agg #[.bool (sg q),a.val,b.val]] h (.ok (fO q)):=by
 have hr:cV (([⟨sg q,a,b,⟨none,0,0⟩,[],q⟩]:List El).map pq)=.ok (fO q):=aTo hf;have hw:∀x∈([⟨sg q,a,b,⟨none,0,0⟩,[],q⟩]:List El),TmW h x/\Sz 130 x.q:=fun x hx=>by
  rw[bDk] at hx;subst hx;exact⟨⟨hq,rfl,Rw.nil _ _,bDw _⟩,(tO hf).mono Ad⟩
 unfold FP;refine fPC ok _ D.q146 rfl ?_;conv=>whnf
 repeat' ((first|refine vD tb (aE.one4 ⟨sg q,a,b,⟨none,0,0⟩,[],q⟩) rfl Ad hw hr (fun p s h' L' hl e w=>?_) (fun n e=>e)|((first|apply oI.z|apply cI.z))|intro (_:Nat)|refine LdN.o 0 rfl rfl ?_)<;>conv=>whnf)
 exact RN.a (R:=vC (.ok (fO q))) ⟨p,s,e,rfl,w⟩
theorem aOq(s:List UInt8):cV [([(s,1)],1)]=.ok [([(s,1)],1)]:=aHo (fun f hf=>by rw[bDk] at hf;subst hf;show 1<=64;omega) Ad fL
theorem Rw.oneF{h:aA}{b:Nat}{x:List UInt8}{e:Nat}{T0:TypeId}(hb:h b=some (.cells [.string ⟨x.toArray⟩,.int .i64 (e:Nat)].toArray T0 (0,0))):Rw h ⟨some ⟨b,0,none⟩,1,1⟩ 2 (fcs [(x,e)]):=
 ⟨rfl,bDx _,fun _=>⟨b,0,_,T0,(0,0),rfl,hb,fun i hi=>by rw[bDu,bD1];rfl⟩⟩
theorem aOr{s:List UInt8}(h:s.length<=4000):gR s=.ok [([(s,1)],1)]:=if_neg Aa
theorem aOs{s:List UInt8}(h:4000<s.length):gR s=.error 4:=if_pos h
theorem aOt(h:aA)(tb:Tb h)(s:List UInt8):FP F.q151 [.string ⟨s.toArray⟩] h (gR s):=by
 have hsz:(⟨s.toArray⟩:ByteArray).size=s.length:=by simp[ByteArray.size]
 obtain⟨r,hr⟩:=AB (gR s);have r1:4000<s.length->r=.error 4:=fun a=>hr.trans (aOs a)
 have r2:s.length<=4000->r=.ok [([(s,1)],1)]:=fun a=>hr.trans (aOr a)
 rw[<-hr];unfold FP;refine fPC ok _ D.q151 rfl ?_;conv=>whnf
 repeat' ((first|(apply aQ.go)|(show Ext _ _ _ _ _ _ _;refine Ext.iface rfl (fun m x=>by cases x) ?_)|(show CN _ _ _ _ _ _;(refine CN.f rfl (Fn0.wP (uD _ 1 Ad Ad)) (fun v h' hl hr=>?_);obtain⟨s',t',rfl,hq'⟩:=hr))|((first|apply oI.z|apply cI.z))|intro (_:Nat)|(apply aB<;>intro _<;>try (exfalso;omega)))<;>conv=>whnf)
 .exact Ext.panic ⟨4,r1 Aa,rfl⟩
 .rename_i b1 b2;refine CN.keep 1 rfl rfl fun hle=>?_
  have e1:((1:Int):Rat)=1:=rfl;have hF:Rw (h'.put b1 (.cells [.string ⟨s.toArray⟩,.int .i64 1].toArray 96 (0,0))) ⟨some ⟨b1,0,none⟩,1,1⟩ 2 (fcs [(s,1)]):=Rw.oneF (e:=1) (if_pos rfl);have hw:∀x∈([⟨sg ((1:Int):Rat),s',t',⟨some ⟨b1,0,none⟩,1,1⟩,[(s,1)],((1:Int):Rat)⟩]:List El),TmW (h'.put b1 (.cells [.string ⟨s.toArray⟩,.int .i64 1].toArray 96 (0,0))) x/\Sz 130 x.q:=fun x hx=>by
   rw[bDk] at hx;subst hx;exact⟨⟨hq'.mono hle,rfl,⟨hF,by show 1<=1099511627776;decide⟩⟩,by rw[e1];exact (tO fL).mono Ad⟩
  refine vD ((tb.mono hl).mono hle) (aE.one4 _) rfl Ad hw (r:=.ok [([(s,1)],1)]) ?_ (fun p s h' L' hl e w=>?_) (fun n e=>by cases e)
  .exact aOq s
  .conv=>whnf
   repeat ((first|apply oI.z|apply cI.z);conv=>whnf)
   skip
   exact RN.a (R:=vC r) ⟨p,s,(r2 Aa).trans e,rfl,w⟩
end Go.Proofs.Y