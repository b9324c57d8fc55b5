/- A walk that stops ahead of a region. -/
import Derived.Test.YtiohcpiloenmoaaGreatDoorE66
set_option linter.all false
set_option maxHeartbeats 4000000
set_option maxRecDepth 20000
namespace Go.Vc
open Go
structure aX8 (p:Prop):Prop where x:p
theorem cI.stop{T:Tab}{Q:fQ}{ρ:Env}{h:aA}{L:Own}(id:Nat){ops:Array Oper}{dr:Bool}{b:Code}(x:aX8 (aO (cI T (.region id ops dr)) (cI T b) (wr (.region id ops dr)) Q ρ h L)):cI T (.seq (.region id ops dr) b) Q ρ h L:=cI.seqN x.x
end Go.Vc
/- Subst on both sides; its law. -/
namespace Go.Vc
open Go Go.Dig
theorem LdN.has8{h:aA}{L:Vc.Own}{b o:Nat}{k:Value->Prop}{x:Value}(vs:List Value)(hl:vs.length=7)(hx:Has h L ⟨b,o,none⟩ x)(hv:∀(i:Nat) v,vs[i]?=some v->Has h L ⟨b,o+1+i,none⟩ v)(hk:k (.agg (x::vs).toArray)):LdN h L ⟨b,o,none⟩ 8 k:=
 ⟨x::vs,by rw[aY6,hl],fun i hi=>by
   rw[aZ];cases i with
   | zero=>exact hx
   | succ i=>
    rw[show o+(i+1)=o+1+i by omega]
    exact hv i _ (by rw[bB7,aY3,aY4 Aa];rfl),hk⟩
end Go.Vc
namespace Go.Proofs.Y
open Go Go.Vc Go.Dig
def MsR{α:Type}(ms ps:List (List Nat × α)):Prop:=(∀n,n∈ms.map (·.1)↔n∈ps.map (·.1))/\((ps.map (·.1)).Nodup->ms=ps)
theorem MsR.new{α:Type}{ms ps:List (List Nat × α)}{n:List Nat}{u:α}(r:MsR ms ps):MsR (ms++[(n,u)]) (ps++[(n,u)]):=by
 refine⟨fun k=>?_,fun h=>?_⟩
 .have:=r.1 k;simp only[aZh,aZb,this]
 .rw[aZh] at h;rw[r.2 (bCj.1 h).1]
theorem MsR.old{α:Type}{ms ps:List (List Nat × α)}{n:List Nat}{u t:α}{j:Nat}(r:MsR ms ps)(hj:ms[j]?=some (n,t)):MsR (ms.set j (n,u)) (ps++[(n,u)]):=by
 have hm:(ms.set j (n,u)).map (·.1)=ms.map (·.1):=by
  rw[List.map_set];refine bCh fun i=>?_
  rw[bCx]
  split
  .rename_i e;subst e;rw[bB6,hj];have:=(aY5.1 hj).1;rw[if_pos (by rw[aZp];exact this)]
   rfl
  .rfl
 have hn:n∈ps.map (·.1):=(r.1 n).1 (List.mem_map.2 ⟨_,aY8 hj,rfl⟩);refine⟨fun k=>?_,fun h=>?_⟩
 .rw[hm,r.1 k,aZh,aZb];refine⟨.inl,fun x=>x.elim id fun x=>?_⟩
  simp at x;rw[x];exact hn
 .rw[aZh] at h;have:=(bCj.1 h).2.2 n hn n Ar;exact absurd rfl this
theorem uG{ps:List (List Nat × Tr)}{b:List Nat × Tr}:mQ (ps++[b])↔mQ ps/\aS b.2:=by
 unfold mQ;simp only[aZb,aZg];exact⟨fun h=>⟨fun x hx=>h x (.inl hx),h b (.inr rfl)⟩,fun h x hx=>hx.elim (h.1 x) fun e=>e▸h.2⟩
theorem iR{α:Type}{ps:List (List Nat × α)}{b:List Nat × α}:gM (ps++[b])↔gM ps/\dH b.1/\b.1∉ps.map (·.1):=by
 unfold gM;rw[aZh,bCj];simp only[aZb,aZg];constructor
 .rintro⟨h1,h2,-,h3⟩
  exact⟨⟨fun x hx=>h1 x (.inl hx),h2⟩,h1 b (.inr rfl),fun hb=>h3 _ hb _ Ar rfl⟩
 .rintro⟨⟨h1,h2⟩,h3,h4⟩
  refine⟨fun x hx=>hx.elim (h1 x) fun e=>e▸h3,h2,by simp,fun x hx y hy e=>?_⟩
  simp at hy;subst e hy;exact h4 hx
theorem aQm:mQ []:=fun _ h=>by cases h
theorem aFe{α:Type}:gM ([]:List (List Nat × α)):=⟨fun _ h=>(by cases h),bDd⟩
theorem aLs{bs:List (List Nat × Tr)}{t:Tr}(h:¬(aS t/\mQ bs)):pT bs t=(aL,40):=if_pos h
theorem aLt{bs:List (List Nat × Tr)}{t:Tr}(h:aS t/\mQ bs)(n:¬gM bs):pT bs t=(aL,41):=(if_neg fun x=>x h).trans (if_pos n)
theorem aLu{bs:List (List Nat × Tr)}{t:Tr}(h:aS t/\mQ bs)(n:gM bs):pT bs t=dR (jJ (byM bs) t):=by
 rw[aIx h.1.1];exact (if_neg fun x=>x h).trans (if_neg fun x=>x n)
theorem aQn(bs:List (List Nat × Tr))(hbl:bs.length<=1099511627776)(sb:Sl)(t:Tr)(h:aA)(vs:List Value)(tb:Tb h)(wb:IsB h sb bs)(w:IsE h vs t):Fn0 T F.q14 [.agg vs.toArray,sb.val] h fun v h'=>aKe h' v (pT bs t):=by
 have c1:=fun u h vs tb w=>jB u h vs tb w
 have c2:=fun h n hn=>iN h n hn
 have c4:=fun h0 bc bm Tc fc es clock ms mc mm me (x:aS t/\mQ bs)=>fun h hl w=>aCk rfl h0 (aGy h0 bc bm Tc fc es clock ms mc mm me) t h vs 1 hl w x.1.1
 have c5:=fun u h vs tb w=>lG u h vs tb w
 have r1:¬(aS t/\mQ bs)->pT bs t=(aL,40):=aLs;have r2:aS t/\mQ bs->¬gM bs->pT bs t=(aL,41):=aLt;have r3:∀ms,MsR ms bs->aS t/\mQ bs->gM bs->pT bs t=dR (jJ (byM ms) t):=fun ms r x y=>by rw[aLu x y,r.2 y.2]
 have v0:dec (aS t)=dec (aS t/\mQ []):=cA ⟨fun x=>⟨x,aQm⟩,fun x=>x.1⟩
 obtain⟨R,hR⟩:=AE (pT bs t);rw[<-hR] at r1 r2 ⊢;simp only[<-hR] at r3;clear hR;have hsl:=wb.len;obtain⟨⟨op,arg,neg,l,m,name,ks⟩,ht⟩:=AE t;obtain⟨a,b,s,hvs,-⟩:=(ht.symm▸w:IsE h vs (.mk op arg neg l m name ks)).isK;subst hvs;refine f0C ok D.q14 rfl ?_;conv=>whnf
 repeat' ((first|(show CN _ _ _ _ _ _;(refine CN.f rfl (c1 _ _ _ Ab Ab) (fun v h' hl2 hr=>?_);subst hr))|(show Ext _ _ _ _ _ _ _;refine Ext.makeMap fun bm=>?_)|((first|apply oI.z|apply cI.z))|intro (_:Nat)|refine LdN.o 1 rfl rfl ?_|refine Sto.l 0 rfl rfl rfl ?_)<;>conv=>whnf)
 rename_i b1 b2 b4;refine LpN.of (fun r ρ hx L=>∃(j:Nat) (X:Vc.Own) (es:Array MapEntry) (clock:Nat) (ms:List (List Nat × Tr)),r=bs.length-j/\h.le hx/\j<=bs.length/\rd ρ 18=.int .i64 j/\rd ρ 6=.bool (dec (aS t/\mQ (bs.take j)))/\rd ρ 8=.bool (dec (gM (bs.take j)))/\
     L=X++((b4,.cells [.map (some bm)].toArray 85 (0,0))::(bm,.map es clock)::(b2,.cells [.int .i64 0,.int .i64 0,.bool false,.slice none 0 0,.slice none 0 0,.string (txt []),.slice none 0 0].toArray Ty.api_Expr (0,0))::(b1,.cells [.int .i64 op,.int .i64 arg,.bool neg,a.val,b.val,.string (txt name),s.val].toArray Ty.api_Expr (0,0))::[])/\fD VE hx es.toList ms/\MsR ms (bs.take j)) bs.length
  ⟨0,[],#[],0,[],rfl,hl2,aZs _,rfl,congrArg Value.bool v0,congrArg Value.bool (aW aFe).symm,rfl,trivial,⟨fun _=>Iff.rfl,fun _=>rfl⟩⟩ ?_
 conv=>whnf
 repeat intro _
 rename_i r hx L2 hI;obtain⟨j,X,es,clock,ms,rfl,hle,hj,e18,e6,e8,rfl,me,mr⟩:=hI;conv at e18=>lhs;whnf
 subst e18;conv at e6=>lhs;whnf
 subst e6;conv at e8=>lhs;whnf
 subst e8;by_cases hjl:j=bs.length
 .subst hjl;rw[aZi] at *;have r3:=r3 ms mr;have c5:=c5 (jJ (byM ms) t);obtain⟨P,hP⟩:=AE (jJ (byM ms) t);have c4:=fun h0 bc bm Tc fc es clock mc mm me x h hl w=>c4 h0 bc bm Tc fc es clock ms mc mm me x h hl w
  rw[<-hP] at c4 c5 r3;obtain⟨⟨Q1,Q2⟩,hQ⟩:=AE (dR P);rw[<-hQ] at c5 r3;clear hP hQ;conv=>whnf
  repeat' first|((first|(show Sto _ _ _ _;first|refine Sto.tl3 (A:=[]) (F:=X) (G:=[_,_]) rfl rfl ?_|refine Sto.tl3 (A:=[]) (F:=X) (G:=[]) rfl rfl ?_)|(show LdN _ _ _ _ _;first|refine LdN.tl3 (A:=[]) (F:=X) (G:=[_,_]) rfl ?_|refine LdN.tl3 (A:=[]) (F:=X) (G:=[_,_,_]) rfl ?_|refine LdN.tl3 (A:=[]) (F:=X) (G:=[]) rfl ?_)|(show CN _ _ _ _ _ _;first|(refine CN.keepTl (Fe:=X) rfl (fun h' hl2 mc mm=>?_);refine CN.f rfl (c4 h' _ _ _ _ _ _ mc mm (me.mono hl2) Ab _ (aA.lr _) Af) (fun v h'' hl3 hr=>?_);obtain⟨op2,ar2,ng2,nn2,dd2,nm2,ss2,rfl,hE2⟩:=hr)|(refine CN.f rfl (c5 _ _ Ae Ab) (fun v h'' hl3 hr=>?_);obtain⟨_,rfl,op3,ar3,ng3,nn3,dd3,nm3,ss3,rfl,hE3⟩:=hr))|((first|apply oI.z|apply cI.z)))<;>conv=>whnf)|(show cnd _ _ _;first|(apply aB<;>intro _<;>first|(exfalso;omega)|conv=>whnf)|(refine aI ?_)|(apply aN<;>intro _<;>first|(exfalso;omega)|conv=>whnf))
  all_goals first
   | (rw[r1 Ab];exact RN.a ⟨_,rfl,VE.zero _⟩)
   | (rw[r2 Ab Ab];exact RN.a ⟨_,rfl,VE.zero _⟩)
   | (rw[r3 Ab Ab];exact RN.a ⟨_,rfl,op3,ar3,ng3,nn3,dd3,nm3,ss3,rfl,hE3⟩)
 .obtain⟨⟨n,u⟩,hu⟩:∃x,bs[j]?=some x:=⟨_,aY4 Aa⟩
  have wbx:=wb.mono hle;have htk:=bB hu;have hnb:∀y∈n,y<256:=by
   rcases wb.mem with e|⟨bl,off,c,T,fz,e1,e2,e3⟩
   .rw[e] at hu;simp at hu
   .exact (tZ.get e3 hu).2.1
  have d1:aS t/\mQ (bs.take j)->dec (aS u)=dec (aS t/\mQ (bs.take (j+1))):=fun x=>by rw[htk];exact cA ⟨fun y=>⟨x.1,uG.2 ⟨x.2,y⟩⟩,fun y=>(uG.1 y.2).2⟩
  have d0:¬(aS t/\mQ (bs.take j))->false=dec (aS t/\mQ (bs.take (j+1))):=fun x=>by rw[htk];exact (aG fun y=>x ⟨y.1,(uG.1 y.2).1⟩).symm
  have n0:¬gM (bs.take j)->false=dec (gM (bs.take (j+1))):=fun x=>by rw[htk];exact (aG fun y=>x (iR.1 y).1).symm
  have n2:¬dH n->false=dec (gM (bs.take (j+1))):=fun x=>by rw[htk];exact (aG fun y=>x (iR.1 y).2.1).symm
  have c2:=fun h=>c2 h n hnb
  have mnew:=MsR.new (n:=n) (u:=u) mr;have mold:=fun i t' (hi:ms[i]?=some (n,t'))=>MsR.old (u:=u) mr hi
  have fe:=fD.find hnb 0 me;have nfound:n∈ms.map (·.1)->false=dec (gM (bs.take (j+1))):=fun x=>by rw[htk];exact (aG fun y=>(iR.1 y).2.2 ((mr.1 n).1 x)).symm
  have nmiss:n∉ms.map (·.1)->gM (bs.take j)->dH n->true=dec (gM (bs.take (j+1))):=fun x y z=>by rw[htk];exact (aW (iR.2 ⟨y,z,fun q=>x ((mr.1 n).2 q)⟩)).symm
  rw[<-htk] at mnew mold;clear r1 r2 r3 htk;obtain⟨V1,hV1⟩:=AE (dec (aS t/\mQ (bs.take (j+1))));obtain⟨N1,hN1⟩:=AE (dec (gM (bs.take (j+1))));rw[<-hV1] at d1 d0;rw[<-hN1] at n0 n2 nfound nmiss;rcases fe with ⟨i,x,t',e1,e2,e3,e4,⟨op5,ar5,ng5,nn5,dd5,nm5,ss5,e5,hE5⟩,-⟩|⟨e1,e2,-⟩
  .have e1':=e1;rw[e5] at e1;have nf:=nfound (List.mem_map.2 ⟨_,aY8 e3,rfl⟩);rw[aZq] at e1 e1';have e2':es[i]?=some x:=by rw[<-Array.getElem?_toList];exact e2
   conv=>whnf
   repeat' first|((first|(show Idx _ _ _ _ _;refine Idx.bind wbx j n u Aa hu (fun bl off op2 arg2 neg2 a2 b2 name2 s2 hnn hE h1 h2=>?_))|(show LdN _ _ _ _ _;first|refine LdN.has8 _ rfl (h1 _ _ (aA.lr _)) (fun i v hv=>h2 _ _ i v (aA.lr _) hv) ?_|refine LdN.oA 0 rfl rfl ?_|refine LdN.oA 1 rfl rfl ?_)|(show CN _ _ _ _ _ _;first|(refine CN.f rfl (c1 _ _ _ Ae Ab) (fun v h' hl2 hr=>?_);subst hr)|(refine CN.f rfl (c2 _) (fun v h' hl2 hr=>?_);subst hr))|(show Ld _ _ _ _;first|refine Ld.tl3 (A:=[_]) (F:=X) (G:=[]) rfl ?_|refine Ld.tl3 (A:=[_,_]) (F:=X) (G:=[]) rfl ?_|refine Ld.o 0 rfl rfl ?_|refine Ld.o 1 rfl rfl ?_)|(show Ext _ _ _ _ _ _ _;first|refine Ext.mapFind (es:=es) (clock:=clock) (.inl Ar) rfl rfl rfl Ag trivial (.inl ⟨_,_,e1,?_⟩)|(refine Ext.mapSet (d:=.string) (key:=.string (txt n)) (A:=[_,_]) (Fe:=X) (G:=[_]) AC rfl rfl trivial (.inr ⟨i,x,e1',e2',e4,?_⟩)))|((first|apply oI.z|apply cI.z))|intro (_:Nat)|refine WN.i64 Aa Aa ?_|refine Sto.l 0 rfl rfl rfl ?_)<;>conv=>whnf)|(show cnd _ _ _;first|((first|apply aB|apply aN)<;>intro _<;>first|(exfalso;omega)|conv=>whnf))
   all_goals
    refine⟨rfl,bs.length-(j+1),Aa,j+1,_::_::X,_,_,ms.set i (n,u),rfl,Ac,Aa,vi Aa,congrArg Value.bool ?_,congrArg Value.bool ?_,rfl,?_,mold i t' e3⟩
    .rw[<-hV1];first|exact d1 Ab|exact d0 Ab
    .rw[<-hN1];first|exact nf|exact n0 Ab|exact n2 Ab
    .rw[modify_set e2'];exact fD.set ⟨rfl,hnb,op2,arg2,neg2,a2,b2,name2,s2,rfl,Af⟩ (me.mono Ap)
  .conv=>whnf
   repeat' first|((first|(show Idx _ _ _ _ _;refine Idx.bind wbx j n u Aa hu (fun bl off op2 arg2 neg2 a2 b2 name2 s2 hnn hE h1 h2=>?_))|(show LdN _ _ _ _ _;first|refine LdN.has8 _ rfl (h1 _ _ (aA.lr _)) (fun i v hv=>h2 _ _ i v (aA.lr _) hv) ?_|refine LdN.oA 0 rfl rfl ?_|refine LdN.oA 1 rfl rfl ?_)|(show CN _ _ _ _ _ _;first|(refine CN.f rfl (c1 _ _ _ Ae Ab) (fun v h' hl2 hr=>?_);subst hr)|(refine CN.f rfl (c2 _) (fun v h' hl2 hr=>?_);subst hr))|(show Ld _ _ _ _;first|refine Ld.tl3 (A:=[_]) (F:=X) (G:=[]) rfl ?_|refine Ld.tl3 (A:=[_,_]) (F:=X) (G:=[]) rfl ?_|refine Ld.o 0 rfl rfl ?_|refine Ld.o 1 rfl rfl ?_)|(show Ext _ _ _ _ _ _ _;first|refine Ext.mapFind (es:=es) (clock:=clock) (.inl Ar) rfl rfl rfl Ag trivial (.inr ⟨e1,?_⟩)|(refine Ext.mapSet (d:=.string) (key:=.string (txt n)) (A:=[_,_]) (Fe:=X) (G:=[_]) AC rfl rfl trivial (.inl ⟨e1,?_⟩)))|((first|apply oI.z|apply cI.z))|intro (_:Nat)|refine WN.i64 Aa Aa ?_|refine Sto.l 0 rfl rfl rfl ?_)<;>conv=>whnf)|(show cnd _ _ _;first|((first|apply aB|apply aN)<;>intro _<;>first|(exfalso;omega)|conv=>whnf))
   all_goals
    refine⟨rfl,bs.length-(j+1),Aa,j+1,_::_::X,_,_,ms++[(n,u)],rfl,Ac,Aa,vi Aa,congrArg Value.bool ?_,congrArg Value.bool ?_,rfl,?_,mnew⟩
    .rw[<-hV1];first|exact d1 Ab|exact d0 Ab
    .rw[<-hN1];first|exact nmiss e2 Ab Ab|exact n0 Ab|exact n2 Ab
    .rw[Array.toList_push];exact fD.push ⟨rfl,hnb,op2,arg2,neg2,a2,b2,name2,s2,rfl,Af⟩ (me.mono Ap)
theorem tD:((0:Int):Rat)=0:=rfl
theorem uT:((1:Int):Rat)=1:=rfl
theorem bL.of{h:aA}{n:Bool}{a b:Sl}{q:Rat}(w:bL h n a b (some q)):∃l m,aY h a b l m/\okR n l m/\aK n l m=q:=by
 obtain⟨l,m,v,e⟩:=w.ex;unfold gT at e
 split at e
 .exact⟨l,m,v,Ab,(Option.some.inj e).symm⟩
 .cases e
theorem bL.fits{h:aA}{n:Bool}{a b:Sl}{q:Rat}(w:bL h n a b (some q)):fits q:=by
 obtain⟨l,m,v,k,rfl⟩:=w.of;exact k.2.2
def aWs(h:aA)(v:Value)(q:Rat):Prop:=∃n,∃a b:Sl,v=.agg #[.bool n,a.val,b.val]/\bL h n a b (some q)
instance:UpV aWs:=⟨fun hl ⟨n,a,b,e,w⟩=>⟨n,a,b,e,by obtain⟨l,m,v,e2⟩:=w.ex;exact⟨l,m,v.mono hl,e2⟩⟩⟩
def VQ(h:aA)(v:Value)(x:Option Rat):Prop:=∃n,∃a b:Sl,∃bb,v=.tuple #[.agg #[.bool n,a.val,b.val],.bool bb]/\(bb=true->∃q,x=some q/\bL h n a b (some q))/\(bb=false->x=none)
def NQ(h:aA)(v:Value)(p:Rat × Int):Prop:=∃n,∃a b:Sl,v=.tuple #[.agg #[.bool n,a.val,b.val],.int .i64 p.2]/\bL h n a b (some p.1)
theorem aGb.nq{h:aA}{v:Value}{p:Rat × Int}:aGb h v p->NQ h v p:=fun ⟨a,b,e,_,w⟩=>⟨_,a,b,e,w⟩
def kQ(p:Rat × Int)(x:Option Rat):Prop:=(p.2=0->x=some p.1)/\(p.2≠0->x=none)
theorem kQ.out(q:Rat):kQ (eA q) (gU q):=by
 unfold eA gU
 split
 .exact⟨fun _=>rfl,fun h=>absurd rfl h⟩
 .exact⟨fun h=>absurd h Ag,fun _=>rfl⟩
theorem kQ.err(e:Int)(h:e≠0):kQ (0,e) none:=⟨fun x=>absurd x h,fun _=>rfl⟩
theorem VQ.out{h:aA}{p:Rat × Int}{x:Option Rat}{n:Bool}{a b:Sl}(ox:kQ p x)(w:bL h n a b (some p.1)):VQ h (.tuple #[.agg #[.bool n,a.val,b.val],.bool (eq p.2 0)]) x:=by
 refine⟨n,a,b,_,rfl,fun e=>⟨p.1,ox.1 ?_,w⟩,fun e=>ox.2 fun y=>?_⟩
 .by_cases y:p.2=0
  .exact y
  .rw[jE,aG y] at e;cases e
 .rw[jE,aW y] at e;cases e
theorem aI9(h:aA)(n:Bool)(a b:Sl)(e:Int):Fn0 T F.q124 [.agg #[.bool n,a.val,b.val],.int .i64 e] h fun v h'=>h'=h/\v=.tuple #[.agg #[.bool n,a.val,b.val],.bool (eq e 0)]:=by
 refine f0C ok D.q124 rfl ?_;conv=>whnf
 repeat' ((first|((first|apply oI.z|apply cI.z))|intro (_:Nat)|(show LdN _ _ _ _ _;first|refine LdN.o 0 rfl rfl ?_|refine LdN.o 1 rfl rfl ?_)|refine Sto.l 0 rfl rfl rfl ?_)<;>conv=>whnf)
 all_goals exact RN.a ⟨rfl,rfl⟩
theorem aYv(h:aA)(tb:Tb h)(n:Bool)(a b:Sl)(q:Rat)(w:bL h n a b (some q)):Fn0 T F.q125 [.agg #[.bool n,a.val,b.val]] h fun v h'=>NQ h' v (eA (-q)):=by
 obtain⟨l,m,v,k,rfl⟩:=w.of;exact (aRr h tb n a b l m v).mono fun v h' _ r=>by
  rw[show mC (fun q=>-q) n l m=eA (-(aK n l m)) from if_pos k] at r
  exact (r.isn (Fok.out _)).nq
theorem aYw(h:aA)(tb:Tb h)(n:Bool)(a b:Sl)(q:Rat)(w:bL h n a b (some q)):Fn0 T F.q127 [.agg #[.bool n,a.val,b.val]] h fun v h'=>NQ h' v (eA (gP q)):=by
 obtain⟨l,m,v,k,rfl⟩:=w.of;exact (aRs h tb n a b l m v).mono fun v h' _ r=>by
  rw[show mC gP n l m=eA (gP (aK n l m)) from if_pos k] at r;exact (r.isn (Fok.out _)).nq
def aG9(q:Rat)(arg:Int):Rat × Int:=if arg<0/\q=0 then (0,10) else eA (lN q arg)
theorem kQ.pow(q:Rat)(arg:Int):kQ (aG9 q arg) (if arg<0/\q=0 then none else gU (lN q arg)):=by
 unfold aG9
 split
 .exact kQ.err 10 Ag
 .exact kQ.out _
theorem aYx(h:aA)(tb:Tb h)(n:Bool)(a b:Sl)(q:Rat)(arg:Int)(h1:-32<=arg)(h2:arg<=32)(w:bL h n a b (some q)):Fn0 T F.q126 [.agg #[.bool n,a.val,b.val],.int .i64 arg] h fun v h'=>NQ h' v (aG9 q arg):=by
 obtain⟨l,m,v,k,rfl⟩:=w.of;exact (aRp h tb n a b l m v arg Aa Aa).mono fun v h' _ r=>by
  rw[show iY n l m arg=aG9 (aK n l m) arg from (if_pos k).trans ((if_neg Aa).trans (by unfold aG9;simp only[dS]))] at r;refine (r.isn ?_).nq;unfold aG9
  split
  .exact Fok.err1 10
  .exact Fok.out _
theorem aFf{q:Rat}(hq:fits q){n:Nat}(hn:1<=n):fits (dV q n).1:=by
 unfold dV
 split
 .exact eD
 split
 .rename_i e;obtain⟨-,e2,e3⟩:=xY (q:=q) hn e.1 e.2;have g:∀x,rt x n^n=x->rt x n<=x:=fun x y=>by
   have:=Nat.le_self_pow (Nat.ne_of_gt hn) (rt x n)
   rwa [y] at this
  show fits (mkQ (sg q) (rt (nu q) n) (rt q.den n))
  exact⟨by rw[e2];exact aZr (bN (g _ e.1)) hq.1,by rw[e3];exact aZr (bN (g _ e.2)) hq.2⟩
 .exact eD
theorem aX9(h:aA)(tb:Tb h)(n:Bool)(a b:Sl)(q:Rat)(arg:Int)(h1:2<=arg)(h2:arg<=8)(w:bL h n a b (some q)):Fn0 T F.q128 [.agg #[.bool n,a.val,b.val],.int .i64 arg] h fun v h'=>
  ∃n',∃c d:Sl,∃bb,v=.tuple #[.agg #[.bool n',c.val,d.val],.bool bb,.int .i64 0]/\(bb=true->∃r,(if (dV q arg.toNat).2 then gU (dV q arg.toNat).1 else none)=some r/\bL h' n' c d (some r))/\(bb=false->(if (dV q arg.toNat).2 then gU (dV q arg.toNat).1 else none)=none):=by
 have hf:=w.fits;obtain⟨l,m,v,k,rfl⟩:=w.of;exact (aPn h tb n a b l m v arg Aa Aa).mono fun v h' _ r=>by
  rw[show lK n l m arg=((dV (aK n l m) arg.toNat).1,(dV (aK n l m) arg.toNat).2,0) from (if_pos k).trans (if_neg Aa)] at r;have ft:=aFf hf (n:=arg.toNat) Aa;obtain⟨c,d,rfl,hr⟩:=r;refine⟨_,c,d,_,rfl,fun e=>⟨_,(if_pos e).trans (if_pos ft),hr.isnum ft⟩,fun e=>if_neg ?_⟩
  show ¬(dV (aK n l m) arg.toNat).2=true
  rw[show (dV (aK n l m) arg.toNat).2=false from e]
  decide
theorem aQo(h:aA)(tb:Tb h)(n:Bool)(a b:Sl)(q:Rat)(w:bL h n a b (some q)):Fn0 T F.q33 [.agg #[.bool n,a.val,b.val]] h fun v h'=>∃c d:Sl,v=.tuple #[.agg #[.bool (sg q),c.val,d.val],.int .i64 0]/\fI h' c d q:=by
 obtain⟨l,m,v,k,rfl⟩:=w.of;exact (tU h tb n a b l m v).mono fun v h' _ r=>by
  rw[show mC (fun q=>q) n l m=(aK n l m,0) from (if_pos k).trans (if_pos k.2.2)] at r
  obtain⟨c,d,rfl,hr⟩:=r;exact⟨c,d,rfl,hr⟩
theorem aWt(h:aA)(tb:Tb h)(n:Bool)(a b:Sl)(x:Option Rat)(w:bL h n a b x):Fn0 T F.q33 [.agg #[.bool n,a.val,b.val]] h fun v h'=>∃n',∃c d:Sl,∃e,v=.tuple #[.agg #[.bool n',c.val,d.val],.int .i64 e]/\bL h' n' c d (some (x.getD 0))/\(e=0↔x.isSome=true):=by
 obtain⟨l,m,v,rfl⟩:=w.ex;exact (tU h tb n a b l m v).mono fun v h' _ r=>by
  by_cases k:okR n l m
  .rw[show mC (fun q=>q) n l m=(aK n l m,0) from (if_pos k).trans (if_pos k.2.2)] at r
   obtain⟨c,d,rfl,hr⟩:=r;rw[show gT n l m=some (aK n l m) from if_pos k];exact⟨_,c,d,0,rfl,hr.isnum k.2.2,by simp⟩
  .rw[show mC (fun q=>q) n l m=(0,1) from if_neg k] at r
   obtain⟨c,d,rfl,hr⟩:=r;rw[show gT n l m=none from if_neg k];exact⟨_,c,d,1,rfl,hr.isnum eD,by simp⟩
theorem vT(q:Rat):q=1↔sg q=false/\q.den=1/\nu q=1:=by
 constructor
 .rintro rfl;exact⟨by unfold sg;decide,Ag,by unfold nu;decide⟩
 .rintro⟨h1,h2,h3⟩
  have:q.num=1:=by
   unfold sg at h1;unfold nu at h3;have:=of_decide_eq_false h1;omega
  exact Rat.ext (by rw[this];rfl) (by rw[h2];rfl)
theorem aQp(h:aA)(a b:Sl)(q:Rat)(hf:fits q)(w:fI h a b q):Fn0 T F.q222 [.agg #[.bool (sg q),a.val,b.val]] h fun v h'=>v=.bool (dec (q=1)):=by
 have h1:=w.num;have h2:=w.den.len;have h3:=jZ tlB (nu q);have f1:sg q=true->q≠1:=fun x y=>by rw[(vT q).1 y |>.1] at x;cases x
 have f2:b.l≠0->q≠1:=fun x y=>x (by rw[h2,if_pos ((vT q).1 y).2.1,jU])
 have f3:sg q=false->b.l=0->(q=1↔nu q=1):=fun x y=>by
  have hd:q.den=1:=by
   by_cases z:q.den=1
   .exact z
   .rw[if_neg z] at h2;have:=(aT tlB).1 (h2.symm.trans y);exact absurd this q.den_nz
  exact⟨fun z=>((vT q).1 z).2.2,fun z=>(vT q).2 ⟨x,hd,z⟩⟩
 have h5:=hf.1;have h6:(dg 4294967296 (nu q)).length<=64:=h5;have h7:=bS tlB (nu q);obtain⟨N,hN⟩:=AE (nu q);rw[<-hN] at f3 h7;clear h2;refine f0C ok D.q222 rfl ?_;conv=>whnf
 repeat' first|((first|(show CN _ _ _ _ _ _;first|(refine CN.f rfl (lY _ _ _ h1 h3 Aa) (fun v h' hl hr=>?_);rw[<-hN,h7] at hr;obtain⟨s1,rfl,hs1⟩:=hr)|(refine CN.quiet rfl (aBf _ _ _ Ab (by rw[hN];omega)) ?_))|((first|apply oI.z|apply cI.z))|intro (_:Nat)|refine Ld.o 0 rfl rfl ?_)<;>conv=>whnf)|(show cnd _ _ _;first|(apply aD<;>intro _<;>first|(exfalso;omega)|conv=>whnf)|(refine aI ?_)|(refine bQ (fun _=>?_) (fun _=>?_)<;>(conv=>whnf)))
 all_goals first
  | (rw[aG (f1 Ab)];exact RN.a rfl)
  | (rw[aG (f2 Aa)];exact RN.a rfl)
  | (rw[cA (f3 Ab Aa)];exact RN.a rfl)
theorem aQq(h:aA)(tb:Tb h)(fn:Int)(n:Bool)(a b:Sl)(q:Rat)(h1:1<=fn)(h2:fn<=8)(w:bL h n a b (some q)):Fn0 T F.q179 [.int .i64 fn,.agg #[.bool n,a.val,b.val]] h fun v h'=>∃c d:Sl,v=.tuple #[.agg #[.bool (sg q),c.val,d.val],.int .i64 0]/\fI h' c d q:=by
 refine f0C ok D.q179 rfl ?_;conv=>whnf
 repeat' first|((first|(show CN _ _ _ _ _ _;(refine CN.f rfl (aQo _ Ab n a b q Ab) (fun v h' hl hr=>?_);obtain⟨c,d,rfl,hr'⟩:=hr))|((first|apply oI.z|apply cI.z))|intro (_:Nat)|(show LdN _ _ _ _ _;first|refine LdN.o 0 rfl rfl ?_|refine LdN.o 1 rfl rfl ?_)|(show Sto _ _ _ _;first|refine Sto.l 0 rfl rfl rfl ?_|refine Sto.l 1 rfl rfl rfl ?_))<;>conv=>whnf)|(show cnd _ _ _;first|((first|apply aB|apply aD)<;>intro _<;>first|(exfalso;omega)|conv=>whnf))
 all_goals exact RN.a ⟨_,_,rfl,Ab⟩
theorem aQr{h:aA}{a b:Sl}{q:Rat}(w:fI h a b q):(a.l=0->q=0)/\(a.l≠0->q≠0):=by
 have h1:=w.num.len;rw[<-dS];exact⟨fun x=>(aT tlB).1 (h1.symm.trans x),fun x y=>x (by rw[h1,y,rW,jU])⟩
theorem aQs(h:aA)(fn:Int)(a b:Sl)(q:Rat)(h1:1<=fn)(h2:fn<=8)(hf:fits q)(w:fI h a b q):Fn0 T F.q180 [.int .i64 fn,.agg #[.bool (sg q),a.val,b.val]] h fun v h'=>VQ h' v (qX fn q):=by
 obtain⟨z1,z2⟩:=aQr w;have r1:fn=1\/fn=4->q=0->qX fn q=some 1:=fun x y=>(if_pos x).trans (if_pos y)
 have r2:fn=1\/fn=4->q≠0->qX fn q=none:=fun x y=>(if_pos x).trans (if_neg y)
 have r3:fn=2\/fn=7->qX fn q=if q=1 then some 0 else none:=fun x=>(if_neg Aa).trans (if_pos x)
 have r4:¬(fn=1\/fn=4)->¬(fn=2\/fn=7)->qX fn q=if q=0 then some 0 else none:=fun x y=>(if_neg x).trans (if_neg y)
 obtain⟨R,hR⟩:=AE (qX fn q);rw[<-hR] at r1 r2 r3 r4 ⊢;clear hR;have zz:∀h',bL h' false ⟨none,0,0⟩ ⟨none,0,0⟩ (some 0):=fun h'=>by
  have:=(fI.zero h').isnum eD
  rwa [qE] at this
 have f1:=fA;have k1:=fun h=>aDt h 1 Ag Ag
 simp only[uT] at k1;refine f0C ok D.q180 rfl ?_;conv=>whnf
 repeat' ((first|(show DrN _ _ _ _ _ _;refine DrN.own [_] (by exact List.Sublist.cons _ (List.Sublist.cons_cons _ (bAd _))) Al ?_)|(refine⟨fun _=>⟨aF.o Am,by repeat first|exact bAd _|apply List.Sublist.cons_cons|refine List.Sublist.trans ?_ (bAe _ _)|apply List.Sublist.cons⟩,?_⟩)|((first|apply oI.z|apply cI.z))|intro (_:Nat)|(apply aO.go)|(show CN _ _ _ _ _ _;first|(refine CN.f rfl (aQp _ _ _ q hf Ab) (fun v h' hl hr=>?_);subst hr)|(refine CN.f rfl (k1 _) (fun v h' hl hr=>?_);obtain⟨c,d,rfl,hr'⟩:=hr))|(show LdN _ _ _ _ _;first|refine LdN.o 0 rfl rfl ?_|refine LdN.o 1 rfl rfl ?_)|(show Ld _ _ _ _;first|refine Ld.o 0 rfl rfl ?_|refine Ld.o 1 rfl rfl ?_)|refine Sto.l 0 rfl rfl rfl ?_|(apply aD<;>intro _<;>try (exfalso;omega)))<;>conv=>whnf)
 all_goals first
  | (rw[r1 Aa (z1 Aa)];exact RN.a ⟨_,_,_,true,rfl,fun _=>⟨1,rfl,fI.isnum Ab f1⟩,fun x=>(by cases x)⟩)
  | (rw[r2 Aa (z2 Aa)];exact RN.a ⟨_,⟨none,0,0⟩,⟨none,0,0⟩,false,rfl,fun x=>(by cases x),fun _=>rfl⟩)
  | (rw[r3 Aa];exact RN.a ⟨_,⟨none,0,0⟩,⟨none,0,0⟩,_,rfl,fun x=>⟨0,if_pos (by by_cases y:q=1;exact y;rw[aG y] at x;cases x),zz _⟩,fun x=>if_neg fun y=>by rw[aW y] at x;cases x⟩)
  | (rw[r4 Aa Aa];exact RN.a ⟨_,⟨none,0,0⟩,⟨none,0,0⟩,_,rfl,fun x=>⟨0,if_pos (z1 (by by_cases y:a.l=0;exact y;rw[Vc.eq_false' Aa] at x;cases x)),zz _⟩,fun x=>if_neg fun y=>by rw[Vc.eq_true' (by by_cases z:a.l=0;omega;exact absurd y (z2 z))] at x;cases x⟩)
theorem aLv(h:aA)(tb:Tb h)(fn:Int)(n:Bool)(a b:Sl)(q:Rat)(h1:1<=fn)(h2:fn<=8)(w:bL h n a b (some q)):Fn0 T F.q129 [.int .i64 fn,.agg #[.bool n,a.val,b.val]] h fun v h'=>
  ∃n',∃c d:Sl,∃bb,v=.tuple #[.agg #[.bool n',c.val,d.val],.bool bb,.int .i64 0]/\(bb=true->∃r,qX fn q=some r/\bL h' n' c d (some r))/\(bb=false->qX fn q=none):=by
 have hf:=w.fits;refine f0C ok D.q129 rfl ?_;conv=>whnf
 repeat' first|((first|(show CN _ _ _ _ _ _;first|(refine CN.f rfl (aQq _ Ab fn n a b q h1 h2 Ab) (fun v h' hl hr=>?_);obtain⟨c,d,rfl,hr'⟩:=hr)|(refine CN.f rfl (aQs _ fn _ _ q h1 h2 hf Ab) (fun v h' hl hr=>?_);obtain⟨n1,c1,d1,b1,rfl,g1,g2⟩:=hr))|((first|apply oI.z|apply cI.z))|intro (_:Nat)|(show LdN _ _ _ _ _;first|refine LdN.o 0 rfl rfl ?_|refine LdN.o 1 rfl rfl ?_)|(show Sto _ _ _ _;first|refine Sto.l 0 rfl rfl rfl ?_|refine Sto.l 1 rfl rfl rfl ?_))<;>conv=>whnf)|(show cnd _ _ _;first|(apply aD<;>intro _<;>first|(exfalso;omega)|conv=>whnf)|(refine aI ?_))
 all_goals exact RN.a ⟨_,_,_,_,rfl,g1,g2⟩
theorem aQt(q:Rat)(h:aA)(tb:Tb h)(op arg:Int)(neg:Bool)(a b s:Sl)(name:List Nat)(n:Bool)(c d:Sl)(hop:op=4\/op=9/\-32<=arg/\arg<=32\/op=10/\2<=arg/\arg<=8\/op=11/\1<=arg/\arg<=8\/op=12)(w:bL h n c d (some q)):
  Fn0 T F.q71 [.agg #[.int .i64 op,.int .i64 arg,.bool neg,a.val,b.val,.string (txt name),s.val],.agg #[.bool n,c.val,d.val]] h fun v h'=>VQ h' v (unQ op arg q):=by
 have r1:op=4->unQ op arg q=gU (-q):=fun e=>if_pos e
 have r2:op=9->unQ op arg q=if arg<0/\q=0 then none else gU (lN q arg):=fun e=>(if_neg Aa).trans (if_pos e)
 have r3:op=12->unQ op arg q=gU (gP q):=fun e=>(if_neg Aa).trans ((if_neg Aa).trans (if_pos e))
 have r4:op=10->unQ op arg q=if (dV q arg.toNat).2 then gU (dV q arg.toNat).1 else none:=fun e=>(if_neg Aa).trans ((if_neg Aa).trans ((if_neg Aa).trans (if_pos e)))
 have r5:op=11->unQ op arg q=qX arg q:=fun e=>(if_neg Aa).trans ((if_neg Aa).trans ((if_neg Aa).trans (if_neg Aa)))
 obtain⟨R,hR⟩:=AE (unQ op arg q);rw[<-hR] at r1 r2 r3 r4 r5 ⊢;clear hR;have c1:=fun h tb w=>aYv h tb n c d q w
 have c2:=fun h tb w=>aYw h tb n c d q w
 have c3:=fun h tb w h1 h2=>aYx h tb n c d q arg h1 h2 w
 have c4:=fun h tb w h1 h2=>aX9 h tb n c d q arg h1 h2 w
 have c5:=fun h tb w h1 h2=>aLv h tb arg n c d q h1 h2 w
 have o1:=kQ.out (-q);have o2:=kQ.out (gP q);have o3:=kQ.pow q arg;obtain⟨P1,hP1⟩:=AE (eA (-q));obtain⟨P2,hP2⟩:=AE (eA (gP q));obtain⟨P3,hP3⟩:=AE (aG9 q arg);obtain⟨X4,hX4⟩:=AE (if (dV q arg.toNat).2 then gU (dV q arg.toNat).1 else none)
 rw[<-hP1] at o1;rw[<-hP2] at o2;rw[<-hP3] at o3;rw[<-hX4] at r4;simp only[<-hP1] at c1;simp only[<-hP2] at c2;simp only[<-hP3] at c3;simp only[<-hX4] at c4;clear hP1 hP2 hP3 hX4;refine f0C ok D.q71 rfl ?_;conv=>whnf
 repeat' first|((first|(show CN _ _ _ _ _ _;first|((first|refine CN.f rfl (c1 _ Ab Ab) (fun v h' hl hr=>?_)|refine CN.f rfl (c2 _ Ab Ab) (fun v h' hl hr=>?_)|refine CN.f rfl (c3 _ Ab Ab Aa Aa) (fun v h' hl hr=>?_));obtain⟨n1,c1',d1,rfl,hn1⟩:=hr)|((first|refine CN.f rfl (c4 _ Ab Ab Aa Aa) (fun v h' hl hr=>?_)|refine CN.f rfl (c5 _ Ab Ab Aa Aa) (fun v h' hl hr=>?_));obtain⟨n1,c1',d1,b1,rfl,g1,g2⟩:=hr)|refine CN.quiet rfl (aI9 _ _ _ _ _) ?_)|((first|apply oI.z|apply cI.z))|intro (_:Nat)|(show LdN _ _ _ _ _;first|refine LdN.o 0 rfl rfl ?_|refine LdN.o 1 rfl rfl ?_)|refine Ld.o 2 rfl rfl ?_|(show Sto _ _ _ _;first|refine Sto.l 0 rfl rfl rfl ?_|refine Sto.l 1 rfl rfl rfl ?_))<;>conv=>whnf)|(show cnd _ _ _;first|(apply aD<;>intro _<;>first|(exfalso;omega)|conv=>whnf)|(refine bQ (fun hb=>?_) (fun hb=>?_)<;>(first|cases hb|subst hb)<;>(conv=>whnf)))
 all_goals first
  | (rw[r1 Aa];exact RN.a (VQ.out o1 Ab))
  | (rw[r2 Aa];exact RN.a (VQ.out o3 Ab))
  | (rw[r3 Aa];exact RN.a (VQ.out o2 Ab))
  | (rw[r4 Aa];exact RN.a ⟨n1,c1',d1,true,by rw[Vc.eq_true' rfl],fun _=>g1 rfl,fun x=>by cases x⟩)
  | (rw[r5 Aa];exact RN.a ⟨n1,c1',d1,true,by rw[Vc.eq_true' rfl],fun _=>g1 rfl,fun x=>by cases x⟩)
  | (rw[r4 Aa];exact RN.a ⟨n1,c1',d1,false,rfl,fun x=>(by cases x),fun _=>g2 rfl⟩)
  | (rw[r5 Aa];exact RN.a ⟨n1,c1',d1,false,rfl,fun x=>(by cases x),fun _=>g2 rfl⟩)
theorem kQ.div(q r:Rat):kQ (divR (some q) (some r)) (if r=0 then none else gU (q / r)):=by
 show kQ (if nu r=0 then (0,10) else eA (q / r)) _
 by_cases h:r=0
 .rw[if_pos h,if_pos (dS.2 h)];exact kQ.err 10 Ag
 .rw[if_neg h,if_neg fun x=>h (dS.1 x)];exact kQ.out _
theorem aLw(q r:Rat)(h:aA)(tb:Tb h)(op:Int)(n:Bool)(c d:Sl)(n':Bool)(c' d':Sl)(hop:op=5\/op=6\/op=7\/op=8\/op=13\/op=14)(w:bL h n c d (some q))(w':bL h n' c' d' (some r)):
  Fn0 T F.q72 [.int .i64 op,.agg #[.bool n,c.val,d.val],.agg #[.bool n',c'.val,d'.val]] h fun v h'=>VQ h' v (biQ op q r):=by
 have r1:op=5->biQ op q r=gU (q+r):=fun e=>if_pos e
 have r2:op=6->biQ op q r=gU (q-r):=fun e=>(if_neg Aa).trans (if_pos e)
 have r3:op=7->biQ op q r=gU (q*r):=fun e=>(if_neg Aa).trans ((if_neg Aa).trans (if_pos e))
 have r4:op=8->biQ op q r=if r=0 then none else gU (q / r):=fun e=>(if_neg Aa).trans ((if_neg Aa).trans ((if_neg Aa).trans (if_pos e)))
 have r5:op=13->biQ op q r=some (if r<q then r else q):=fun e=>(if_neg Aa).trans ((if_neg Aa).trans ((if_neg Aa).trans ((if_neg Aa).trans (if_pos e))))
 have r6:op=14->biQ op q r=some (if q<r then r else q):=fun e=>(if_neg Aa).trans ((if_neg Aa).trans ((if_neg Aa).trans ((if_neg Aa).trans (if_neg Aa))))
 have tri:=aRg q r;have m1:op=13->gK q r<0->biQ op q r=some q:=fun x y=>by
  rw[r5 x,if_neg];rcases tri with t|t|t
  .exact fun z=>aAp z t.2
  .omega
  .omega
 have m2:op=13->¬gK q r<0->biQ op q r=some r:=fun x y=>by
  rw[r5 x];rcases tri with t|t|t
  .omega
  .rw[t.2];split<;>rfl
  .rw[if_pos t.2]
 have m3:op=14->gK q r<0->biQ op q r=some r:=fun x y=>by
  rw[r6 x];rcases tri with t|t|t
  .rw[if_pos t.2]
  .omega
  .omega
 have m4:op=14->¬gK q r<0->biQ op q r=some q:=fun x y=>by
  rw[r6 x,if_neg];rcases tri with t|t|t
  .omega
  .rw[t.2];exact Rat.lt_irrefl
  .exact fun z=>aAp z t.2
 have mq:lt (gK q r) 0=eq op 13->op=13\/op=14->biQ op q r=some q:=fun x y=>by
  by_cases z:gK q r<0
  .rw[Vc.lt_true' z,jE] at x;rcases y with y|y
   .exact m1 y z
   .rw[aG Aa] at x;cases x
  .rw[Vc.lt_false' Aa,jE] at x;rcases y with y|y
   .rw[aW y] at x;cases x
   .exact m4 y z
 have mr:¬(lt (gK q r) 0=eq op 13)->op=13\/op=14->biQ op q r=some r:=fun x y=>by
  by_cases z:gK q r<0
  .rw[Vc.lt_true' z,jE] at x;rcases y with y|y
   .rw[aW y] at x;exact absurd rfl x
   .exact m3 y z
  .rw[Vc.lt_false' Aa,jE] at x;rcases y with y|y
   .exact m2 y z
   .rw[aG Aa] at x;exact absurd rfl x
 clear r5 r6 tri m1 m2 m3 m4;obtain⟨R,hR⟩:=AE (biQ op q r);rw[<-hR] at r1 r2 r3 r4 mq mr ⊢;clear hR;have c1:=fun h tb w w'=>(aYf h n c d n' c' d' (some q) (some r) tb w w').mono fun v h' _ r=>r.nq
 have c2:=fun h tb w w'=>(aYg h n c d n' c' d' (some q) (some r) tb w w').mono fun v h' _ r=>r.nq
 have c3:=fun h tb w w'=>(aYh h n c d n' c' d' (some q) (some r) tb w w').mono fun v h' _ r=>r.nq
 have c4:=fun h tb w w'=>(aYi h n c d n' c' d' (some q) (some r) tb w w').mono fun v h' _ r=>r.nq
 have c5:=fun h tb w w'=>aM9 h n c d n' c' d' (some q) (some r) tb w w'
 replace c5:∀h,Tb h->bL h n c d (some q)->bL h n' c' d' (some r)->Fn0 T F.q134 [.agg #[.bool n,c.val,d.val],.agg #[.bool n',c'.val,d'.val]] h fun v _=>v=.tuple #[.int .i64 (gK q r),.int .i64 0]:=c5
 have o1:kQ (opR (·+·) (some q) (some r)) (gU (q+r)):=kQ.out (q+r);have o2:kQ (opR (· - ·) (some q) (some r)) (gU (q-r)):=kQ.out (q-r);have o3:kQ (opR (·*·) (some q) (some r)) (gU (q*r)):=kQ.out (q*r);have o4:=kQ.div q r;obtain⟨P1,hP1⟩:=AE (opR (·+·) (some q) (some r));obtain⟨P2,hP2⟩:=AE (opR (· - ·) (some q) (some r));obtain⟨P3,hP3⟩:=AE (opR (·*·) (some q) (some r));obtain⟨P4,hP4⟩:=AE (divR (some q) (some r));obtain⟨C,hC⟩:=AE (gK q r);rw[<-hP1] at o1;rw[<-hP2] at o2;rw[<-hP3] at o3;rw[<-hP4] at o4;simp only[<-hP1] at c1;simp only[<-hP2] at c2;simp only[<-hP3] at c3;simp only[<-hP4] at c4;simp only[<-hC] at c5 mq mr;clear hP1 hP2 hP3 hP4 hC;refine f0C ok D.q72 rfl ?_;conv=>whnf
 repeat' first|((first|(show CN _ _ _ _ _ _;first|((first|refine CN.f rfl (c1 _ Ab Ab Ab) (fun v h' hl hr=>?_)|refine CN.f rfl (c2 _ Ab Ab Ab) (fun v h' hl hr=>?_)|refine CN.f rfl (c3 _ Ab Ab Ab) (fun v h' hl hr=>?_)|refine CN.f rfl (c4 _ Ab Ab Ab) (fun v h' hl hr=>?_));obtain⟨n1,a1,b1,rfl,hn1⟩:=hr)|(refine CN.f rfl (c5 _ Ab Ab Ab) (fun v h' hl hr=>?_);subst hr)|refine CN.quiet rfl (aI9 _ _ _ _ _) ?_)|((first|apply oI.z|apply cI.z))|intro (_:Nat)|(show LdN _ _ _ _ _;first|refine LdN.o 0 rfl rfl ?_|refine LdN.o 1 rfl rfl ?_|refine LdN.o 2 rfl rfl ?_)|refine Sto.l 0 rfl rfl rfl ?_)<;>conv=>whnf)|(show cnd _ _ _;first|(apply aD<;>intro _<;>first|(exfalso;omega)|conv=>whnf)|(refine aA8 (fun _=>?_) (fun hne=>?_)<;>first|exact absurd rfl hne|(conv=>whnf)))
 all_goals first
  | (rw[r1 Aa];exact RN.a (VQ.out o1 Ab))
  | (rw[r2 Aa];exact RN.a (VQ.out o2 Ab))
  | (rw[r3 Aa];exact RN.a (VQ.out o3 Ab))
  | (rw[r4 Aa];exact RN.a (VQ.out o4 Ab))
  | (rw[mq Ab Aa];exact RN.a ⟨n,c,d,true,by rw[Vc.eq_true' rfl],fun _=>⟨q,rfl,Ab⟩,fun x=>by cases x⟩)
  | (rw[mq Ab Aa];exact RN.a ⟨n,c,d,true,by rw[Vc.eq_true' rfl],fun _=>⟨q,rfl,bL.mono Ab Ab⟩,fun x=>by cases x⟩)
  | (rw[mr Ab Aa];exact RN.a ⟨n',c',d',true,by rw[Vc.eq_true' rfl],fun _=>⟨r,rfl,bL.mono Ab Ab⟩,fun x=>by cases x⟩)
end Go.Proofs.Y
/- Values of variables that come in: a slice of them in memory. -/
namespace Go.Vc
open Go Go.Dig
theorem LdN.hasN{h:aA}{L:Vc.Own}{b o m:Nat}{k:Value->Prop}(vs:List Value)(hl:vs.length=m)(hv:∀(i:Nat) v,vs[i]?=some v->Has h L ⟨b,o+i,none⟩ v)(hk:k (.agg vs.toArray)):LdN h L ⟨b,o,none⟩ m k:=
 ⟨vs,hl,fun i hi=>by
   rw[aZ];exact hv i _ (by rw[aY3,aY4 Aa];rfl),hk⟩
theorem LdN.hasC{h:aA}{L:Vc.Own}{b o m:Nat}{k:Value->Prop}{x:Value}(vs:List Value)(hl:vs.length+1=m)(hx:Has h L ⟨b,o,none⟩ x)(hv:∀(i:Nat) v,vs[i]?=some v->Has h L ⟨b,o+1+i,none⟩ v)(hk:k (.agg (x::vs).toArray)):LdN h L ⟨b,o,none⟩ m k:=
 LdN.hasN (x::vs) hl (fun i v e=>by
   cases i with
   | zero=>cases e;exact hx
   | succ i=>
     rw[show o+(i+1)=o+1+i by omega]
     exact hv i v (by simpa using e)) hk
end Go.Vc
namespace Go.Proofs.Y
open Go Go.Vc Go.Dig
def uH(h:aA)(c:Array Value):Nat->List (List Nat × Option Rat)->Prop
 | _,[]=>True
 | off,(n,x)::bs=>(c[off]?=some (.string (txt n))/\(∀y∈n,y<256)/\∃ng,∃a b:Sl,(∀i v,[Value.bool ng,a.val,b.val][i]?=some v->c[off+1+i]?=some v)/\bL h ng a b x)/\uH h c (off+4) bs
structure IsV (h:aA) (s:Sl) (bs:List (List Nat × Option Rat)):Prop where
 len:s.l=bs.length
 cap:s.l<=s.c
 mem:bs=[]\/∃bl off c T fz,s.a=some ⟨bl,off,none⟩/\h bl=some (.cells c T fz)/\uH h c off bs
theorem uH.up{h h':aA}(hl:h.le h'){c:Array Value}:∀{bs:List (List Nat × Option Rat)} {off:Nat},uH h c off bs->uH h' c off bs
 | [],_,_=>trivial
 | (_,_)::_,_,⟨⟨h1,h2,ng,a,b,h4,h5⟩,r⟩=>⟨⟨h1,h2,ng,a,b,h4,h5.mono hl⟩,uH.up hl r⟩
theorem IsV.mono{h h':aA}{s:Sl}{bs:List (List Nat × Option Rat)}(w:IsV h s bs)(hl:h.le h'):IsV h' s bs:=
 ⟨w.len,w.cap,w.mem.elim .inl fun ⟨bl,off,c,T,fz,k1,k2,k3⟩=>.inr ⟨bl,off,c,T,fz,k1,hl _ _ k2,uH.up hl k3⟩⟩
theorem uH.get{h:aA}{c:Array Value}:∀{bs:List (List Nat × Option Rat)} {off j:Nat} {n:List Nat} {x:Option Rat},uH h c off bs->bs[j]?=some (n,x)->
  c[off+j*4]?=some (.string (txt n))/\(∀y∈n,y<256)/\∃ng,∃a b:Sl,(∀i v,[Value.bool ng,a.val,b.val][i]?=some v->c[off+j*4+1+i]?=some v)/\bL h ng a b x
 | [],_,_,_,_,_,e=>by simp at e
 | (n',t')::bs,off,0,n,t,w,e=>by
  simp at e;obtain⟨rfl,rfl⟩:=e;rw[bAs,bAg];exact w.1
 | (n',t')::bs,off,j+1,n,t,w,e=>by
  have:=uH.get (j:=j) w.2 (by simpa using e);rw[show off+4+j*4=off+(j+1)*4 by omega] at this
  exact this
theorem IsV.bytes{h:aA}{s:Sl}{bs:List (List Nat × Option Rat)}(w:IsV h s bs){j:Nat}{n:List Nat}{x:Option Rat}(hj:bs[j]?=some (n,x)):∀y∈n,y<256:=by
 rcases w.mem with e|⟨bl,off,c,T,fz,e1,e2,e3⟩
 .subst e;simp at hj
 .exact (uH.get e3 hj).2.1
theorem Idx.valu{h:aA}{s:Sl}{bs:List (List Nat × Option Rat)}(w:IsV h s bs){i:Int}{k:Addr->Prop}(j:Nat)(n:List Nat)(x:Option Rat)(hi:i=j)(ht:bs[j]?=some (n,x))
  (hk:∀(bl off:Nat) (ng:Bool) (a b:Sl),(∀y∈n,y<256)->bL h ng a b x->
    (∀h' L,h.le h'->Has h' L ⟨bl,off,none⟩ (.string (txt n)))->(∀h' L (i:Nat) v,h.le h'->[Value.bool ng,a.val,b.val][i]?=some v->Has h' L ⟨bl,off+1+i,none⟩ v)->k ⟨bl,off,none⟩):Idx s.a i s.l 4 k:=by
 obtain⟨hj,-⟩:=aY5.1 ht;rcases w.mem with e|⟨bl,off,c,T,fz,e1,e2,e3⟩
 .subst e;simp at ht
 .obtain⟨g1,g2,ng,a,b,h2,h3⟩:=uH.get e3 ht;refine Idx.of j e1 hi (by rw[w.len];exact hj) ?_;exact hk bl (off+j*4) ng a b g2 h3 (fun h' L hl=>Has.imm (hl _ _ e2) g1) fun h' L i v hl hv=>Has.imm (hl _ _ e2) (h2 i v hv)
def iO(bs:List (List Nat × Option Rat)):List (List Nat × Rat):=bs.map fun b=>(b.1,b.2.getD 0)
def oM(bs:List (List Nat × Option Rat)):Prop:=∀b∈bs,b.2.isSome=true
instance (bs:List (List Nat × Option Rat)):Decidable (oM bs):=by unfold oM;exact inferInstance
def vB(bs:List (List Nat × Option Rat))(t:Tr):Rat × Bool × Int:=
 if ¬aS t then (0,false,40) else if ¬gM bs then (0,false,41) else if ¬oM bs then (0,false,1) else match fM (iO bs) t with
  | none=>(0,false,0)
  | some q=>(q,true,0)
theorem aLx{bs:List (List Nat × Option Rat)}{t:Tr}(h:¬aS t):vB bs t=(0,false,40):=if_pos h
theorem aLy{bs:List (List Nat × Option Rat)}{t:Tr}(h:aS t)(n:¬gM bs):vB bs t=(0,false,41):=(if_neg fun x=>x h).trans (if_pos n)
theorem aLz{bs:List (List Nat × Option Rat)}{t:Tr}(h:aS t)(n:gM bs)(s:¬oM bs):vB bs t=(0,false,1):=(if_neg fun x=>x h).trans ((if_neg fun x=>x n).trans (if_pos s))
theorem aL0{bs:List (List Nat × Option Rat)}{t:Tr}(h:aS t)(n:gM bs)(s:oM bs)(v:fM (iO bs) t=none):vB bs t=(0,false,0):=
 (if_neg fun x=>x h).trans ((if_neg fun x=>x n).trans ((if_neg fun x=>x s).trans (by rw[v])))
theorem aL1{bs:List (List Nat × Option Rat)}{t:Tr}(h:aS t)(n:gM bs)(s:oM bs){q:Rat}(v:fM (iO bs) t=some q):vB bs t=(q,true,0):=
 (if_neg fun x=>x h).trans ((if_neg fun x=>x n).trans ((if_neg fun x=>x s).trans (by rw[v])))
theorem aQu:oM []:=fun _ h=>by cases h
theorem uI{ps:List (List Nat × Option Rat)}{b:List Nat × Option Rat}:oM (ps++[b])↔oM ps/\b.2.isSome=true:=by
 unfold oM;simp only[aZb,aZg];exact⟨fun h=>⟨fun x hx=>h x (.inl hx),h b (.inr rfl)⟩,fun h x hx=>hx.elim (h.1 x) fun e=>e▸h.2⟩
theorem aFg(ps:List (List Nat × Option Rat))(n:List Nat)(x:Option Rat):iO (ps++[(n,x)])=iO ps++[(n,x.getD 0)]:=by
 unfold iO;rw[aZh];rfl
theorem tE(ps:List (List Nat × Option Rat)):(iO ps).map (·.1)=ps.map (·.1):=by
 unfold iO;rw[bCr];rfl
theorem aUq{q:Rat}(h:fits q):Sr 128 q:=⟨((aF9 q).1 h).1,((aF9 q).1 h).2⟩
theorem aWu{q r:Rat}(hq:Sr 128 q)(hr:Sr 128 r)(h0:nu r≠0):Sr 256 (q / r):=by
 rw[bDj];exact aM5 hq (aU7 hr h0)
end Go.Proofs.Y
/- One kid turned, on both sides; nodes made. -/
namespace Go.Vc
open Go Go.Dig
end Go.Vc
namespace Go.Proofs.Y
open Go Go.Vc Go.Dig
theorem aJa(op arg:Int)(neg:Bool)(l m name:List Nat)(ks:List Tr)(i:Nat)(hi:i<ks.length)(hks:ks.length<=3)(t:Tr)(h:aA)(vs us:List Value)(w:IsE h vs (.mk op arg neg l m name ks))(w':IsE h us t):
  Fn0 T F.q60 [.agg vs.toArray,.int .i64 i,.agg us.toArray] h fun v h'=>VE h' v (.mk op arg neg l m name (ks.set i t)):=by
 obtain⟨a,b,s,rfl,ho,ha,hv,hb,hk⟩:=w.isK;obtain⟨⟨op1,arg1,neg1,l1,m1,name1,ks1⟩,hu⟩:=AE t;obtain⟨a1,b1,s1,hus,-⟩:=(hu.symm▸w':IsE h us (.mk op1 arg1 neg1 l1 m1 name1 ks1)).isK;subst hus;have hkl:=hk.len;refine f0C ok D.q60 rfl ?_;conv=>whnf
 repeat' ((first|(show App _ _ _ _ _ _ _ _ _;(refine App.kids (A:=[]) (F:=[_]) (z:=[.int .i64 0,.int .i64 0,.bool false,.slice none 0 0,.slice none 0 0,.string (txt []),.slice none 0 0]) rfl rfl aE.mk0 hk (aA.lr _) Aa (fun v' F' ys g0 k0=>?_);obtain⟨bb,cap,rfl⟩:=g0.pos Aa))|(show Idx _ _ _ _ _;refine Idx.of i rfl rfl Aa ?_)|(show LdN _ _ _ _ _;first|refine LdN.tl (A:=F') (F:=[_]) rfl ?_|refine LdN.tl (A:=F2) (F:=[_,_]) rfl ?_|refine LdN.tl (A:=[]) (F:=F2) rfl ?_)|(show Sto _ _ _ _;first|refine Sto.grow (A:=[]) g0 rfl rfl rfl i Aa (fun F2 g2=>?_)|refine Sto.tl (A:=F2) (X:=[_,_]) rfl rfl ?_|refine Sto.tl (A:=[]) (X:=F2) rfl rfl ?_)|(show Ld _ _ _ _;refine Ld.tl (A:=[]) (F:=[_,_,_]) rfl ?_)|((first|apply oI.z|apply cI.z))|intro (_:Nat))<;>conv=>whnf)
 have k2:=KC.turn w' rfl (i:=i) k0 hi;refine RN.rowA (X:=F2) g2 k2 (by rw[bBf];omega) fun h'' s' hl hs hk'=>?_
 rw[hs];exact⟨op,arg,neg,a,b,name,s',rfl,IsE.mkK ho ha (hv.mono hl) hb hk'⟩
theorem gV(op arg:Int)(ho:-9223372036854775808<=op/\op<=9223372036854775807)(ha:-9223372036854775808<=arg/\arg<=9223372036854775807)(ks:List Tr)(s:Sl)(h:aA)(hk:IsK h s ks):Fn0 T F.q57 [.int .i64 op,.int .i64 arg,s.val] h fun v h'=>VE h' v (aH op arg ks):=by
 refine f0C ok D.q57 rfl ?_;conv=>whnf
 repeat' ((first|((first|apply oI.z|apply cI.z))|intro (_:Nat)|refine LdN.o 0 rfl rfl ?_|refine Sto.l 0 rfl rfl rfl ?_)<;>conv=>whnf)
 exact RN.a (VE.node ho ha hk)
def aHa:Option Rat->Tr × Nat
 | some q=>(mkL q,0)
 | none=>(aL,1)
theorem VE.numQ{h:aA}{c d:Sl}{p:Rat}(hf:fits p)(w:fI h c d p):IsE h [.int .i64 1,.int .i64 0,.bool (sg p),c.val,d.val,.string (txt []),.slice none 0 0] (numQ p):=
 IsE.mkK (s:=⟨none,0,0⟩) Ag Ag (qL w (gZ hf)) (fun _ x=>by cases x) (IsK.nil _)
theorem aL2(q:Rat):fits (eA q).1:=(Fok.out q).ft
def aL3(h:aA)(v:Value)(q:Rat):Prop:=∃a tt b,v=.tuple #[a,.bool b]/\VE h a tt/\(b=true->fits q/\tt=mkL q)/\(b=false->¬fits q)
theorem aT8{q:Rat}:(sg q=true->q<0/\gP q=-q)/\(sg q=false->¬q<0/\gP q=q):=by
 unfold sg;constructor
 .intro h;have h:=of_decide_eq_true h;have h1:q<0:=by
   rcases Classical.em (q<0) with x|x
   .exact x
   .have:=Rat.num_nonneg.2 (Rat.not_lt.1 x);omega
  exact⟨h1,aPt (Rat.not_le.2 h1)⟩
 .intro h;have h:=of_decide_eq_false h;have h1:0<=q:=Rat.num_nonneg.1 Aa;exact⟨Rat.not_lt.2 h1,aEz h1⟩
theorem aFh{q:Rat}:fits (gP q)↔fits q:=by unfold fits;rw[xB,sC]
theorem aT9{q:Rat}:(sg q=true->mkL q=aH 4 0 [numQ (gP q)])/\(sg q=false->mkL q=numQ (gP q)):=by
 obtain⟨h1,h2⟩:=aT8 (q:=q);unfold mkL;exact⟨fun x=>by rw[if_pos (h1 x).1,(h1 x).2],fun x=>by rw[if_neg (h2 x).1,(h2 x).2]⟩
theorem yL(h:aA)(a b:Sl)(q:Rat)(w:bV h a b q)(z:Sz 1073741824 q):Fn0 T F.q74 [.agg #[.bool (sg q),a.val,b.val]] h fun v h'=>aL3 h' v q:=by
 have w':bV h a b (gP q):=⟨by rw[xB];exact w.num,by rw[sC];exact w.den⟩
 have c1:=fun h w=>iJ h a b (gP q) w ⟨by rw[xB];exact z.num,by rw[sC];exact z.den⟩
 rw[aM6] at c1;have hf:=aL2 (gP q);have e1:(eA (gP q)).2=0->fits q/\(eA (gP q)).1=gP q:=fun x=>by
  unfold eA at x ⊢
  split at x
  .rename_i y;rw[if_pos y];exact⟨aFh.1 y,rfl⟩
  .cases x
 have e2:(eA (gP q)).2≠0->¬fits q:=fun x y=>x (by unfold eA;rw[if_pos (aFh.2 y)])
 obtain⟨l1,l2⟩:=aT9 (q:=q);obtain⟨S,hS⟩:=AE (sg q);obtain⟨P,hP⟩:=AE (eA (gP q));obtain⟨P1,P2⟩:=P;rw[<-hS] at l1 l2 ⊢;simp only[<-hP] at c1 hf e1 e2;replace c1:∀h,bV h a b (gP q)->Fn0 T F.q30 [.agg #[.bool false,a.val,b.val]] h fun v h'=>∃c d:Sl,v=.tuple #[.agg #[.bool (sg P1),c.val,d.val],.int .i64 P2]/\fI h' c d P1:=c1
 have fin:∀h (v:Value) (t:Tr),(S=true->t=aH 4 0 [numQ P1])->(S=false->t=numQ P1)->VE h v t->aL3 h (.tuple #[v,.bool (eq P2 0)]) q:=fun h v t s1 s2 ve=>by
  refine⟨v,t,_,rfl,ve,fun x=>?_,fun x=>e2 fun y=>?_⟩
  .have y:P2=0:=by
    by_cases y:P2=0
    .exact y
    .rw[jE,aG y] at x;cases x
   obtain⟨y1,y2⟩:=e1 y;refine⟨y1,?_⟩;have y2:P1=gP q:=y2;cases S with
   | true=>rw[s1 rfl,l1 rfl,y2]
   | false=>rw[s2 rfl,l2 rfl,y2]
  .rw[jE,aW y] at x;cases x
 have hf:fits P1:=hf;clear e1 e2 l1 l2 hS hP w z;refine f0C ok D.q74 rfl ?_;cases S
 .conv=>whnf
  repeat' ((first|(apply aO.go)|(show CN _ _ _ _ _ _;(refine CN.f rfl (c1 _ Ab) (fun v h' hl2 hr=>?_);obtain⟨c,d,rfl,hq⟩:=hr))|((first|apply oI.z|apply cI.z))|intro (_:Nat)|(show LdN _ _ _ _ _;first|refine LdN.o 0 rfl rfl ?_|refine LdN.o 1 rfl rfl ?_|refine LdN.o 2 rfl rfl ?_)|refine Ld.o 1 rfl rfl ?_|(show Sto _ _ _ _;first|refine Sto.l 0 rfl rfl rfl ?_|refine Sto.l 1 rfl rfl rfl ?_|refine Sto.l 2 rfl rfl rfl ?_))<;>conv=>whnf)
  all_goals exact RN.a (fin _ _ (numQ P1) (fun x=>by cases x) (fun _=>rfl) ⟨1,0,_,c,d,[],⟨none,0,0⟩,rfl,VE.numQ hf Ab⟩)
 .conv=>whnf
  repeat' ((first|(apply aO.go)|(show CN _ _ _ _ _ _;first|(refine CN.f rfl (c1 _ Ab) (fun v h' hl2 hr=>?_);obtain⟨c,d,rfl,hq⟩:=hr;have hE:=VE.numQ hf hq)|(refine CN.keep 0 rfl rfl (fun hl2=>?_);refine CN.f rfl (gV 4 0 Ag Ag [numQ P1] ⟨some ⟨_,0,none⟩,1,1⟩ _ (IsK.one (hE.mono Ad) rfl hl2)) (fun v h3 hl3 hr=>?_);obtain⟨op9,ar9,ng9,nn9,dd9,nm9,ss9,rfl,hE9⟩:=hr))|((first|apply oI.z|apply cI.z))|intro (_:Nat)|(show LdN _ _ _ _ _;first|refine LdN.o 0 rfl rfl ?_|refine LdN.o 1 rfl rfl ?_|refine LdN.o 2 rfl rfl ?_)|refine Ld.o 1 rfl rfl ?_|(show Sto _ _ _ _;first|refine Sto.l 0 rfl rfl rfl ?_|refine Sto.l 1 rfl rfl rfl ?_|refine Sto.l 2 rfl rfl rfl ?_))<;>conv=>whnf)
  all_goals exact RN.a (fin _ _ _ (fun _=>rfl) (fun x=>by cases x) ⟨op9,ar9,ng9,nn9,dd9,nm9,ss9,rfl,hE9⟩)
theorem aHb(h:aA)(tb:Tb h)(n:Bool)(a b:Sl)(x:Option Rat)(w:bL h n a b x):Fn0 T F.q37 [.agg #[.bool n,a.val,b.val]] h fun v h'=>aKe h' v (aHa x):=by
 obtain⟨l,m,v,rfl⟩:=w.ex;have c1:=fun h tb v=>fE h tb n a b l m v
 have k0:¬okR n l m->aHa (gT n l m)=(aL,1):=fun x=>by unfold gT;rw[if_neg x];rfl
 have k1:okR n l m->aHa (gT n l m)=(mkL (aK n l m),0):=fun x=>by unfold gT;rw[if_pos x];rfl
 have k2:okR n l m->fits (aK n l m):=fun x=>x.2.2
 have c2:=fun h s t w (x:okR n l m)=>yL h s t (aK n l m) w (gZ (k2 x))
 obtain⟨R,hR⟩:=AE (aHa (gT n l m));obtain⟨q,hq⟩:=AE (aK n l m);rw[<-hR] at k0 k1 ⊢;rw[<-hq] at k1 k2;simp only[<-hq] at c1 c2;clear hR;refine f0C ok D.q37 rfl ?_;conv=>whnf
 repeat' first|((first|(show CN _ _ _ _ _ _;first|(refine CN.f rfl (c1 _ Ab Ab) (fun v h' hl2 hr=>?_);obtain⟨s,c,d,rfl,hr2⟩:=hr)|(obtain⟨rfl,hq2⟩:=hr2 Ab;refine CN.f rfl (c2 _ _ _ hq2 Ab) (fun v h' hl2 hr=>?_);obtain⟨_,tt,bb,rfl,⟨op9,ar9,ng9,nn9,dd9,nm9,ss9,rfl,hE9⟩,t1,t2⟩:=hr))|((first|apply oI.z|apply cI.z))|intro (_:Nat)|(show LdN _ _ _ _ _;first|refine LdN.o 0 rfl rfl ?_|refine LdN.o 1 rfl rfl ?_|refine LdN.o 2 rfl rfl ?_)|(show Sto _ _ _ _;first|refine Sto.l 0 rfl rfl rfl ?_|refine Sto.l 1 rfl rfl rfl ?_|refine Sto.l 2 rfl rfl rfl ?_))<;>conv=>whnf)|(show cnd _ _ _;first|(refine aI ?_)|(apply aN<;>intro _<;>first|(exfalso;omega)|conv=>whnf))
 all_goals first
  | (rw[k0 Ab];exact RN.a ⟨_,rfl,VE.zero _⟩)
  | (have hk:okR n l m:=Ab
     rw[k1 hk];have e:tt=mkL q:=by
       cases bb with
       | true=>exact (t1 rfl).2
       | false=>exact absurd (k2 hk) (t2 rfl)
     subst e;exact RN.a ⟨_,rfl,op9,ar9,ng9,nn9,dd9,nm9,ss9,rfl,hE9⟩)
end Go.Proofs.Y