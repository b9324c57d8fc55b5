/- Numbers that a value denotes, with none for a large one: contracts for laws that chain operations; whether two values of any kind are equal. -/
import Derived.Test.YtdccpmlhflpeaaaGreatDoorL4
import Derived.Test.YtdccpmlhflpeaaaGreatDoorVcMeet
import Derived.Laws.IdiomStrings
set_option linter.all false
set_option maxHeartbeats 1000000
set_option maxRecDepth 20000
namespace Go.Dig
end Go.Dig
namespace Go.Proofs.Y
open Go Go.Vc Go.Dig

def jS(n:Bool)(l m:List Nat):Option Rat:=if okR n l m then some (aN n l m) else none
structure cR (h:aA) (n:Bool) (a b:Sl) (x:Option Rat):Prop where
 ex:∃l m,bJ h a b l m/\x=jS n l m
theorem cR.mono{h h':aA}{n:Bool}{a b:Sl}{x:Option Rat}(w:cR h n a b x)(hl:h.le h'):cR h' n a b x:=by
 obtain⟨l,m,v,e⟩:=w.ex;exact⟨l,m,v.mono hl,e⟩
theorem bJ.num'{h:aA}{n:Bool}{a b:Sl}{l m:List Nat}(v:bJ h a b l m):cR h n a b (jS n l m):=⟨l,m,v,rfl⟩
structure Fok (p:Rat × Int):Prop where
 ft:fits p.1
 err:p.2≠0->p.1=0
theorem iD{q:Rat}(h:fits q):Sz 1073741824 q:=⟨bDv h.1 Ad,bDv h.2 Ad⟩
theorem Fok.sz{p:Rat × Int}(k:Fok p):Sz 1073741824 p.1:=iD k.ft
theorem eV:fits 0:=by
 have h:=aU6 0;exact⟨bDv h.num Ad,bDv h.den Ad⟩
theorem Fok.err1(e:Int):Fok (0,e):=⟨eV,fun _=>rfl⟩
theorem Fok.out(q:Rat):Fok (fH q):=by
 unfold fH
 split
 .rename_i h;exact⟨h,fun x=>absurd rfl x⟩
 .exact Fok.err1 1
theorem fP.isnum{h:aA}{a b:Sl}{q:Rat}(w:fP h a b q)(hf:fits q):cR h (sg q) a b (some q):=
 ⟨_,_,mD w (iD hf),by unfold jS;rw[if_pos (aIu hf),jF]⟩

def opR(op:Rat->Rat->Rat):Option Rat->Option Rat->Rat × Int
 | some x,some y=>fH (op x y)
 | _,_=>(0,1)
theorem rY(op:Rat->Rat->Rat)(n1:Bool)(l1 m1:List Nat)(n2:Bool)(l2 m2:List Nat):uE op n1 l1 m1 n2 l2 m2=opR op (jS n1 l1 m1) (jS n2 l2 m2):=by
 unfold uE jS;by_cases h1:okR n1 l1 m1<;>by_cases h2:okR n2 l2 m2<;>simp[h1,h2,opR]
theorem Fok.opR(op:Rat->Rat->Rat)(x y:Option Rat):Fok (opR op x y):=by
 cases x<;>cases y<;>first|exact Fok.out _|exact Fok.err1 1
def aNa(h:aA)(v:Value)(p:Rat × Int):Prop:=∃a b:Sl,v=.tuple #[.agg #[.bool (sg p.1),a.val,b.val],.int .i64 p.2]/\fP h a b p.1/\cR h (sg p.1) a b (some p.1)
theorem Res.isn{h:aA}{v:Value}{p:Rat × Int}(r:Res h v p)(k:Fok p):aNa h v p:=by
 obtain⟨a,b,e,w⟩:=r;exact⟨a,b,e,w,w.isnum k.ft⟩
theorem bCo(h:aA)(n1:Bool)(a1 b1:Sl)(n2:Bool)(a2 b2:Sl)(x y:Option Rat)(tb:Tb h)(hx:cR h n1 a1 b1 x)(hy:cR h n2 a2 b2 y):
  Fn0 T F.q114 [.agg #[.bool n1,a1.val,b1.val],.agg #[.bool n2,a2.val,b2.val]] h fun v h'=>aNa h' v (opR (·+·) x y):=by
 obtain⟨l1,m1,v1,rfl⟩:=hx.ex;obtain⟨l2,m2,v2,rfl⟩:=hy.ex;rw[<-rY];exact (aU0 h n1 a1 b1 l1 m1 n2 a2 b2 l2 m2 tb v1 v2).mono fun v h' _ r=>r.isn (by rw[rY];exact Fok.opR _ _ _)
theorem bCp(h:aA)(n1:Bool)(a1 b1:Sl)(n2:Bool)(a2 b2:Sl)(x y:Option Rat)(tb:Tb h)(hx:cR h n1 a1 b1 x)(hy:cR h n2 a2 b2 y):
  Fn0 T F.q115 [.agg #[.bool n1,a1.val,b1.val],.agg #[.bool n2,a2.val,b2.val]] h fun v h'=>aNa h' v (opR (· - ·) x y):=by
 obtain⟨l1,m1,v1,rfl⟩:=hx.ex;obtain⟨l2,m2,v2,rfl⟩:=hy.ex;rw[<-rY];exact (aU1 h n1 a1 b1 l1 m1 n2 a2 b2 l2 m2 tb v1 v2).mono fun v h' _ r=>r.isn (by rw[rY];exact Fok.opR _ _ _)
theorem bCq(h:aA)(n1:Bool)(a1 b1:Sl)(n2:Bool)(a2 b2:Sl)(x y:Option Rat)(tb:Tb h)(hx:cR h n1 a1 b1 x)(hy:cR h n2 a2 b2 y):
  Fn0 T F.q116 [.agg #[.bool n1,a1.val,b1.val],.agg #[.bool n2,a2.val,b2.val]] h fun v h'=>aNa h' v (opR (·*·) x y):=by
 obtain⟨l1,m1,v1,rfl⟩:=hx.ex;obtain⟨l2,m2,v2,rfl⟩:=hy.ex;rw[<-rY];exact (aU7 h tb n1 a1 b1 l1 m1 n2 a2 b2 l2 m2 v1 v2).mono fun v h' _ r=>r.isn (by rw[rY];exact Fok.opR _ _ _)
end Go.Proofs.Y
/- Texts: bytes put together to a string; a row of bytes turned round; the decimal digits of a number. -/
namespace Go.Vc
open Go
def txt(l:List Nat):ByteArray:=⟨(l.map UInt8.ofNat).toArray⟩
theorem Ext.text{T:Tab}{h:aA}{L:Own}{k:Value->aA->Own->Prop}{s d e:TypeId}{x:Operand}{v:Value}{n:Nat}{xs:List Nat}
  (hs:T.und s=some (.slice e)) (he:T.und e=some (.int .u8)) (hd:T.und d=some .string) (g:aE e 1 v n (xs.map (vu .u8)) L) (hb:∀y∈xs,y<256) (hne:xs≠[]) (hk:k (.string (txt xs)) h L):
  Ext T (.convert s d x) [x] [v] h L k:=by
 obtain⟨g1,⟨rfl,rfl⟩|⟨i,b,cap,zs,rfl,h2,h3,-⟩⟩:=g
 .exact absurd (bDn (by simpa using g1)) hne
 .refine⟨fun ok o ρ K Q w0 h0 L0 w hop hargs inv hout _ hK=>.inl ?_⟩
  have hn:n=(xs.map UInt8.ofNat).length:=by simpa using g1.symm
  simp only[bEe,bFd,List.cons.injEq,and_true] at hargs;have hrun:=run_convert_bytes_back (P:=T.prog) w s d e ⟨b,0,none⟩ cap (xs.map UInt8.ofNat) (ok.und _ _ hs) (ok.und _ _ he) (ok.und _ _ hd) (fun j hj=>by
    have hj':j<xs.length:=by simpa using hj
    have hc:Has h L ((⟨b,0,none⟩:Addr).add j) (.int .u8 ((xs.getD j 0:Nat):Int)):=by
      rw[bB,bDu];refine Has.own i h2 ?_;simp[hj',vu,bDi,bC7]
    rw[inv.toSat.cell hc];have hlt:xs[j]<256:=hb _ (bFe hj');simp[hj',bC7,bEl hlt])
  refine aX (w':=w) (v:=.string (txt xs)) ?_ (hK _ _ _ _ inv hk);rw[<-hn] at hrun;simp only[execOp,hop,bEg,hargs,hrun]
  rfl
end Go.Vc
namespace Go.Proofs.Y
open Go Go.Vc Go.Dig

theorem Ld.rz{h:aA}{L:Own}{b i:Nat}{k:Value->Prop}{kd:IntKind}{T:TypeId}{u:List Nat}{zs:List Value}(n:Nat)(hb:L[n]?=some (b,qU kd T u zs))(ho:i<u.length)(hk:k (.int kd ((u.getD i 0:Nat):Int))):Ld h L ⟨b,i,none⟩ k:=
 Ld.o n hb (by simp[ho,vu,bDi,bC7]) hk
theorem Sto.rz{L:Own}{b i:Nat}{kd:IntKind}{T:TypeId}{u:List Nat}{zs:List Value}{v:Int}{k:Own->Prop}(n:Nat)(hb:L[n]?=some (b,qU kd T u zs))(x:Nat)(hx:v=x)(hl:i<u.length)
  (hk:vL (b,qU kd T (u.set i x) zs) L n k):Sto L ⟨b,i,none⟩ [.int kd v] k:=by
 subst hx;refine Sto.sym n hb Aq rfl ?_;have:(u.map (vu kd)++zs).set i (.int kd x)=(u.set i x).map (vu kd)++zs:=by
  rw[bHc _ _ (by simpa using hl),List.map_set];rfl
 rw[this];exact hk
theorem aBy(l:List Nat)(a x i:Nat):(l.set a x).getD i 0=if a=i/\a<l.length then x else l.getD i 0:=by
 rw[bC7,bHa,bC7];by_cases h1:a=i
 .subst h1;by_cases h2:a<l.length
  .simp[h2]
  .rw[if_pos rfl,if_neg h2,if_neg (fun hh=>h2 hh.2),bD5 Aa]
 .rw[if_neg h1,if_neg (fun hh=>h1 hh.1)]

theorem aIw(h:aA)(b cap:Nat)(xs:List Nat)(zs:List Value)(hn:xs.length<=1099511627776):
  Vc.Fn T F.q206 [.slice (some ⟨b,0,none⟩) xs.length cap] h [(b,qU .u8 Ty.uint8 xs zs)] fun v h' L'=>L'=[(b,qU .u8 Ty.uint8 xs.reverse zs)]:=by
 obtain⟨n,hnn⟩:=AB xs.length;rw[<-hnn] at hn;rw[<-hnn];refine f1C ok D.q206 rfl ?_;conv=>whnf
 repeat' ((first|((first|apply oI.z|apply cI.z))|refine WN.i64 Aa Aa ?_)<;>conv=>whnf)
 refine LpN.of (fun r ρ h' L=>∃(k:Nat) (ys:List Nat),r=n-k/\L=[(b,qU .u8 Ty.uint8 ys zs)]/\rd ρ 2=.int .i64 k/\rd ρ 3=.int .i64 ((n:Int)-1-k)/\2*k<=n/\ys.length=n/\Hq (∀i,i<n->ys.getD i 0=if i<k\/n-1-i<k then xs.getD (n-1-i) 0 else xs.getD i 0)) n
  ⟨0,xs,rfl,rfl,rfl,vi Aa,Aa,hnn.symm,⟨fun i hi=>by rw[if_neg Aa]⟩⟩ ?_
 conv=>whnf
 repeat intro _
 rename_i r h1 L1 hI;obtain⟨k,ys,rfl,rfl,e0,e1,hk,hy,hE⟩:=hI;conv at e0=>lhs;whnf
 subst e0;conv at e1=>lhs;whnf
 subst e1;obtain⟨J,hJ⟩:∃J:Nat,J=n-1-k:=⟨_,rfl⟩
 conv=>whnf
 repeat' ((first|(show WN _ _ _;refine WN.i64 Aa Aa ?_)|(show Idx _ _ _ _ _;first|refine Idx.own k Aa Aa ?_|refine Idx.own J Aa Aa ?_)|(show Ld _ _ _ _;(refine Ld.rz 0 rfl (by first|omega|(simp only[bFu];omega)) ?_))|(show Sto _ _ _ _;(refine Sto.rz 0 rfl _ rfl (by first|omega|(simp only[bFu];omega)) ?_))|((first|apply oI.z|apply cI.z))|refine⟨fun hst=>(by cases (show true=false from hst)),?_⟩|refine DrN.run Al ?_|(apply aB<;>intro _<;>try (exfalso;omega)))<;>conv=>whnf)
 .refine⟨rfl,n-(k+1),Aa,k+1,(ys.set k (ys.getD J 0)).set J (ys.getD k 0),rfl,rfl,vi Aa,vi Aa,Aa,by simp[hy],⟨fun i hi=>?_⟩⟩
  have e1:=hE.out k Aa;have e2:=hE.out J Aa;rw[if_neg Aa] at e1 e2;rw[aBy,aBy,e1,e2,hE.out i hi];simp only[bFu];by_cases c1:J=i
  .subst c1;rw[if_pos ⟨rfl,Aa⟩,if_pos Aa]
   (congr 1<;>omega)
  .rw[if_neg Aa];by_cases c2:k=i
   .subst c2;rw[if_pos ⟨rfl,Aa⟩,if_pos Aa]
    (congr 1<;>omega)
   .rw[if_neg Aa];by_cases c3:i<k\/n-1-i<k
    .rw[if_pos c3,if_pos Aa]
    .rw[if_neg c3,if_neg Aa]
 .refine RN.done ?_;have:ys=xs.reverse:=by
   apply bG0 (by simp[hy,hnn])
   intro i a1 a2;have e:=hE.out i Aa;have e3:(if i<k\/n-1-i<k then xs.getD (n-1-i) 0 else xs.getD i 0)=xs.getD (n-1-i) 0:=by
    split
    .rfl
    ·(congr 1<;>omega)
   rw[e3,bC7,bC7,bC8 a1,bC8 Aa] at e;simp only[Option.getD_some] at e;rw[e,List.getElem_reverse];simp only[hnn]
  rw[this]

def aY(n:Nat):List Nat:=if n=0 then [48] else ((dg 10 n).map (48+·)).reverse
theorem fI:2<=10:=Ad
theorem aKx(n:Nat):∀y∈(dg 10 n).map (48+·),y<256:=fun y hy=>by
 obtain⟨x,hx,rfl⟩:=List.mem_map.1 hy;have:=kN fI n x hx;omega
theorem zF(h:aA)(a:Sl)(n:Nat)(ha:aI h a n)(la:ln 4294967296 n<=65536)(lb:ln 10 n<=1048576):Fn0 T F.q178 [a.val] h fun v _=>v=.string (txt (aY n)):=by
 refine f0C ok D.q178 rfl ?_;conv=>whnf
 repeat ((first|apply oI.z|apply cI.z);conv=>whnf)
 skip
 refine LpN.of (fun r ρ h' L=>∃(a:Sl) (v:Value) (xs:List Nat),h.le h'/\rd ρ 0=a.val/\aI h' a r/\rd ρ 3=v/\aE Ty.uint8 1 v xs.length (xs.map (vu .u8)) L/\ln 4294967296 r<=65536/\Hq (xs++(dg 10 r).map (48+·)=(dg 10 n).map (48+·))) n
  ⟨a,_,[],aA.lr _,rfl,ha,rfl,aE.none,la,⟨rfl⟩⟩ ?_
 conv=>whnf
 repeat intro _
 rename_i r h1 L1 hI;obtain⟨a,v,xs,hle,e0,ha,e1,g,hlr,hx⟩:=hI;conv at e0=>lhs;whnf
 subst e0;conv at e1=>lhs;whnf
 subst e1;have hlen:=congrArg List.length hx.out;rw[bC6,bDt,bDt] at hlen;have hl10:(dg 10 n).length<=1048576:=lb;by_cases h0:r=0
 .subst h0;have hx0:=hx.out;rw[cM,bFd,bDg] at hx0;have hn0:xs=[]->n=0:=fun e=>by
   rw[e] at hx0;by_cases hn:n=0
   .exact hn
   .rw[gT fI hn] at hx0;cases hx0
  have hd:xs≠[]->xs.reverse=aY n:=fun e=>by
   unfold aY;rw[if_neg (fun hn=>e (by rw[hx0,hn,cM];rfl)),hx0]
  have hz:n=0->aY n=[48]:=fun e=>if_pos e
  have hb8:∀y∈xs.reverse,y<256:=fun y hy=>aKx n y (by rw[<-hx0];simpa using hy)
  obtain⟨g1,⟨rfl,g2⟩|⟨i,b,cap,zs,rfl,g2,g3,g4⟩⟩:=g
  .conv=>whnf
   repeat' first|((first|(show CN _ _ _ _ _ _;refine CN.quiet rfl (jE _ _ _ Ab Aa) ?_)|((first|apply oI.z|apply cI.z)))<;>conv=>whnf)|(show cnd _ _ _;first|(apply aD<;>intro _<;>first|(exfalso;omega)|conv=>whnf)|(refine aJ ?_)|(apply aW<;>intro _<;>first|(exfalso;omega)|conv=>whnf))
   exact RN.a (by rw[hz (hn0 (bDn g2))];rfl)
  .have hne:xs.length≠0->xs≠[]:=fun a b=>a (by rw[b];rfl)
   have he:xs.length=0->xs=[]:=bDn;conv=>whnf
   repeat' first|((first|(show CN _ _ _ _ _ _;refine CN.quiet rfl (jE _ _ _ Ab Aa) ?_)|((first|apply oI.z|apply cI.z)))<;>conv=>whnf)|(show cnd _ _ _;first|(apply aD<;>intro _<;>first|(exfalso;omega)|conv=>whnf)|(refine aJ ?_)|(apply aW<;>intro _<;>first|(exfalso;omega)|conv=>whnf))
   .exact RN.a (by rw[hz (hn0 (he Aa))];rfl)
   .have hL:i<L1.length:=(bC9.1 g2).1;refine CN.own i g2 rfl (aIw _ b cap xs zs Aa) (fun v h' La hl hr=>?_)
    refine⟨_,hr,?_⟩;conv=>whnf
    repeat ((first|apply oI.z|apply cI.z);conv=>whnf)
    refine Ext.text (n:=xs.length) (xs:=xs.reverse) rfl rfl rfl ⟨by simp,.inr ⟨i,b,cap,zs,rfl,by rw[bEy hL],g3,by simpa using g4⟩⟩ hb8 (by simpa using hne Aa) ?_
    conv=>whnf
    repeat ((first|apply oI.z|apply cI.z);conv=>whnf)
    skip
    exact RN.a (by rw[hd (hne Aa)])
 .obtain⟨R0,hR0⟩:=AB (r%1000000000);obtain⟨Q0,hQ0⟩:=AB (r / 1000000000);have hq1:ln 4294967296 Q0<=65536:=by rw[hQ0];exact bDv (aIk r _) hlr
  conv=>whnf
  repeat' first|((first|(show CN _ _ _ _ _ _;first|refine CN.quiet rfl (jE _ _ _ Ab Aa) ?_|(refine CN.f rfl (wS _ _ r 1000000000 Ab Aa Ad Ad) (fun v h2 hl2 hr=>?_);rw[<-hR0,<-hQ0] at hr;obtain⟨qs,rfl,hqs⟩:=hr))|((first|apply oI.z|apply cI.z)))<;>conv=>whnf)|(show cnd _ _ _;first|(refine aJ ?_)|(apply aW<;>intro _<;>first|(exfalso;omega)|conv=>whnf))
  refine LpN.of (fun u ρ h' L=>∃(i:Nat) (v:Value) (xs:List Nat) (R:Nat),u=9-i/\i<=9/\h2.le h'/\rd ρ 6=.int .i64 i/\rd ρ 5=.int .u32 R/\rd ρ 3=v/\aE Ty.uint8 1 v xs.length (xs.map (vu .u8)) L/\Hq (R<10^(9-i))/\Hq (xs++(dg 10 (Q0*10^(9-i)+R)).map (48+·)=(dg 10 n).map (48+·))) 9
   ⟨0,_,xs,R0,rfl,Aa,aA.lr _,rfl,rfl,rfl,g,⟨by rw[hR0];exact bE3 _ Ad⟩,⟨by rw[hR0,hQ0,bDj,bFw];exact hx.out⟩⟩ ?_
  conv=>whnf
  repeat intro _
  rename_i u h3 L3 hI;obtain⟨i,v,xs,R,rfl,hi,hle3,e6,e5,e3,g,hR,hx2⟩:=hI;conv at e3=>lhs;whnf
  subst e3;conv at e5=>lhs;whnf
  subst e5;conv at e6=>lhs;whnf
  subst e6;have hlen:=congrArg List.length hx2.out;rw[bC6,bDt,bDt] at hlen;have hQr:Q0<r:=Aa;have hR9:R<1000000000:=bD9 hR.out (show 10^(9-i)<=10^9 from bD8 Ad Aa);by_cases hc:i<9
  .obtain⟨P,hP⟩:=AB (10^(9-(i+1)));have hP2:10^(9-i)=10*P:=by rw[hP,<-Nat.pow_succ'];congr 1;omega
   obtain⟨X,hX⟩:=AB (Q0*P);have hX0:Q0=0->X=0:=fun e=>by rw[hX,e,bEv]
   have hXp:Q0≠0->0<X:=fun e=>by rw[hX,hP];exact Nat.mul_pos Aa (bFi Ad)
   have hR':=hR.out;have hx3:=hx2.out;have hWX:Q0*(10*P)=10*X:=by rw[hX,bE0]
   rw[hP2,hWX] at hx3;rw[hP2] at hR';replace hx3:=Hq.mk hx3;clear hx2 hR hWX hP2;have hstep:10*X+R≠0->(xs++[48+R%10])++(dg 10 (Q0*10^(9-(i+1))+R / 10)).map (48+·)=(dg 10 n).map (48+·):=fun h=>by
    rw[<-hx3.out,gT fI h,show (10*X+R)%10=R%10 by omega,show (10*X+R) / 10=X+R / 10 by omega,<-hP,<-hX,bDb]
    rfl
   have hlast:Q0=0->R=0->xs++(dg 10 Q0).map (48+·)=(dg 10 n).map (48+·):=fun e1 e2=>by
    rw[<-hx3.out,hX0 e1,e1,e2]
   have hPR:R / 10<10^(9-(i+1)):=by rw[<-hP];omega
   replace hstep:=Hq.mk hstep;replace hlast:=Hq.mk hlast;replace hPR:=Hq.mk hPR;clear hX hP hx3;conv=>whnf
   repeat' first|((first|(show CN _ _ _ _ _ _;(refine CN.quiet rfl (jE _ _ _ Ag Aa) ?_))|(show iQ _ _ _;refine iQ.nn Aa Aa ?_)|(show fM _ _ _ _;refine fM.u32 Aa Aa Aa ?_)|(show App _ _ _ _ _ _ _ _ _;refine App.push rfl g (48+R%10) Aa Aa Ad (fun v' L' g'=>?_))|((first|apply oI.z|apply cI.z))|intro (_:Nat)|(show WN _ _ _;first|refine WN.i64 Aa Aa ?_|refine WN.u32 Aa Aa ?_|refine WN.u8 Aa Aa ?_))<;>conv=>whnf)|(show cnd _ _ _;first|(apply aB<;>intro _<;>first|(exfalso;omega)|conv=>whnf)|(refine aJ ?_)|(apply aW<;>intro _<;>first|(exfalso;omega)|conv=>whnf))
   all_goals first
    | (rename_i g';exact⟨rfl,9-(i+1),Aa,i+1,_,xs++[48+R%10],R / 10,rfl,Aa,hle3,rfl,vi Aa,rfl,by rw[bC6];exact g',hPR,⟨hstep.out (by first|omega|(have:=hXp Ab;omega))⟩⟩)
    | exact⟨rfl,Q0,hQr,qs,_,xs,Ac,rfl,Ah,rfl,g,hq1,⟨hlast.out Ab Aa⟩⟩
  .obtain rfl:i=9:=Aa;have hR':=hR.out;have hx3:=hx2.out;rw[bFr,bH1] at hR' hx3;obtain rfl:R=0:=Aa;rw[bFm,bEh] at hx3;conv=>whnf
   repeat' ((first|((first|apply oI.z|apply cI.z))|(apply aB<;>intro _<;>try (exfalso;omega)))<;>conv=>whnf)
   all_goals exact⟨rfl,Q0,hQr,qs,_,xs,Ac,rfl,Ah,rfl,g,hq1,⟨hx3⟩⟩

end Go.Proofs.Y
/- Texts of numbers: Format, the reference's Text and Format; what the statement on formats computes: true. -/
namespace Go.Vc
open Go
theorem aIx(a b:List Nat):txt a++txt b=txt (a++b):=by
 unfold txt;apply ByteArray.ext;simp[ByteArray.data_append]
theorem bF(a:List Nat):(txt a).size=a.length:=by unfold txt;simp[ByteArray.size]
theorem Cat.txt{a b:List Nat}{x y:ByteArray}{k:ByteArray->Prop}(hx:x=Vc.txt a)(hy:y=Vc.txt b)(hl:a.length+b.length<=1000000000)(hk:k (Vc.txt (a++b))):Cat x y k:=by
 subst hx hy;exact⟨by rw[bF,bF];omega,by rw[aIx];exact hk⟩
end Go.Vc
namespace Go.Proofs.Y
open Go Go.Vc Go.Dig
def kA(q:Rat):List Nat:=(if sg q then [45]++aY (nu q) else aY (nu q))++(if q.den=1 then [] else [47]++aY q.den)
def uF(n1:Bool)(l1 m1:List Nat):List Nat × Int:=if okR n1 l1 m1 then (kA (aN n1 l1 m1),0) else ([],1)
theorem bBi{n:Nat}(k:Nat)(h:ln 4294967296 n<=k):ln 10 n<=10*k:=by
 rw[aL fI];have h1:=(aL tlB).1 h;refine bD9 h1 ?_;rw[bFz];exact bGf Ad k
theorem aYs{n:Nat}(h:ln 4294967296 n<=64):ln 10 n<=640:=bBi 64 h
theorem uG{n:Nat}(h:ln 4294967296 n<=64):(aY n).length<=641:=by
 have:=aYs h;unfold aY
 split
 .simp
 .unfold ln at this;simp;omega
theorem aIy(h:aA)(tb:Tb h)(n1:Bool)(a1 b1:Sl)(l1 m1:List Nat)(hv1:bJ h a1 b1 l1 m1):
  Fn0 T F.q119 [.agg #[.bool n1,a1.val,b1.val]] h fun v _=>v=.tuple #[.string (txt (uF n1 l1 m1).1),.int .i64 (uF n1 l1 m1).2]:=by
 have f1:okR n1 l1 m1->uF n1 l1 m1=(kA (aN n1 l1 m1),0):=fun x=>if_pos x
 have f2:¬okR n1 l1 m1->uF n1 l1 m1=([],1):=fun x=>if_neg x
 refine f0C ok D.q119 rfl ?_;conv=>whnf
 repeat' first|((first|(show CN _ _ _ _ _ _;(refine CN.f rfl (lO _ Ab _ _ _ l1 m1 Ab) (fun v h' hle1 hr=>?_);obtain⟨s1,c1,d1,rfl,hok1⟩:=hr))|((first|apply oI.z|apply cI.z))|intro (_:Nat)|refine LdN.o 0 rfl rfl ?_|refine Ld.o 0 rfl rfl ?_|refine Sto.l 0 rfl rfl rfl ?_)<;>conv=>whnf)|(show cnd _ _ _;first|(refine aJ ?_)|(apply aW<;>intro _<;>first|(exfalso;omega)|conv=>whnf))
 all_goals first
  | (rw[f2 Ab];exact RN.a rfl)
  | skip
 obtain⟨rfl,g1⟩:=hok1 Ab;have k1:okR n1 l1 m1:=Ab;have z1:=okR.sz k1;have t1:=z1.num;have t2:=z1.den;have i1:=g1.num;have i2:=g1.den;have u1:=uG t1;have u2:=uG t2;have w1:=aYs t1;have w2:=aYs t2;rw[f1 k1];unfold kA;clear f1 f2 k1 z1 g1 hok1;obtain⟨x,hx⟩:=AB (nu (aN n1 l1 m1));obtain⟨y,hy⟩:=AB ((aN n1 l1 m1).den);obtain⟨s,hs⟩:=AB (sg (aN n1 l1 m1));rw[<-hx] at t1 i1 u1 w1;rw[<-hy] at t2 i2 u2 w2;rw[<-hx,<-hy,<-hs];have c1':=fun h i=>zF h c1 x i Aa Aa
 have c2':=fun h i=>zF h d1 y i Aa Aa
 obtain⟨X,hX⟩:=AB (aY x);obtain⟨Y,hY⟩:=AB (aY y);rw[<-hX] at u1 c1';rw[<-hY] at u2 c2';rw[<-hX,<-hY];clear hx hs hX hY
 repeat' first|((first|(apply aQ.go)|(show CN _ _ _ _ _ _;first|(refine CN.quiet rfl (aIf _ _ _ Ag Aa) ?_)|(refine CN.f rfl (c1' _ Ab) (fun v h' hl hr=>?_);obtain rfl:=hr)|(refine CN.f rfl (c2' _ Ah) (fun v h' hl hr=>?_);obtain rfl:=hr))|(show Cat _ _ _;first|(refine Cat.txt (a:=[45]) rfl rfl Aq ?_)|(refine Cat.txt (a:=[47]) rfl rfl Aq ?_)|(refine Cat.txt rfl rfl Aq ?_))|((first|apply oI.z|apply cI.z))|refine Ld.o 0 rfl rfl ?_)<;>conv=>whnf)|(show cnd _ _ _;first|(refine aJ ?_)|(apply aW<;>intro _<;>first|(exfalso;omega)|conv=>whnf)|(refine dE (fun hb=>?_) (fun hb=>?_)<;>(first|cases hb|subst hb)<;>(conv=>whnf)))
 all_goals refine RN.a ?_
 all_goals first
  | (have hy1:y=1:=Ab
     simp[hy1])
  | (have hy1:¬y=1:=Ab
     simp[hy1])

end Go.Proofs.Y
/- Contracts of package number's functions, third part: signs, opposites, absolute values; the reference's absolute value. -/
namespace Go.Dig
def kV(q:Rat):Rat:=mkQ false (nu q) q.den
theorem aYt(q:Rat):sg (kV q)=false:=by unfold kV;rw[aIi false q.den_nz];rfl
theorem aIz(q:Rat):nu (kV q)=nu q:=by unfold kV;rw[aDq false q.den_nz,cop,bHv]
theorem aDv(q:Rat):(kV q).den=q.den:=by unfold kV;rw[xO false q.den_nz,cop,bHv]
end Go.Dig
namespace Go.Proofs.Y
open Go Go.Vc Go.Dig

theorem Op1.neg:Op1 F.q156 (fun q=>-q):=fun h a b q tb h1 z1=>
 (kS h a b q h1 (z1.mono Ad)).mono fun v h' _ r=>⟨a,b,r.2,by rw[r.1];exact cS.neg h1⟩
theorem aU9(h:aA)(tb:Tb h)(n1:Bool)(a1 b1:Sl)(l1 m1:List Nat)(hv1:bJ h a1 b1 l1 m1):
  Fn0 T F.q109 [.agg #[.bool n1,a1.val,b1.val]] h fun v h'=>Res h' v (qD (fun q=>-q) n1 l1 m1):=by
 refine f0C ok D.q109 rfl ?_;conv=>whnf
 repeat' ((first|(show CN _ _ _ _ _ _;(refine CN.f rfl (aQc _ Ab _ _ _ _ _ Ab _ _ rfl Op1.neg (fun q a=>(Sz.neg a).mono Ad)) (fun v h' hl hr=>?_);obtain⟨e1,e2,rfl,hq'⟩:=hr))|((first|apply oI.z|apply cI.z))|intro (_:Nat)|(show LdN _ _ _ _ _;first|refine LdN.o 0 rfl rfl ?_|refine LdN.o 1 rfl rfl ?_)|refine Sto.l 0 rfl rfl rfl ?_)<;>conv=>whnf)
 exact RN.a ⟨_,_,rfl,Ab⟩
end Go.Proofs.Y