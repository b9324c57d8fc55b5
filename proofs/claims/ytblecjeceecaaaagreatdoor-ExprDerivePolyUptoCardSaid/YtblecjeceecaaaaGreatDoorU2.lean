/- Numbers that a value denotes, with none for a large one: contracts for laws that chain operations; whether two values of any kind are equal. -/
import Derived.Test.YtblecjeceecaaaaGreatDoorL4
import Derived.Test.YtblecjeceecaaaaGreatDoorVcMeet
import Derived.Laws.IdiomStrings
set_option linter.all false
set_option maxHeartbeats 1000000
set_option maxRecDepth 20000
namespace Go.Dig
end Go.Dig
namespace Go.Proofs.Y
open Go Go.Vc Go.Dig

def iV(n:Bool)(l m:List Nat):Option Rat:=if okR n l m then some (aK n l m) else none
structure bP (h:aA) (n:Bool) (a b:Sl) (x:Option Rat):Prop where
 ex:∃l m,bV h a b l m/\x=iV n l m
theorem bP.mono{h h':aA}{n:Bool}{a b:Sl}{x:Option Rat}(w:bP h n a b x)(hl:h.le h'):bP h' n a b x:=by
 obtain⟨l,m,v,e⟩:=w.ex;exact⟨l,m,v.mono hl,e⟩
theorem Ax{p:Prop}(h:p:=by (iterate 30 try first|assumption|refine bP.mono ?_ (by assumption));first|done|assumption):p:=h
theorem bV.num'{h:aA}{n:Bool}{a b:Sl}{l m:List Nat}(v:bV h a b l m):bP h n a b (iV n l m):=⟨l,m,v,rfl⟩
structure Fok (p:Rat × Int):Prop where
 ft:fits p.1
 err:p.2≠0->p.1=0
theorem oK{q:Rat}(h:fits q):Sz 1073741824 q:=⟨bJd h.1 Ae,bJd h.2 Ae⟩
theorem Fok.sz{p:Rat × Int}(k:Fok p):Sz 1073741824 p.1:=oK k.ft
theorem gC:fits 0:=by
 have h:=aOa 0;exact⟨bJd h.num Ae,bJd h.den Ae⟩
theorem Fok.err1(e:Int):Fok (0,e):=⟨gC,fun _=>rfl⟩
theorem Fok.out(q:Rat):Fok (eO q):=by
 unfold eO
 split
 .rename_i h;exact⟨h,fun x=>absurd rfl x⟩
 .exact Fok.err1 1
theorem eA.isnum{h:aA}{a b:Sl}{q:Rat}(w:eA h a b q)(hf:fits q):bP h (sg q) a b (some q):=
 ⟨_,_,lO w (oK hf),by unfold iV;rw[if_pos (aTc hf),jO]⟩

def opR(op:Rat->Rat->Rat):Option Rat->Option Rat->Rat × Int
 | some x,some y=>eO (op x y)
 | _,_=>(0,1)
def divR:Option Rat->Option Rat->Rat × Int
 | some x,some y=>if nu y=0 then (0,10) else eO (x / y)
 | _,_=>(0,1)
def aL4(h:aA)(v:Value)(p:Rat × Int):Prop:=∃a b:Sl,v=.tuple #[.agg #[.bool (sg p.1),a.val,b.val],.int .i64 p.2]/\eA h a b p.1/\bP h (sg p.1) a b (some p.1)
end Go.Proofs.Y
/- Texts: bytes put together to a string; a row of bytes turned round; the decimal digits of a number. -/
namespace Go.Vc
open Go
def txt(l:List Nat):ByteArray:=⟨(l.map UInt8.ofNat).toArray⟩
theorem Ext.text{T:Tab}{h:aA}{L:Own}{k:Value->aA->Own->Prop}{s d e:TypeId}{x:Operand}{v:Value}{n:Nat}{xs:List Nat}
  (hs:T.und s=some (.slice e)) (he:T.und e=some (.int .u8)) (hd:T.und d=some .string) (g:aF e 1 v n (xs.map (vu .u8)) L) (hb:∀y∈xs,y<256) (hne:xs≠[]) (hk:k (.string (txt xs)) h L):
  Ext T (.convert s d x) [x] [v] h L k:=by
 obtain⟨g1,⟨rfl,rfl⟩|⟨i,b,cap,zs,rfl,h2,h3,-⟩⟩:=g
 .exact absurd (bI5 (by simpa using g1)) hne
 .refine⟨fun ok o ρ K Q w0 h0 L0 w hop hargs inv hout _ hK=>.inl ?_⟩
  have hn:n=(xs.map UInt8.ofNat).length:=by simpa using g1.symm
  simp only[bJw,bK4,List.cons.injEq,and_true] at hargs;have hrun:=run_convert_bytes_back (P:=T.prog) w s d e ⟨b,0,none⟩ cap (xs.map UInt8.ofNat) (ok.und _ _ hs) (ok.und _ _ he) (ok.und _ _ hd) (fun j hj=>by
    have hj':j<xs.length:=by simpa using hj
    have hc:Has h L ((⟨b,0,none⟩:Addr).add j) (.int .u8 ((xs.getD j 0:Nat):Int)):=by
      rw[bQ,bJc];refine Has.own i h2 ?_;simp[hj',vu,bI0,bIp]
    rw[inv.toSat.cell hc];have hlt:xs[j]<256:=hb _ (bK2 hj');simp[hj',bIp,bJ3 hlt])
  refine bU (w':=w) (v:=.string (txt xs)) ?_ (hK _ _ _ _ inv hk);rw[<-hn] at hrun;simp only[execOp,hop,bJy,hargs,hrun]
  rfl
end Go.Vc
namespace Go.Proofs.Y
open Go Go.Vc Go.Dig

theorem Ld.rz{h:aA}{L:Own}{b i:Nat}{k:Value->Prop}{kd:IntKind}{T:TypeId}{u:List Nat}{zs:List Value}(n:Nat)(hb:L[n]?=some (b,sK kd T u zs))(ho:i<u.length)(hk:k (.int kd ((u.getD i 0:Nat):Int))):Ld h L ⟨b,i,none⟩ k:=
 Ld.o n hb (by simp[ho,vu,bI0,bIp]) hk
theorem Sto.rz{L:Own}{b i:Nat}{kd:IntKind}{T:TypeId}{u:List Nat}{zs:List Value}{v:Int}{k:Own->Prop}(n:Nat)(hb:L[n]?=some (b,sK kd T u zs))(x:Nat)(hx:v=x)(hl:i<u.length)
  (hk:xY (b,sK kd T (u.set i x) zs) L n k):Sto L ⟨b,i,none⟩ [.int kd v] k:=by
 subst hx;refine Sto.sym n hb Ar rfl ?_;have:(u.map (vu kd)++zs).set i (.int kd x)=(u.set i x).map (vu kd)++zs:=by
  rw[bM4 _ _ (by simpa using hl),List.map_set];rfl
 rw[this];exact hk
theorem aD5(l:List Nat)(a x i:Nat):(l.set a x).getD i 0=if a=i/\a<l.length then x else l.getD i 0:=by
 rw[bIp,bM1,bIp];by_cases h1:a=i
 .subst h1;by_cases h2:a<l.length
  .simp[h2]
  .rw[if_pos rfl,if_neg h2,if_neg (fun hh=>h2 hh.2),bJn Aa]
 .rw[if_neg h1,if_neg (fun hh=>h1 hh.1)]

theorem aL5(h:aA)(b cap:Nat)(xs:List Nat)(zs:List Value)(hn:xs.length<=1099511627776):
  Vc.Fn T F.q315 [.slice (some ⟨b,0,none⟩) xs.length cap] h [(b,sK .u8 Ty.uint8 xs zs)] fun v h' L'=>L'=[(b,sK .u8 Ty.uint8 xs.reverse zs)]:=by
 obtain⟨n,hnn⟩:=AH xs.length;rw[<-hnn] at hn;rw[<-hnn];refine f1C ok D.q315 rfl ?_;conv=>whnf
 repeat' ((first|((first|apply oI.z|apply cI.z))|refine WN.i64 Aa Aa ?_)<;>conv=>whnf)
 refine LpN.of (fun r ρ h' L=>∃(k:Nat) (ys:List Nat),r=n-k/\L=[(b,sK .u8 Ty.uint8 ys zs)]/\rd ρ 2=.int .i64 k/\rd ρ 3=.int .i64 ((n:Int)-1-k)/\2*k<=n/\ys.length=n/\Hq (∀i,i<n->ys.getD i 0=if i<k\/n-1-i<k then xs.getD (n-1-i) 0 else xs.getD i 0)) n
  ⟨0,xs,rfl,rfl,rfl,vi Aa,Aa,hnn.symm,⟨fun i hi=>by rw[if_neg Aa]⟩⟩ ?_
 conv=>whnf
 repeat intro _
 rename_i r h1 L1 hI;obtain⟨k,ys,rfl,rfl,e0,e1,hk,hy,hE⟩:=hI;conv at e0=>lhs;whnf
 subst e0;conv at e1=>lhs;whnf
 subst e1;obtain⟨J,hJ⟩:∃J:Nat,J=n-1-k:=⟨_,rfl⟩
 conv=>whnf
 repeat' ((first|(show WN _ _ _;refine WN.i64 Aa Aa ?_)|(show Idx _ _ _ _ _;first|refine Idx.own k Aa Aa ?_|refine Idx.own J Aa Aa ?_)|(show Ld _ _ _ _;(refine Ld.rz 0 rfl (by first|omega|(simp only[bLl];omega)) ?_))|(show Sto _ _ _ _;(refine Sto.rz 0 rfl _ rfl (by first|omega|(simp only[bLl];omega)) ?_))|((first|apply oI.z|apply cI.z))|refine⟨fun hst=>(by cases (show true=false from hst)),?_⟩|refine DrN.run Ak ?_|(apply aB<;>intro _<;>try (exfalso;omega)))<;>conv=>whnf)
 .refine⟨rfl,n-(k+1),Aa,k+1,(ys.set k (ys.getD J 0)).set J (ys.getD k 0),rfl,rfl,vi Aa,vi Aa,Aa,by simp[hy],⟨fun i hi=>?_⟩⟩
  have e1:=hE.out k Aa;have e2:=hE.out J Aa;rw[if_neg Aa] at e1 e2;rw[aD5,aD5,e1,e2,hE.out i hi];simp only[bLl];by_cases c1:J=i
  .subst c1;rw[if_pos ⟨rfl,Aa⟩,if_pos Aa]
   (congr 1<;>omega)
  .rw[if_neg Aa];by_cases c2:k=i
   .subst c2;rw[if_pos ⟨rfl,Aa⟩,if_pos Aa]
    (congr 1<;>omega)
   .rw[if_neg Aa];by_cases c3:i<k\/n-1-i<k
    .rw[if_pos c3,if_pos Aa]
    .rw[if_neg c3,if_neg Aa]
 .refine RN.done ?_;have:ys=xs.reverse:=by
   apply bMp (by simp[hy,hnn])
   intro i a1 a2;have e:=hE.out i Aa;have e3:(if i<k\/n-1-i<k then xs.getD (n-1-i) 0 else xs.getD i 0)=xs.getD (n-1-i) 0:=by
    split
    .rfl
    ·(congr 1<;>omega)
   rw[e3,bIp,bIp,bIq a1,bIq Aa] at e;simp only[Option.getD_some] at e;rw[e,List.getElem_reverse];simp only[hnn]
  rw[this]

def bN(n:Nat):List Nat:=if n=0 then [48] else ((dg 10 n).map (48+·)).reverse
theorem fG:2<=10:=Ae
theorem aOc(n:Nat):∀y∈(dg 10 n).map (48+·),y<256:=fun y hy=>by
 obtain⟨x,hx,rfl⟩:=List.mem_map.1 hy;have:=lM fG n x hx;omega
theorem aBo(h:aA)(a:Sl)(n:Nat)(ha:aM h a n)(la:ln 4294967296 n<=65536)(lb:ln 10 n<=1048576):Fn0 T F.q270 [a.val] h fun v _=>v=.string (txt (bN n)):=by
 refine f0C ok D.q270 rfl ?_;conv=>whnf
 repeat ((first|apply oI.z|apply cI.z);conv=>whnf)
 skip
 refine LpN.of (fun r ρ h' L=>∃(a:Sl) (v:Value) (xs:List Nat),h.le h'/\rd ρ 0=a.val/\aM h' a r/\rd ρ 3=v/\aF Ty.uint8 1 v xs.length (xs.map (vu .u8)) L/\ln 4294967296 r<=65536/\Hq (xs++(dg 10 r).map (48+·)=(dg 10 n).map (48+·))) n
  ⟨a,_,[],aA.lr _,rfl,ha,rfl,aF.none,la,⟨rfl⟩⟩ ?_
 conv=>whnf
 repeat intro _
 rename_i r h1 L1 hI;obtain⟨a,v,xs,hle,e0,ha,e1,g,hlr,hx⟩:=hI;conv at e0=>lhs;whnf
 subst e0;conv at e1=>lhs;whnf
 subst e1;have hlen:=congrArg List.length hx.out;rw[bIo,bJb,bJb] at hlen;have hl10:(dg 10 n).length<=1048576:=lb;by_cases h0:r=0
 .subst h0;have hx0:=hx.out;rw[dO,bK4,bIy] at hx0;have hn0:xs=[]->n=0:=fun e=>by
   rw[e] at hx0;by_cases hn:n=0
   .exact hn
   .rw[iQ fG hn] at hx0;cases hx0
  have hd:xs≠[]->xs.reverse=bN n:=fun e=>by
   unfold bN;rw[if_neg (fun hn=>e (by rw[hx0,hn,dO];rfl)),hx0]
  have hz:n=0->bN n=[48]:=fun e=>if_pos e
  have hb8:∀y∈xs.reverse,y<256:=fun y hy=>aOc n y (by rw[<-hx0];simpa using hy)
  obtain⟨g1,⟨rfl,g2⟩|⟨i,b,cap,zs,rfl,g2,g3,g4⟩⟩:=g
  .conv=>whnf
   repeat' first|((first|(show CN _ _ _ _ _ _;refine CN.quiet rfl (jX _ _ _ Ab Aa) ?_)|((first|apply oI.z|apply cI.z)))<;>conv=>whnf)|(show cnd _ _ _;first|(apply aD<;>intro _<;>first|(exfalso;omega)|conv=>whnf)|(refine aI ?_)|(apply aU<;>intro _<;>first|(exfalso;omega)|conv=>whnf))
   exact RN.a (by rw[hz (hn0 (bI5 g2))];rfl)
  .have hne:xs.length≠0->xs≠[]:=fun a b=>a (by rw[b];rfl)
   have he:xs.length=0->xs=[]:=bI5;conv=>whnf
   repeat' first|((first|(show CN _ _ _ _ _ _;refine CN.quiet rfl (jX _ _ _ Ab Aa) ?_)|((first|apply oI.z|apply cI.z)))<;>conv=>whnf)|(show cnd _ _ _;first|(apply aD<;>intro _<;>first|(exfalso;omega)|conv=>whnf)|(refine aI ?_)|(apply aU<;>intro _<;>first|(exfalso;omega)|conv=>whnf))
   .exact RN.a (by rw[hz (hn0 (he Aa))];rfl)
   .have hL:i<L1.length:=(bIr.1 g2).1;refine CN.own i g2 rfl (aL5 _ b cap xs zs Aa) (fun v h' La hl hr=>?_)
    refine⟨_,hr,?_⟩;conv=>whnf
    repeat ((first|apply oI.z|apply cI.z);conv=>whnf)
    refine Ext.text (n:=xs.length) (xs:=xs.reverse) rfl rfl rfl ⟨by simp,.inr ⟨i,b,cap,zs,rfl,by rw[bKj hL],g3,by simpa using g4⟩⟩ hb8 (by simpa using hne Aa) ?_
    conv=>whnf
    repeat ((first|apply oI.z|apply cI.z);conv=>whnf)
    skip
    exact RN.a (by rw[hd (hne Aa)])
 .obtain⟨R0,hR0⟩:=AH (r%1000000000);obtain⟨Q0,hQ0⟩:=AH (r / 1000000000);have hq1:ln 4294967296 Q0<=65536:=by rw[hQ0];exact bJd (aBi r _) hlr
  conv=>whnf
  repeat' first|((first|(show CN _ _ _ _ _ _;first|refine CN.quiet rfl (jX _ _ _ Ab Aa) ?_|(refine CN.f rfl (sH _ _ r 1000000000 Ab Aa Ae Ae) (fun v h2 hl2 hr=>?_);rw[<-hR0,<-hQ0] at hr;obtain⟨qs,rfl,hqs⟩:=hr))|((first|apply oI.z|apply cI.z)))<;>conv=>whnf)|(show cnd _ _ _;first|(refine aI ?_)|(apply aU<;>intro _<;>first|(exfalso;omega)|conv=>whnf))
  refine LpN.of (fun u ρ h' L=>∃(i:Nat) (v:Value) (xs:List Nat) (R:Nat),u=9-i/\i<=9/\h2.le h'/\rd ρ 6=.int .i64 i/\rd ρ 5=.int .u32 R/\rd ρ 3=v/\aF Ty.uint8 1 v xs.length (xs.map (vu .u8)) L/\Hq (R<10^(9-i))/\Hq (xs++(dg 10 (Q0*10^(9-i)+R)).map (48+·)=(dg 10 n).map (48+·))) 9
   ⟨0,_,xs,R0,rfl,Aa,aA.lr _,rfl,rfl,rfl,g,⟨by rw[hR0];exact bKl _ Ae⟩,⟨by rw[hR0,hQ0,bI1,bK3];exact hx.out⟩⟩ ?_
  conv=>whnf
  repeat intro _
  rename_i u h3 L3 hI;obtain⟨i,v,xs,R,rfl,hi,hle3,e6,e5,e3,g,hR,hx2⟩:=hI;conv at e3=>lhs;whnf
  subst e3;conv at e5=>lhs;whnf
  subst e5;conv at e6=>lhs;whnf
  subst e6;have hlen:=congrArg List.length hx2.out;rw[bIo,bJb,bJb] at hlen;have hQr:Q0<r:=Aa;have hR9:R<1000000000:=bJr hR.out (show 10^(9-i)<=10^9 from bJq Ae Aa);by_cases hc:i<9
  .obtain⟨P,hP⟩:=AH (10^(9-(i+1)));have hP2:10^(9-i)=10*P:=by rw[hP,<-bL2];congr 1;omega
   obtain⟨X,hX⟩:=AH (Q0*P);have hX0:Q0=0->X=0:=fun e=>by rw[hX,e,bKi]
   have hXp:Q0≠0->0<X:=fun e=>by rw[hX,hP];exact Nat.mul_pos Aa (bKv Ae)
   have hR':=hR.out;have hx3:=hx2.out;have hWX:Q0*(10*P)=10*X:=by rw[hX,bKk]
   rw[hP2,hWX] at hx3;rw[hP2] at hR';replace hx3:=Hq.mk hx3;clear hx2 hR hWX hP2;have hstep:10*X+R≠0->(xs++[48+R%10])++(dg 10 (Q0*10^(9-(i+1))+R / 10)).map (48+·)=(dg 10 n).map (48+·):=fun h=>by
    rw[<-hx3.out,iQ fG h,show (10*X+R)%10=R%10 by omega,show (10*X+R) / 10=X+R / 10 by omega,<-hP,<-hX,bIt]
    rfl
   have hlast:Q0=0->R=0->xs++(dg 10 Q0).map (48+·)=(dg 10 n).map (48+·):=fun e1 e2=>by
    rw[<-hx3.out,hX0 e1,e1,e2]
   have hPR:R / 10<10^(9-(i+1)):=by rw[<-hP];omega
   replace hstep:=Hq.mk hstep;replace hlast:=Hq.mk hlast;replace hPR:=Hq.mk hPR;clear hX hP hx3;conv=>whnf
   repeat' first|((first|(show CN _ _ _ _ _ _;(refine CN.quiet rfl (jX _ _ _ Ag Aa) ?_))|(show gZ _ _ _;refine gZ.nn Aa Aa ?_)|(show eV _ _ _ _;refine eV.u32 Aa Aa Aa ?_)|(show App _ _ _ _ _ _ _ _ _;refine App.push rfl g (48+R%10) Aa Aa Ae (fun v' L' g'=>?_))|((first|apply oI.z|apply cI.z))|intro (_:Nat)|(show WN _ _ _;first|refine WN.i64 Aa Aa ?_|refine WN.u32 Aa Aa ?_|refine WN.u8 Aa Aa ?_))<;>conv=>whnf)|(show cnd _ _ _;first|(apply aB<;>intro _<;>first|(exfalso;omega)|conv=>whnf)|(refine aI ?_)|(apply aU<;>intro _<;>first|(exfalso;omega)|conv=>whnf))
   all_goals first
    | (rename_i g';exact⟨rfl,9-(i+1),Aa,i+1,_,xs++[48+R%10],R / 10,rfl,Aa,hle3,rfl,vi Aa,rfl,by rw[bIo];exact g',hPR,⟨hstep.out (by first|omega|(have:=hXp Ab;omega))⟩⟩)
    | exact⟨rfl,Q0,hQr,qs,_,xs,Ac,rfl,Ah,rfl,g,hq1,⟨hlast.out Ab Aa⟩⟩
  .obtain rfl:i=9:=Aa;have hR':=hR.out;have hx3:=hx2.out;rw[bK7,bMm] at hR' hx3;obtain rfl:R=0:=Aa;rw[bLd,bJz] at hx3;conv=>whnf
   repeat' ((first|((first|apply oI.z|apply cI.z))|(apply aB<;>intro _<;>try (exfalso;omega)))<;>conv=>whnf)
   all_goals exact⟨rfl,Q0,hQr,qs,_,xs,Ac,rfl,Ah,rfl,g,hq1,⟨hx3⟩⟩

end Go.Proofs.Y
/- Texts of numbers: Format, the reference's Text and Format; what the statement on formats computes: true. -/
namespace Go.Vc
open Go
theorem aL7(a b:List Nat):txt a++txt b=txt (a++b):=by
 unfold txt;apply ByteArray.ext;simp[ByteArray.data_append]
theorem bW(a:List Nat):(txt a).size=a.length:=by unfold txt;simp[ByteArray.size]
theorem Cat.txt{a b:List Nat}{x y:ByteArray}{k:ByteArray->Prop}(hx:x=Vc.txt a)(hy:y=Vc.txt b)(hl:a.length+b.length<=1000000000)(hk:k (Vc.txt (a++b))):Cat x y k:=by
 subst hx hy;exact⟨by rw[bW,bW];omega,by rw[aL7];exact hk⟩
end Go.Vc
namespace Go.Proofs.Y
open Go Go.Vc Go.Dig
def jB(q:Rat):List Nat:=(if sg q then [45]++bN (nu q) else bN (nu q))++(if q.den=1 then [] else [47]++bN q.den)
def wS(n1:Bool)(l1 m1:List Nat):List Nat × Int:=if okR n1 l1 m1 then (jB (aK n1 l1 m1),0) else ([],1)
theorem bFb{n:Nat}(k:Nat)(h:ln 4294967296 n<=k):ln 10 n<=10*k:=by
 rw[aR fG];have h1:=(aR tlB).1 h;refine bJr h1 ?_;rw[bLh];exact bLg Ae k
theorem aTh{n:Nat}(h:ln 4294967296 n<=64):ln 10 n<=640:=bFb 64 h
theorem pO{n:Nat}(h:ln 4294967296 n<=64):(bN n).length<=641:=by
 have:=aTh h;unfold bN
 split
 .simp
 .unfold ln at this;simp;omega
theorem aL8(h:aA)(tb:Tb h)(n1:Bool)(a1 b1:Sl)(l1 m1:List Nat)(hv1:bV h a1 b1 l1 m1):
  Fn0 T F.q204 [.agg #[.bool n1,a1.val,b1.val]] h fun v _=>v=.tuple #[.string (txt (wS n1 l1 m1).1),.int .i64 (wS n1 l1 m1).2]:=by
 have f1:okR n1 l1 m1->wS n1 l1 m1=(jB (aK n1 l1 m1),0):=fun x=>if_pos x
 have f2:¬okR n1 l1 m1->wS n1 l1 m1=([],1):=fun x=>if_neg x
 refine f0C ok D.q204 rfl ?_;conv=>whnf
 repeat' first|((first|(show CN _ _ _ _ _ _;(refine CN.f rfl (iU _ Ab _ _ _ l1 m1 Ab) (fun v h' hle1 hr=>?_);obtain⟨s1,c1,d1,rfl,hok1⟩:=hr))|((first|apply oI.z|apply cI.z))|intro (_:Nat)|refine LdN.o 0 rfl rfl ?_|refine Ld.o 0 rfl rfl ?_|refine Sto.l 0 rfl rfl rfl ?_)<;>conv=>whnf)|(show cnd _ _ _;first|(refine aI ?_)|(apply aU<;>intro _<;>first|(exfalso;omega)|conv=>whnf))
 all_goals first
  | (rw[f2 Ab];exact RN.a rfl)
  | skip
 obtain⟨rfl,g1⟩:=hok1 Ab;have k1:okR n1 l1 m1:=Ab;have z1:=okR.sz k1;have t1:=z1.num;have t2:=z1.den;have i1:=g1.num;have i2:=g1.den;have u1:=pO t1;have u2:=pO t2;have w1:=aTh t1;have w2:=aTh t2;rw[f1 k1];unfold jB;clear f1 f2 k1 z1 g1 hok1;obtain⟨x,hx⟩:=AH (nu (aK n1 l1 m1));obtain⟨y,hy⟩:=AH ((aK n1 l1 m1).den);obtain⟨s,hs⟩:=AH (sg (aK n1 l1 m1));rw[<-hx] at t1 i1 u1 w1;rw[<-hy] at t2 i2 u2 w2;rw[<-hx,<-hy,<-hs];have c1':=fun h i=>aBo h c1 x i Aa Aa
 have c2':=fun h i=>aBo h d1 y i Aa Aa
 obtain⟨X,hX⟩:=AH (bN x);obtain⟨Y,hY⟩:=AH (bN y);rw[<-hX] at u1 c1';rw[<-hY] at u2 c2';rw[<-hX,<-hY];clear hx hs hX hY
 repeat' first|((first|(apply bJ.go)|(show CN _ _ _ _ _ _;first|(refine CN.quiet rfl (aFs _ _ _ Ag Aa) ?_)|(refine CN.f rfl (c1' _ Ab) (fun v h' hl hr=>?_);obtain rfl:=hr)|(refine CN.f rfl (c2' _ Ah) (fun v h' hl hr=>?_);obtain rfl:=hr))|(show Cat _ _ _;first|(refine Cat.txt (a:=[45]) rfl rfl Ar ?_)|(refine Cat.txt (a:=[47]) rfl rfl Ar ?_)|(refine Cat.txt rfl rfl Ar ?_))|((first|apply oI.z|apply cI.z))|refine Ld.o 0 rfl rfl ?_)<;>conv=>whnf)|(show cnd _ _ _;first|(refine aI ?_)|(apply aU<;>intro _<;>first|(exfalso;omega)|conv=>whnf)|(refine bO (fun hb=>?_) (fun hb=>?_)<;>(first|cases hb|subst hb)<;>(conv=>whnf)))
 all_goals refine RN.a ?_
 all_goals first
  | (have hy1:y=1:=Ab
     simp[hy1])
  | (have hy1:¬y=1:=Ab
     simp[hy1])

end Go.Proofs.Y
/- Contracts of package number's functions, third part: signs, opposites, absolute values; the reference's absolute value. -/
namespace Go.Dig
def gP(q:Rat):Rat:=mkQ false (nu q) q.den
theorem aL9(q:Rat):sg (gP q)=false:=by unfold gP;rw[aFx false q.den_nz];rfl
theorem vG(q:Rat):nu (gP q)=nu q:=by unfold gP;rw[aBe false q.den_nz,cop,bMx]
theorem rA(q:Rat):(gP q).den=q.den:=by unfold gP;rw[wH false q.den_nz,cop,bMx]
end Go.Dig
namespace Go.Proofs.Y
open Go Go.Vc Go.Dig

def pP(n1:Bool)(l1 m1:List Nat):Int × Int:=if okR n1 l1 m1 then (dH (aK n1 l1 m1),0) else (0,1)
def aTj:Option Rat->Option Rat->Int × Int
 | some x,some y=>(eX x y,0)
 | _,_=>(0,1)
theorem aTk(n1:Bool)(l1 m1:List Nat)(n2:Bool)(l2 m2:List Nat):qX n1 l1 m1 n2 l2 m2=aTj (iV n1 l1 m1) (iV n2 l2 m2):=by
 unfold qX iV;by_cases h1:okR n1 l1 m1<;>by_cases h2:okR n2 l2 m2<;>simp[h1,h2,aTj]
theorem aIv(h:aA)(n1:Bool)(a1 b1:Sl)(n2:Bool)(a2 b2:Sl)(x y:Option Rat)(tb:Tb h)(hx:bP h n1 a1 b1 x)(hy:bP h n2 a2 b2 y):
  Fn0 T F.q39 [.agg #[.bool n1,a1.val,b1.val],.agg #[.bool n2,a2.val,b2.val]] h fun v _=>v=.tuple #[.int .i64 (aTj x y).1,.int .i64 (aTj x y).2]:=by
 obtain⟨l1,m1,v1,rfl⟩:=hx.ex;obtain⟨l2,m2,v2,rfl⟩:=hy.ex;rw[<-aTk];exact aIr h tb n1 a1 b1 l1 m1 n2 a2 b2 l2 m2 v1 v2
def aOd:Option Rat->Int × Int
 | some x=>(dH x,0)
 | none=>(0,1)
def bH8(up:Bool):Option Rat->Int->Rat × Int
 | some q,p=>if p<0\/256<p then (0,2) else eO (aS4 q p.toNat up)
 | none,_=>(0,1)
end Go.Proofs.Y