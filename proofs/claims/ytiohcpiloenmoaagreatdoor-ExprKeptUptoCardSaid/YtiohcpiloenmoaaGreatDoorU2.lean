/- Numbers that a value denotes, with none for a large one: contracts for laws that chain operations; whether two values of any kind are equal. -/
import Derived.Test.YtiohcpiloenmoaaGreatDoorL4
import Derived.Test.YtiohcpiloenmoaaGreatDoorVcMeet
import Derived.Laws.IdiomStrings
set_option linter.all false
set_option maxHeartbeats 1000000
set_option maxRecDepth 20000
namespace Go.Dig
end Go.Dig
namespace Go.Proofs.Y
open Go Go.Vc Go.Dig

def gT(n:Bool)(l m:List Nat):Option Rat:=if okR n l m then some (aK n l m) else none
structure bL (h:aA) (n:Bool) (a b:Sl) (x:Option Rat):Prop where
 ex:∃l m,aY h a b l m/\x=gT n l m
theorem bL.mono{h h':aA}{n:Bool}{a b:Sl}{x:Option Rat}(w:bL h n a b x)(hl:h.le h'):bL h' n a b x:=by
 obtain⟨l,m,v,e⟩:=w.ex;exact⟨l,m,v.mono hl,e⟩
theorem aY.num'{h:aA}{n:Bool}{a b:Sl}{l m:List Nat}(v:aY h a b l m):bL h n a b (gT n l m):=⟨l,m,v,rfl⟩
structure Fok (p:Rat × Int):Prop where
 ft:fits p.1
 err:p.2≠0->p.1=0
theorem gZ{q:Rat}(h:fits q):Sz 1073741824 q:=⟨aZr h.1 Ag,aZr h.2 Ag⟩
theorem Fok.sz{p:Rat × Int}(k:Fok p):Sz 1073741824 p.1:=gZ k.ft
theorem eD:fits 0:=by
 have h:=aHy 0;exact⟨aZr h.num Ag,aZr h.den Ag⟩
theorem Fok.err1(e:Int):Fok (0,e):=⟨eD,fun _=>rfl⟩
theorem Fok.out(q:Rat):Fok (eA q):=by
 unfold eA
 split
 .rename_i h;exact⟨h,fun x=>absurd rfl x⟩
 .exact Fok.err1 1
theorem fI.isnum{h:aA}{a b:Sl}{q:Rat}(w:fI h a b q)(hf:fits q):bL h (sg q) a b (some q):=
 ⟨_,_,qL w (gZ hf),by unfold gT;rw[if_pos (aM4 hf),wY]⟩

def opR(op:Rat->Rat->Rat):Option Rat->Option Rat->Rat × Int
 | some x,some y=>eA (op x y)
 | _,_=>(0,1)
theorem qM(op:Rat->Rat->Rat)(n1:Bool)(l1 m1:List Nat)(n2:Bool)(l2 m2:List Nat):rZ op n1 l1 m1 n2 l2 m2=opR op (gT n1 l1 m1) (gT n2 l2 m2):=by
 unfold rZ gT;by_cases h1:okR n1 l1 m1<;>by_cases h2:okR n2 l2 m2<;>simp[h1,h2,opR]
theorem Fok.opR(op:Rat->Rat->Rat)(x y:Option Rat):Fok (opR op x y):=by
 cases x<;>cases y<;>first|exact Fok.out _|exact Fok.err1 1
def divR:Option Rat->Option Rat->Rat × Int
 | some x,some y=>if nu y=0 then (0,10) else eA (x / y)
 | _,_=>(0,1)
theorem aDu(n1:Bool)(l1 m1:List Nat)(n2:Bool)(l2 m2:List Nat):kN n1 l1 m1 n2 l2 m2=divR (gT n1 l1 m1) (gT n2 l2 m2):=by
 unfold kN gT;by_cases h1:okR n1 l1 m1<;>by_cases h2:okR n2 l2 m2<;>simp[h1,h2,divR]
theorem Fok.divR(x y:Option Rat):Fok (divR x y):=by
 cases x with
 | none=>exact Fok.err1 1
 | some a=>
  cases y with
  | none=>exact Fok.err1 1
  | some b=>
   show Fok (if nu b=0 then (0,10) else eA (a / b))
   by_cases hb:nu b=0
   .rw[if_pos hb];exact Fok.err1 10
   .rw[if_neg hb];exact Fok.out _
def aGb(h:aA)(v:Value)(p:Rat × Int):Prop:=∃a b:Sl,v=.tuple #[.agg #[.bool (sg p.1),a.val,b.val],.int .i64 p.2]/\fI h a b p.1/\bL h (sg p.1) a b (some p.1)
theorem Res.isn{h:aA}{v:Value}{p:Rat × Int}(r:Res h v p)(k:Fok p):aGb h v p:=by
 obtain⟨a,b,e,w⟩:=r;exact⟨a,b,e,w,w.isnum k.ft⟩
theorem aYf(h:aA)(n1:Bool)(a1 b1:Sl)(n2:Bool)(a2 b2:Sl)(x y:Option Rat)(tb:Tb h)(hx:bL h n1 a1 b1 x)(hy:bL h n2 a2 b2 y):
  Fn0 T F.q130 [.agg #[.bool n1,a1.val,b1.val],.agg #[.bool n2,a2.val,b2.val]] h fun v h'=>aGb h' v (opR (·+·) x y):=by
 obtain⟨l1,m1,v1,rfl⟩:=hx.ex;obtain⟨l2,m2,v2,rfl⟩:=hy.ex;rw[<-qM];exact (aRj h n1 a1 b1 l1 m1 n2 a2 b2 l2 m2 tb v1 v2).mono fun v h' _ r=>r.isn (by rw[qM];exact Fok.opR _ _ _)
theorem aYg(h:aA)(n1:Bool)(a1 b1:Sl)(n2:Bool)(a2 b2:Sl)(x y:Option Rat)(tb:Tb h)(hx:bL h n1 a1 b1 x)(hy:bL h n2 a2 b2 y):
  Fn0 T F.q131 [.agg #[.bool n1,a1.val,b1.val],.agg #[.bool n2,a2.val,b2.val]] h fun v h'=>aGb h' v (opR (· - ·) x y):=by
 obtain⟨l1,m1,v1,rfl⟩:=hx.ex;obtain⟨l2,m2,v2,rfl⟩:=hy.ex;rw[<-qM];exact (aRk h n1 a1 b1 l1 m1 n2 a2 b2 l2 m2 tb v1 v2).mono fun v h' _ r=>r.isn (by rw[qM];exact Fok.opR _ _ _)
theorem aYh(h:aA)(n1:Bool)(a1 b1:Sl)(n2:Bool)(a2 b2:Sl)(x y:Option Rat)(tb:Tb h)(hx:bL h n1 a1 b1 x)(hy:bL h n2 a2 b2 y):
  Fn0 T F.q132 [.agg #[.bool n1,a1.val,b1.val],.agg #[.bool n2,a2.val,b2.val]] h fun v h'=>aGb h' v (opR (·*·) x y):=by
 obtain⟨l1,m1,v1,rfl⟩:=hx.ex;obtain⟨l2,m2,v2,rfl⟩:=hy.ex;rw[<-qM];exact (aRn h tb n1 a1 b1 l1 m1 n2 a2 b2 l2 m2 v1 v2).mono fun v h' _ r=>r.isn (by rw[qM];exact Fok.opR _ _ _)
theorem aYi(h:aA)(n1:Bool)(a1 b1:Sl)(n2:Bool)(a2 b2:Sl)(x y:Option Rat)(tb:Tb h)(hx:bL h n1 a1 b1 x)(hy:bL h n2 a2 b2 y):
  Fn0 T F.q133 [.agg #[.bool n1,a1.val,b1.val],.agg #[.bool n2,a2.val,b2.val]] h fun v h'=>aGb h' v (divR x y):=by
 obtain⟨l1,m1,v1,rfl⟩:=hx.ex;obtain⟨l2,m2,v2,rfl⟩:=hy.ex;rw[<-aDu];exact (aRo h tb n1 a1 b1 l1 m1 n2 a2 b2 l2 m2 v1 v2).mono fun v h' _ r=>r.isn (by rw[aDu];exact Fok.divR _ _)
end Go.Proofs.Y
/- Texts: bytes put together to a string; a row of bytes turned round; the decimal digits of a number. -/
namespace Go.Vc
open Go
def txt(l:List Nat):ByteArray:=⟨(l.map UInt8.ofNat).toArray⟩
theorem Ext.text{T:Tab}{h:aA}{L:Own}{k:Value->aA->Own->Prop}{s d e:TypeId}{x:Operand}{v:Value}{n:Nat}{xs:List Nat}
  (hs:T.und s=some (.slice e)) (he:T.und e=some (.int .u8)) (hd:T.und d=some .string) (g:aE e 1 v n (xs.map (vu .u8)) L) (hb:∀y∈xs,y<256) (hne:xs≠[]) (hk:k (.string (txt xs)) h L):
  Ext T (.convert s d x) [x] [v] h L k:=by
 obtain⟨g1,⟨rfl,rfl⟩|⟨i,b,cap,zs,rfl,h2,h3,-⟩⟩:=g
 .exact absurd (aZj (by simpa using g1)) hne
 .refine⟨fun ok o ρ K Q w0 h0 L0 w hop hargs inv hout _ hK=>.inl ?_⟩
  have hn:n=(xs.map UInt8.ofNat).length:=by simpa using g1.symm
  simp only[bAa,bBd,List.cons.injEq,and_true] at hargs;have hrun:=run_convert_bytes_back (P:=T.prog) w s d e ⟨b,0,none⟩ cap (xs.map UInt8.ofNat) (ok.und _ _ hs) (ok.und _ _ he) (ok.und _ _ hd) (fun j hj=>by
    have hj':j<xs.length:=by simpa using hj
    have hc:Has h L ((⟨b,0,none⟩:Addr).add j) (.int .u8 ((xs.getD j 0:Nat):Int)):=by
      rw[aZ,aZq];refine Has.own i h2 ?_;simp[hj',vu,aZe,aY3]
    rw[inv.toSat.cell hc];have hlt:xs[j]<256:=hb _ (bBb hj');simp[hj',aY3,bAm hlt])
  refine bA (w':=w) (v:=.string (txt xs)) ?_ (hK _ _ _ _ inv hk);rw[<-hn] at hrun;simp only[execOp,hop,bAc,hargs,hrun]
  rfl
end Go.Vc
namespace Go.Proofs.Y
open Go Go.Vc Go.Dig

theorem Ld.rz{h:aA}{L:Own}{b i:Nat}{k:Value->Prop}{kd:IntKind}{T:TypeId}{u:List Nat}{zs:List Value}(n:Nat)(hb:L[n]?=some (b,pI kd T u zs))(ho:i<u.length)(hk:k (.int kd ((u.getD i 0:Nat):Int))):Ld h L ⟨b,i,none⟩ k:=
 Ld.o n hb (by simp[ho,vu,aZe,aY3]) hk
theorem Sto.rz{L:Own}{b i:Nat}{kd:IntKind}{T:TypeId}{u:List Nat}{zs:List Value}{v:Int}{k:Own->Prop}(n:Nat)(hb:L[n]?=some (b,pI kd T u zs))(x:Nat)(hx:v=x)(hl:i<u.length)
  (hk:tI (b,pI kd T (u.set i x) zs) L n k):Sto L ⟨b,i,none⟩ [.int kd v] k:=by
 subst hx;refine Sto.sym n hb As rfl ?_;have:(u.map (vu kd)++zs).set i (.int kd x)=(u.set i x).map (vu kd)++zs:=by
  rw[bCe _ _ (by simpa using hl),List.map_set];rfl
 rw[this];exact hk
theorem zV(l:List Nat)(a x i:Nat):(l.set a x).getD i 0=if a=i/\a<l.length then x else l.getD i 0:=by
 rw[aY3,bCx,aY3];by_cases h1:a=i
 .subst h1;by_cases h2:a<l.length
  .simp[h2]
  .rw[if_pos rfl,if_neg h2,if_neg (fun hh=>h2 hh.2),aZ1 Aa]
 .rw[if_neg h1,if_neg (fun hh=>h1 hh.1)]

theorem aGc(h:aA)(b cap:Nat)(xs:List Nat)(zs:List Value)(hn:xs.length<=1099511627776):
  Vc.Fn T F.q217 [.slice (some ⟨b,0,none⟩) xs.length cap] h [(b,pI .u8 Ty.uint8 xs zs)] fun v h' L'=>L'=[(b,pI .u8 Ty.uint8 xs.reverse zs)]:=by
 obtain⟨n,hnn⟩:=AE xs.length;rw[<-hnn] at hn;rw[<-hnn];refine f1C ok D.q217 rfl ?_;conv=>whnf
 repeat' ((first|((first|apply oI.z|apply cI.z))|refine WN.i64 Aa Aa ?_)<;>conv=>whnf)
 refine LpN.of (fun r ρ h' L=>∃(k:Nat) (ys:List Nat),r=n-k/\L=[(b,pI .u8 Ty.uint8 ys zs)]/\rd ρ 2=.int .i64 k/\rd ρ 3=.int .i64 ((n:Int)-1-k)/\2*k<=n/\ys.length=n/\Hq (∀i,i<n->ys.getD i 0=if i<k\/n-1-i<k then xs.getD (n-1-i) 0 else xs.getD i 0)) n
  ⟨0,xs,rfl,rfl,rfl,vi Aa,Aa,hnn.symm,⟨fun i hi=>by rw[if_neg Aa]⟩⟩ ?_
 conv=>whnf
 repeat intro _
 rename_i r h1 L1 hI;obtain⟨k,ys,rfl,rfl,e0,e1,hk,hy,hE⟩:=hI;conv at e0=>lhs;whnf
 subst e0;conv at e1=>lhs;whnf
 subst e1;obtain⟨J,hJ⟩:∃J:Nat,J=n-1-k:=⟨_,rfl⟩
 conv=>whnf
 repeat' ((first|(show WN _ _ _;refine WN.i64 Aa Aa ?_)|(show Idx _ _ _ _ _;first|refine Idx.own k Aa Aa ?_|refine Idx.own J Aa Aa ?_)|(show Ld _ _ _ _;(refine Ld.rz 0 rfl (by first|omega|(simp only[bBf];omega)) ?_))|(show Sto _ _ _ _;(refine Sto.rz 0 rfl _ rfl (by first|omega|(simp only[bBf];omega)) ?_))|((first|apply oI.z|apply cI.z))|refine⟨fun hst=>(by cases (show true=false from hst)),?_⟩|refine DrN.run Al ?_|(apply aB<;>intro _<;>try (exfalso;omega)))<;>conv=>whnf)
 .refine⟨rfl,n-(k+1),Aa,k+1,(ys.set k (ys.getD J 0)).set J (ys.getD k 0),rfl,rfl,vi Aa,vi Aa,Aa,by simp[hy],⟨fun i hi=>?_⟩⟩
  have e1:=hE.out k Aa;have e2:=hE.out J Aa;rw[if_neg Aa] at e1 e2;rw[zV,zV,e1,e2,hE.out i hi];simp only[bBf];by_cases c1:J=i
  .subst c1;rw[if_pos ⟨rfl,Aa⟩,if_pos Aa]
   (congr 1<;>omega)
  .rw[if_neg Aa];by_cases c2:k=i
   .subst c2;rw[if_pos ⟨rfl,Aa⟩,if_pos Aa]
    (congr 1<;>omega)
   .rw[if_neg Aa];by_cases c3:i<k\/n-1-i<k
    .rw[if_pos c3,if_pos Aa]
    .rw[if_neg c3,if_neg Aa]
 .refine RN.done ?_;have:ys=xs.reverse:=by
   apply bCn (by simp[hy,hnn])
   intro i a1 a2;have e:=hE.out i Aa;have e3:(if i<k\/n-1-i<k then xs.getD (n-1-i) 0 else xs.getD i 0)=xs.getD (n-1-i) 0:=by
    split
    .rfl
    ·(congr 1<;>omega)
   rw[e3,aY3,aY3,aY4 a1,aY4 Aa] at e;simp only[Option.getD_some] at e;rw[e,List.getElem_reverse];simp only[hnn]
  rw[this]

def kP(n:Nat):List Nat:=if n=0 then [48] else ((dg 10 n).map (48+·)).reverse
theorem iA:2<=10:=Ag
theorem aHz(n:Nat):∀y∈(dg 10 n).map (48+·),y<256:=fun y hy=>by
 obtain⟨x,hx,rfl⟩:=List.mem_map.1 hy;have:=jZ iA n x hx;omega
theorem xA(h:aA)(a:Sl)(n:Nat)(ha:aJ h a n)(la:ln 4294967296 n<=65536)(lb:ln 10 n<=1048576):Fn0 T F.q173 [a.val] h fun v _=>v=.string (txt (kP n)):=by
 refine f0C ok D.q173 rfl ?_;conv=>whnf
 repeat ((first|apply oI.z|apply cI.z);conv=>whnf)
 skip
 refine LpN.of (fun r ρ h' L=>∃(a:Sl) (v:Value) (xs:List Nat),h.le h'/\rd ρ 0=a.val/\aJ h' a r/\rd ρ 3=v/\aE Ty.uint8 1 v xs.length (xs.map (vu .u8)) L/\ln 4294967296 r<=65536/\Hq (xs++(dg 10 r).map (48+·)=(dg 10 n).map (48+·))) n
  ⟨a,_,[],aA.lr _,rfl,ha,rfl,aE.none,la,⟨rfl⟩⟩ ?_
 conv=>whnf
 repeat intro _
 rename_i r h1 L1 hI;obtain⟨a,v,xs,hle,e0,ha,e1,g,hlr,hx⟩:=hI;conv at e0=>lhs;whnf
 subst e0;conv at e1=>lhs;whnf
 subst e1;have hlen:=congrArg List.length hx.out;rw[aY2,aZp,aZp] at hlen;have hl10:(dg 10 n).length<=1048576:=lb;by_cases h0:r=0
 .subst h0;have hx0:=hx.out;rw[cH,bBd,aZc] at hx0;have hn0:xs=[]->n=0:=fun e=>by
   rw[e] at hx0;by_cases hn:n=0
   .exact hn
   .rw[gJ iA hn] at hx0;cases hx0
  have hd:xs≠[]->xs.reverse=kP n:=fun e=>by
   unfold kP;rw[if_neg (fun hn=>e (by rw[hx0,hn,cH];rfl)),hx0]
  have hz:n=0->kP n=[48]:=fun e=>if_pos e
  have hb8:∀y∈xs.reverse,y<256:=fun y hy=>aHz n y (by rw[<-hx0];simpa using hy)
  obtain⟨g1,⟨rfl,g2⟩|⟨i,b,cap,zs,rfl,g2,g3,g4⟩⟩:=g
  .conv=>whnf
   repeat' first|((first|(show CN _ _ _ _ _ _;refine CN.quiet rfl (iI _ _ _ Ab Aa) ?_)|((first|apply oI.z|apply cI.z)))<;>conv=>whnf)|(show cnd _ _ _;first|(apply aD<;>intro _<;>first|(exfalso;omega)|conv=>whnf)|(refine aI ?_)|(apply aN<;>intro _<;>first|(exfalso;omega)|conv=>whnf))
   exact RN.a (by rw[hz (hn0 (aZj g2))];rfl)
  .have hne:xs.length≠0->xs≠[]:=fun a b=>a (by rw[b];rfl)
   have he:xs.length=0->xs=[]:=aZj;conv=>whnf
   repeat' first|((first|(show CN _ _ _ _ _ _;refine CN.quiet rfl (iI _ _ _ Ab Aa) ?_)|((first|apply oI.z|apply cI.z)))<;>conv=>whnf)|(show cnd _ _ _;first|(apply aD<;>intro _<;>first|(exfalso;omega)|conv=>whnf)|(refine aI ?_)|(apply aN<;>intro _<;>first|(exfalso;omega)|conv=>whnf))
   .exact RN.a (by rw[hz (hn0 (he Aa))];rfl)
   .have hL:i<L1.length:=(aY5.1 g2).1;refine CN.own i g2 rfl (aGc _ b cap xs zs Aa) (fun v h' La hl hr=>?_)
    refine⟨_,hr,?_⟩;conv=>whnf
    repeat ((first|apply oI.z|apply cI.z);conv=>whnf)
    refine Ext.text (n:=xs.length) (xs:=xs.reverse) rfl rfl rfl ⟨by simp,.inr ⟨i,b,cap,zs,rfl,by rw[bAr hL],g3,by simpa using g4⟩⟩ hb8 (by simpa using hne Aa) ?_
    conv=>whnf
    repeat ((first|apply oI.z|apply cI.z);conv=>whnf)
    skip
    exact RN.a (by rw[hd (hne Aa)])
 .obtain⟨R0,hR0⟩:=AE (r%1000000000);obtain⟨Q0,hQ0⟩:=AE (r / 1000000000);have hq1:ln 4294967296 Q0<=65536:=by rw[hQ0];exact aZr (wW r _) hlr
  conv=>whnf
  repeat' first|((first|(show CN _ _ _ _ _ _;first|refine CN.quiet rfl (iI _ _ _ Ab Aa) ?_|(refine CN.f rfl (pE _ _ r 1000000000 Ab Aa Ag Ag) (fun v h2 hl2 hr=>?_);rw[<-hR0,<-hQ0] at hr;obtain⟨qs,rfl,hqs⟩:=hr))|((first|apply oI.z|apply cI.z)))<;>conv=>whnf)|(show cnd _ _ _;first|(refine aI ?_)|(apply aN<;>intro _<;>first|(exfalso;omega)|conv=>whnf))
  refine LpN.of (fun u ρ h' L=>∃(i:Nat) (v:Value) (xs:List Nat) (R:Nat),u=9-i/\i<=9/\h2.le h'/\rd ρ 6=.int .i64 i/\rd ρ 5=.int .u32 R/\rd ρ 3=v/\aE Ty.uint8 1 v xs.length (xs.map (vu .u8)) L/\Hq (R<10^(9-i))/\Hq (xs++(dg 10 (Q0*10^(9-i)+R)).map (48+·)=(dg 10 n).map (48+·))) 9
   ⟨0,_,xs,R0,rfl,Aa,aA.lr _,rfl,rfl,rfl,g,⟨by rw[hR0];exact bAw _ Ag⟩,⟨by rw[hR0,hQ0,aZf,bBm];exact hx.out⟩⟩ ?_
  conv=>whnf
  repeat intro _
  rename_i u h3 L3 hI;obtain⟨i,v,xs,R,rfl,hi,hle3,e6,e5,e3,g,hR,hx2⟩:=hI;conv at e3=>lhs;whnf
  subst e3;conv at e5=>lhs;whnf
  subst e5;conv at e6=>lhs;whnf
  subst e6;have hlen:=congrArg List.length hx2.out;rw[aY2,aZp,aZp] at hlen;have hQr:Q0<r:=Aa;have hR9:R<1000000000:=aZ5 hR.out (show 10^(9-i)<=10^9 from aZ4 Ag Aa);by_cases hc:i<9
  .obtain⟨P,hP⟩:=AE (10^(9-(i+1)));have hP2:10^(9-i)=10*P:=by rw[hP,<-bCk];congr 1;omega
   obtain⟨X,hX⟩:=AE (Q0*P);have hX0:Q0=0->X=0:=fun e=>by rw[hX,e,bAs]
   have hXp:Q0≠0->0<X:=fun e=>by rw[hX,hP];exact Nat.mul_pos Aa (bA9 Ag)
   have hR':=hR.out;have hx3:=hx2.out;have hWX:Q0*(10*P)=10*X:=by rw[hX,bA3]
   rw[hP2,hWX] at hx3;rw[hP2] at hR';replace hx3:=Hq.mk hx3;clear hx2 hR hWX hP2;have hstep:10*X+R≠0->(xs++[48+R%10])++(dg 10 (Q0*10^(9-(i+1))+R / 10)).map (48+·)=(dg 10 n).map (48+·):=fun h=>by
    rw[<-hx3.out,gJ iA h,show (10*X+R)%10=R%10 by omega,show (10*X+R) / 10=X+R / 10 by omega,<-hP,<-hX,aY7]
    rfl
   have hlast:Q0=0->R=0->xs++(dg 10 Q0).map (48+·)=(dg 10 n).map (48+·):=fun e1 e2=>by
    rw[<-hx3.out,hX0 e1,e1,e2]
   have hPR:R / 10<10^(9-(i+1)):=by rw[<-hP];omega
   replace hstep:=Hq.mk hstep;replace hlast:=Hq.mk hlast;replace hPR:=Hq.mk hPR;clear hX hP hx3;conv=>whnf
   repeat' first|((first|(show CN _ _ _ _ _ _;(refine CN.quiet rfl (iI _ _ _ Ai Aa) ?_))|(show iC _ _ _;refine iC.nn Aa Aa ?_)|(show eM _ _ _ _;refine eM.u32 Aa Aa Aa ?_)|(show App _ _ _ _ _ _ _ _ _;refine App.push rfl g (48+R%10) Aa Aa Ag (fun v' L' g'=>?_))|((first|apply oI.z|apply cI.z))|intro (_:Nat)|(show WN _ _ _;first|refine WN.i64 Aa Aa ?_|refine WN.u32 Aa Aa ?_|refine WN.u8 Aa Aa ?_))<;>conv=>whnf)|(show cnd _ _ _;first|(apply aB<;>intro _<;>first|(exfalso;omega)|conv=>whnf)|(refine aI ?_)|(apply aN<;>intro _<;>first|(exfalso;omega)|conv=>whnf))
   all_goals first
    | (rename_i g';exact⟨rfl,9-(i+1),Aa,i+1,_,xs++[48+R%10],R / 10,rfl,Aa,hle3,rfl,vi Aa,rfl,by rw[aY2];exact g',hPR,⟨hstep.out (by first|omega|(have:=hXp Ab;omega))⟩⟩)
    | exact⟨rfl,Q0,hQr,qs,_,xs,Ac,rfl,Ah,rfl,g,hq1,⟨hlast.out Ab Aa⟩⟩
  .obtain rfl:i=9:=Aa;have hR':=hR.out;have hx3:=hx2.out;rw[bBv,bDg] at hR' hx3;obtain rfl:R=0:=Aa;rw[bBk,bAg] at hx3;conv=>whnf
   repeat' ((first|((first|apply oI.z|apply cI.z))|(apply aB<;>intro _<;>try (exfalso;omega)))<;>conv=>whnf)
   all_goals exact⟨rfl,Q0,hQr,qs,_,xs,Ac,rfl,Ah,rfl,g,hq1,⟨hx3⟩⟩

end Go.Proofs.Y
/- Texts of numbers: Format, the reference's Text and Format; what the statement on formats computes: true. -/
namespace Go.Vc
open Go
theorem aGd(a b:List Nat):txt a++txt b=txt (a++b):=by
 unfold txt;apply ByteArray.ext;simp[ByteArray.data_append]
theorem bF(a:List Nat):(txt a).size=a.length:=by unfold txt;simp[ByteArray.size]
theorem Cat.txt{a b:List Nat}{x y:ByteArray}{k:ByteArray->Prop}(hx:x=Vc.txt a)(hy:y=Vc.txt b)(hl:a.length+b.length<=1000000000)(hk:k (Vc.txt (a++b))):Cat x y k:=by
 subst hx hy;exact⟨by rw[bF,bF];omega,by rw[aGd];exact hk⟩
end Go.Vc
namespace Go.Proofs.Y
open Go Go.Vc Go.Dig
def rH(q:Rat):List Nat:=(if sg q then [45]++kP (nu q) else kP (nu q))++(if q.den=1 then [] else [47]++kP q.den)
def sA(n1:Bool)(l1 m1:List Nat):List Nat × Int:=if okR n1 l1 m1 then (rH (aK n1 l1 m1),0) else ([],1)
theorem aXa{n:Nat}(k:Nat)(h:ln 4294967296 n<=k):ln 10 n<=10*k:=by
 rw[aQ iA];have h1:=(aQ tlB).1 h;refine aZ5 h1 ?_;rw[bBw];exact bBx Ag k
theorem aU8{n:Nat}(h:ln 4294967296 n<=64):ln 10 n<=640:=aXa 64 h
theorem sB{n:Nat}(h:ln 4294967296 n<=64):(kP n).length<=641:=by
 have:=aU8 h;unfold kP
 split
 .simp
 .unfold ln at this;simp;omega
theorem aGe(h:aA)(tb:Tb h)(n1:Bool)(a1 b1:Sl)(l1 m1:List Nat)(hv1:aY h a1 b1 l1 m1):
  Fn0 T F.q118 [.agg #[.bool n1,a1.val,b1.val]] h fun v _=>v=.tuple #[.string (txt (sA n1 l1 m1).1),.int .i64 (sA n1 l1 m1).2]:=by
 have f1:okR n1 l1 m1->sA n1 l1 m1=(rH (aK n1 l1 m1),0):=fun x=>if_pos x
 have f2:¬okR n1 l1 m1->sA n1 l1 m1=([],1):=fun x=>if_neg x
 refine f0C ok D.q118 rfl ?_;conv=>whnf
 repeat' first|((first|(show CN _ _ _ _ _ _;(refine CN.f rfl (fE _ Ab _ _ _ l1 m1 Ab) (fun v h' hle1 hr=>?_);obtain⟨s1,c1,d1,rfl,hok1⟩:=hr))|((first|apply oI.z|apply cI.z))|intro (_:Nat)|refine LdN.o 0 rfl rfl ?_|refine Ld.o 0 rfl rfl ?_|refine Sto.l 0 rfl rfl rfl ?_)<;>conv=>whnf)|(show cnd _ _ _;first|(refine aI ?_)|(apply aN<;>intro _<;>first|(exfalso;omega)|conv=>whnf))
 all_goals first
  | (rw[f2 Ab];exact RN.a rfl)
  | skip
 obtain⟨rfl,g1⟩:=hok1 Ab;have k1:okR n1 l1 m1:=Ab;have z1:=okR.sz k1;have t1:=z1.num;have t2:=z1.den;have i1:=g1.num;have i2:=g1.den;have u1:=sB t1;have u2:=sB t2;have w1:=aU8 t1;have w2:=aU8 t2;rw[f1 k1];unfold rH;clear f1 f2 k1 z1 g1 hok1;obtain⟨x,hx⟩:=AE (nu (aK n1 l1 m1));obtain⟨y,hy⟩:=AE ((aK n1 l1 m1).den);obtain⟨s,hs⟩:=AE (sg (aK n1 l1 m1));rw[<-hx] at t1 i1 u1 w1;rw[<-hy] at t2 i2 u2 w2;rw[<-hx,<-hy,<-hs];have c1':=fun h i=>xA h c1 x i Aa Aa
 have c2':=fun h i=>xA h d1 y i Aa Aa
 obtain⟨X,hX⟩:=AE (kP x);obtain⟨Y,hY⟩:=AE (kP y);rw[<-hX] at u1 c1';rw[<-hY] at u2 c2';rw[<-hX,<-hY];clear hx hs hX hY
 repeat' first|((first|(apply aO.go)|(show CN _ _ _ _ _ _;first|(refine CN.quiet rfl (aBf _ _ _ Ai Aa) ?_)|(refine CN.f rfl (c1' _ Ab) (fun v h' hl hr=>?_);obtain rfl:=hr)|(refine CN.f rfl (c2' _ Ah) (fun v h' hl hr=>?_);obtain rfl:=hr))|(show Cat _ _ _;first|(refine Cat.txt (a:=[45]) rfl rfl As ?_)|(refine Cat.txt (a:=[47]) rfl rfl As ?_)|(refine Cat.txt rfl rfl As ?_))|((first|apply oI.z|apply cI.z))|refine Ld.o 0 rfl rfl ?_)<;>conv=>whnf)|(show cnd _ _ _;first|(refine aI ?_)|(apply aN<;>intro _<;>first|(exfalso;omega)|conv=>whnf)|(refine bQ (fun hb=>?_) (fun hb=>?_)<;>(first|cases hb|subst hb)<;>(conv=>whnf)))
 all_goals refine RN.a ?_
 all_goals first
  | (have hy1:y=1:=Ab
     simp[hy1])
  | (have hy1:¬y=1:=Ab
     simp[hy1])

end Go.Proofs.Y
/- Contracts of package number's functions, third part: signs, opposites, absolute values; the reference's absolute value. -/
namespace Go.Dig
def gP(q:Rat):Rat:=mkQ false (nu q) q.den
theorem aM6(q:Rat):sg (gP q)=false:=by unfold gP;rw[aBk false q.den_nz];rfl
theorem xB(q:Rat):nu (gP q)=nu q:=by unfold gP;rw[wR false q.den_nz,cop,bCv]
theorem sC(q:Rat):(gP q).den=q.den:=by unfold gP;rw[rV false q.den_nz,cop,bCv]
end Go.Dig
namespace Go.Proofs.Y
open Go Go.Vc Go.Dig

def mY(n1:Bool)(l1 m1:List Nat):Int × Int:=if okR n1 l1 m1 then (bY (aK n1 l1 m1),0) else (0,1)
theorem aM7(h:aA)(tb:Tb h)(n1:Bool)(a1 b1:Sl)(l1 m1:List Nat)(hv1:aY h a1 b1 l1 m1):
  Fn0 T F.q70 [.agg #[.bool n1,a1.val,b1.val]] h fun v _=>v=.tuple #[.int .i64 (mY n1 l1 m1).1,.int .i64 (mY n1 l1 m1).2]:=by
 have f1:okR n1 l1 m1->mY n1 l1 m1=(bY (aK n1 l1 m1),0):=fun x=>if_pos x
 have f2:¬okR n1 l1 m1->mY n1 l1 m1=(0,1):=fun x=>if_neg x
 refine f0C ok D.q70 rfl ?_;conv=>whnf
 repeat' first|((first|(show CN _ _ _ _ _ _;(refine CN.f rfl (fE _ Ab _ _ _ l1 m1 Ab) (fun v h' hle1 hr=>?_);obtain⟨s1,c1,d1,rfl,hok1⟩:=hr))|((first|apply oI.z|apply cI.z))|intro (_:Nat)|refine LdN.o 0 rfl rfl ?_|refine Sto.l 0 rfl rfl rfl ?_)<;>conv=>whnf)|(show cnd _ _ _;first|(refine aI ?_)|(apply aN<;>intro _<;>first|(exfalso;omega)|conv=>whnf))
 all_goals first
  | (rw[f2 Ab];exact RN.a rfl)
  | skip
 obtain⟨rfl,g1⟩:=hok1 Ab;have k1:okR n1 l1 m1:=Ab;have y1:Sz 1099511627776 (aK n1 l1 m1):=(okR.sz k1).mono Ag;rw[f1 k1]
 repeat' ((first|(show CN _ _ _ _ _ _;refine CN.quiet rfl (qG _ _ _ _ Ab y1) ?_)|((first|apply oI.z|apply cI.z)))<;>conv=>whnf)
 exact RN.a rfl

theorem Op1.neg:Op1 F.q100 (fun q=>-q):=fun h a b q tb h1 z1=>
 (kC h a b q h1 (z1.mono Ag)).mono fun v h' _ r=>⟨a,b,r.2,by rw[r.1];exact bV.neg h1⟩
theorem aRr(h:aA)(tb:Tb h)(n1:Bool)(a1 b1:Sl)(l1 m1:List Nat)(hv1:aY h a1 b1 l1 m1):
  Fn0 T F.q125 [.agg #[.bool n1,a1.val,b1.val]] h fun v h'=>Res h' v (mC (fun q=>-q) n1 l1 m1):=by
 refine f0C ok D.q125 rfl ?_;conv=>whnf
 repeat' ((first|(show CN _ _ _ _ _ _;(refine CN.f rfl (aGa _ Ab _ _ _ _ _ Ab _ _ rfl Op1.neg (fun q a=>(Sz.neg a).mono Ag)) (fun v h' hl hr=>?_);obtain⟨e1,e2,rfl,hq'⟩:=hr))|((first|apply oI.z|apply cI.z))|intro (_:Nat)|(show LdN _ _ _ _ _;first|refine LdN.o 0 rfl rfl ?_|refine LdN.o 1 rfl rfl ?_)|refine Sto.l 0 rfl rfl rfl ?_)<;>conv=>whnf)
 exact RN.a ⟨_,_,rfl,Ab⟩
theorem Sz.abs{k:Nat}{q:Rat}(s:Sz k q):Sz k (gP q):=⟨by rw[xB];exact s.num,by rw[sC];exact s.den⟩
theorem bV.abs{h:aA}{a b:Sl}{q:Rat}(w:bV h a b q):bV h a b (gP q):=⟨by rw[xB];exact w.num,by rw[sC];exact w.den⟩
theorem Op1.abs:Op1 F.q177 gP:=fun h a b q tb h1 z1=>by
 have g:=bV.abs h1;refine f0C ok D.q177 rfl ?_;conv=>whnf
 repeat' ((first|((first|apply oI.z|apply cI.z))|intro (_:Nat)|(show LdN _ _ _ _ _;first|refine LdN.o 0 rfl rfl ?_|refine LdN.o 1 rfl rfl ?_)|(show Sto _ _ _ _;first|refine Sto.l 0 rfl rfl rfl ?_|refine Sto.l 1 rfl rfl rfl ?_))<;>conv=>whnf)
 exact RN.a ⟨_,_,by rw[aM6]<;>rfl,Ab⟩
theorem aRs(h:aA)(tb:Tb h)(n1:Bool)(a1 b1:Sl)(l1 m1:List Nat)(hv1:aY h a1 b1 l1 m1):
  Fn0 T F.q127 [.agg #[.bool n1,a1.val,b1.val]] h fun v h'=>Res h' v (mC gP n1 l1 m1):=by
 refine f0C ok D.q127 rfl ?_;conv=>whnf
 repeat' ((first|(show CN _ _ _ _ _ _;(refine CN.f rfl (aGa _ Ab _ _ _ _ _ Ab _ _ rfl Op1.abs (fun q a=>(Sz.abs a).mono Ag)) (fun v h' hl hr=>?_);obtain⟨e1,e2,rfl,hq'⟩:=hr))|((first|apply oI.z|apply cI.z))|intro (_:Nat)|(show LdN _ _ _ _ _;first|refine LdN.o 0 rfl rfl ?_|refine LdN.o 1 rfl rfl ?_)|refine Sto.l 0 rfl rfl rfl ?_)<;>conv=>whnf)
 exact RN.a ⟨_,_,rfl,Ab⟩
def aRt:Option Rat->Option Rat->Int × Int
 | some x,some y=>(gK x y,0)
 | _,_=>(0,1)
theorem aM8(n1:Bool)(l1 m1:List Nat)(n2:Bool)(l2 m2:List Nat):nY n1 l1 m1 n2 l2 m2=aRt (gT n1 l1 m1) (gT n2 l2 m2):=by
 unfold nY gT;by_cases h1:okR n1 l1 m1<;>by_cases h2:okR n2 l2 m2<;>simp[h1,h2,aRt]
theorem aM9(h:aA)(n1:Bool)(a1 b1:Sl)(n2:Bool)(a2 b2:Sl)(x y:Option Rat)(tb:Tb h)(hx:bL h n1 a1 b1 x)(hy:bL h n2 a2 b2 y):
  Fn0 T F.q134 [.agg #[.bool n1,a1.val,b1.val],.agg #[.bool n2,a2.val,b2.val]] h fun v _=>v=.tuple #[.int .i64 (aRt x y).1,.int .i64 (aRt x y).2]:=by
 obtain⟨l1,m1,v1,rfl⟩:=hx.ex;obtain⟨l2,m2,v2,rfl⟩:=hy.ex;rw[<-aM8];exact aDs h tb n1 a1 b1 l1 m1 n2 a2 b2 l2 m2 v1 v2
def aH0:Option Rat->Int × Int
 | some x=>(bY x,0)
 | none=>(0,1)
theorem aJz(n1:Bool)(l1 m1:List Nat):mY n1 l1 m1=aH0 (gT n1 l1 m1):=by
 unfold mY gT;by_cases h1:okR n1 l1 m1<;>simp[h1,aH0]
theorem aXb(h:aA)(n1:Bool)(a1 b1:Sl)(x:Option Rat)(tb:Tb h)(hx:bL h n1 a1 b1 x):
  Fn0 T F.q70 [.agg #[.bool n1,a1.val,b1.val]] h fun v _=>v=.tuple #[.int .i64 (aH0 x).1,.int .i64 (aH0 x).2]:=by
 obtain⟨l1,m1,v1,rfl⟩:=hx.ex;rw[<-aJz];exact aM7 h tb n1 a1 b1 l1 m1 v1
end Go.Proofs.Y