/- Numbers that a value denotes, with none for a large one: contracts for laws that chain operations; whether two values of any kind are equal. -/
import Derived.Test.YtieblmbjldlaeaaGreatDoorL4
import Derived.Test.YtieblmbjldlaeaaGreatDoorVcMeet
import Derived.Laws.IdiomStrings
set_option linter.all false
set_option maxHeartbeats 2000000
set_option maxRecDepth 20000
namespace Go.Dig
end Go.Dig
namespace Go.Proofs.Y
open Go Go.Vc Go.Dig

def aRt (n:Bool) (l m:List Nat):Option Rat:=if okR n l m then some (aR n l m) else none
structure aA0 (h:aA) (n:Bool) (a b:Sl) (x:Option Rat):Prop where
 ex:∃l m,cB h a b l m∧x=aRt n l m
structure Fok (p:Rat × Int):Prop where
 ft:cK p.1
 err:p.2≠0→p.1=0
theorem pN {q:Rat} (h:cK q):Sz 1073741824 q:=⟨aWd h.1 (by decide),aWd h.2 (by decide)⟩
theorem Fok.sz {p:Rat × Int} (k:Fok p):Sz 1073741824 p.1:=pN k.ft
theorem vY:cK 0:=by
 have h:=aEh 0
 exact ⟨aWd h.num (by decide),aWd h.den (by decide)⟩
theorem Fok.err1 (e:Int):Fok (0,e):=⟨vY,fun _=>rfl⟩
theorem Fok.out (q:Rat):Fok (iA q):=by
 unfold iA
 split
 ·rename_i h;exact ⟨h,fun x=>absurd rfl x⟩
 ·exact Fok.err1 1
def opR (op:Rat→Rat→Rat):Option Rat→Option Rat→Rat × Int
 | some x,some y=>iA (op x y)
 | _,_=>(0,1)
def aU7:Option Rat→Option Rat→Rat × Int
 | some x,some y=>if nu y=0 then (0,10) else iA (x / y)
 | _,_=>(0,1)
def aU8 (h:aA) (v:Value) (p:Rat × Int):Prop:=∃a b:Sl,v=.tuple #[.agg #[.bool (sg p.1),a.val,b.val],.int .i64 p.2]∧jI h a b p.1∧aA0 h (sg p.1) a b (some p.1)
end Go.Proofs.Y
/- Texts: bytes put together to a string; a row of bytes turned round; the decimal digits of a number. -/
namespace Go.Vc
open Go
def txt (l:List Nat):ByteArray:=⟨(l.map UInt8.ofNat).toArray⟩
theorem Ext.text {T:Tab} {h:aA} {L:Own} {k:Value→aA→Own→Prop} {s d e:TypeId} {x:Operand} {v:Value} {n:Nat} {xs:List Nat}
  (hs:T.und s=some (.slice e)) (he:T.und e=some (.int .u8)) (hd:T.und d=some .string) (g:aD e 1 v n (xs.map (vu .u8)) L) (hb:∀y∈xs,y<256) (hne:xs≠[]) (hk:k (.string (txt xs)) h L):
  Ext T (.convert s d x) [x] [v] h L k:=by
 obtain ⟨g1,⟨rfl,rfl⟩|⟨i,b,cap,zs,rfl,h2,h3,-⟩⟩:=g
 ·exact absurd (aV5 (by simpa using g1)) hne
 ·refine ⟨fun ok o ρ K Q w0 h0 L0 w hop hargs inv hout _ hK=>.inl ?_⟩
  have hn:n=(xs.map UInt8.ofNat).length:=by simpa using g1.symm
  simp only [List.map_cons,List.map_nil,List.cons.injEq,and_true] at hargs
  have hrun:=run_convert_bytes_back (P:=T.prog) w s d e ⟨b,0,none⟩ cap (xs.map UInt8.ofNat) (ok.und _ _ hs) (ok.und _ _ he) (ok.und _ _ hd) (fun j hj=>by
    have hj':j<xs.length:=by simpa using hj
    have hc:Has h L ((⟨b,0,none⟩:Addr).add j) (.int .u8 ((xs.getD j 0:Nat):Int)):=by
      rw [bD,aWc]
      refine Has.own i h2 ?_
      simp [hj',vu,aV0,aVp]
    rw [inv.toSat.cell hc]
    have hlt:xs[j]<256:=hb _ (List.getElem_mem hj')
    simp [hj',aVp,Nat.mod_eq_of_lt hlt])
  refine bG (w':=w) (v:=.string (txt xs)) ?_ (hK _ _ _ _ inv hk)
  rw [← hn] at hrun
  simp only [execOp,hop,Sem.run_bind,hargs,hrun]
  rfl
end Go.Vc
namespace Go.Proofs.Y
open Go Go.Vc Go.Dig

theorem Ld.rz {h:aA} {L:Own} {b i:Nat} {k:Value→Prop} {kd:IntKind} {T:TypeId} {u:List Nat} {zs:List Value} (n:Nat) (hb:L[n]?=some (b,mR kd T u zs)) (ho:i<u.length) (hk:k (.int kd ((u.getD i 0:Nat):Int))):Ld h L ⟨b,i,none⟩ k:=
 Ld.o n hb (by simp [ho,vu,aV0,aVp]) hk
theorem Sto.rz {L:Own} {b i:Nat} {kd:IntKind} {T:TypeId} {u:List Nat} {zs:List Value} {v:Int} {k:Own→Prop} (n:Nat) (hb:L[n]?=some (b,mR kd T u zs)) (x:Nat) (hx:v=x) (hl:i<u.length)
  (hk:qQ (b,mR kd T (u.set i x) zs) L n k):Sto L ⟨b,i,none⟩ [.int kd v] k:=by
 subst hx
 refine Sto.sym n hb (by simp;omega) rfl ?_
 have:(u.map (vu kd)++zs).set i (.int kd x)=(u.set i x).map (vu kd)++zs:=by
  rw [List.set_append_left _ _ (by simpa using hl),List.map_set];rfl
 rw [this];exact hk
theorem vZ (l:List Nat) (a x i:Nat):(l.set a x).getD i 0=if a=i∧a<l.length then x else l.getD i 0:=by
 rw [aVp,List.getElem?_set,aVp]
 by_cases h1:a=i
 ·subst h1
  by_cases h2:a<l.length
  ·simp [h2]
  ·rw [if_pos rfl,if_neg h2,if_neg (fun hh=>h2 hh.2),List.getElem?_eq_none (by omega)]
 ·rw [if_neg h1,if_neg (fun hh=>h1 hh.1)]

theorem aCy (h:aA) (b cap:Nat) (xs:List Nat) (zs:List Value) (hn:xs.length≤1099511627776):
  Vc.Fn T F.q224 [.slice (some ⟨b,0,none⟩) xs.length cap] h [(b,mR .u8 Ty.uint8 xs zs)] fun v h' L'=>L'=[(b,mR .u8 Ty.uint8 xs.reverse zs)]:=by
 obtain ⟨n,hnn⟩:∃n,n=xs.length:=⟨_,rfl⟩
 rw [← hnn] at hn
 rw [← hnn]
 refine f1C ok D.q224 rfl ?_
 conv=>whnf
 repeat' first|((first|((first|apply oI.z|apply cI.z))|refine WN.i64 (by omega) (by omega) ?_) <;> (conv=>whnf))
 refine LpN.of (fun r ρ h' L=>∃(k:Nat) (ys:List Nat),r=n-k∧L=[(b,mR .u8 Ty.uint8 ys zs)]∧rd ρ 2=.int .i64 k∧rd ρ 3=.int .i64 ((n:Int)-1-k)∧2*k≤n∧ys.length=n∧Hq (∀i,i<n→ys.getD i 0=if i<k∨n-1-i<k then xs.getD (n-1-i) 0 else xs.getD i 0)) n
  ⟨0,xs,rfl,rfl,rfl,vi (by omega),by omega,hnn.symm,⟨fun i hi=>by rw [if_neg (by omega)]⟩⟩ ?_
 conv=>whnf
 repeat intro _
 rename_i r h1 L1 hI
 obtain ⟨k,ys,rfl,rfl,e0,e1,hk,hy,hE⟩:=hI
 conv at e0=>lhs;whnf
 subst e0
 conv at e1=>lhs;whnf
 subst e1
 obtain ⟨J,hJ⟩:∃J:Nat,J=n-1-k:=⟨_,rfl⟩
 conv=>whnf
 repeat' first|((first|(show WN _ _ _;refine WN.i64 (by omega) (by omega) ?_)|(show Idx _ _ _ _ _;first|refine Idx.own k (by omega) (by omega) ?_|refine Idx.own J (by omega) (by omega) ?_)|(show Ld _ _ _ _;(refine Ld.rz 0 rfl (by first|omega|(simp only [List.length_set];omega)) ?_))|(show Sto _ _ _ _;(refine Sto.rz 0 rfl _ rfl (by first|omega|(simp only [List.length_set];omega)) ?_))|((first|apply oI.z|apply cI.z))|refine ⟨fun hst=>(by cases (show true=false from hst)),?_⟩|refine DrN.run (by decide +kernel) ?_) <;> (conv=>whnf))|(apply aB<;>intro _<;>first|(exfalso;omega)|conv=>whnf)
 ·refine ⟨rfl,n-(k+1),by omega,k+1,(ys.set k (ys.getD J 0)).set J (ys.getD k 0),rfl,rfl,vi (by omega),vi (by omega),by omega,by simp [hy],⟨fun i hi=>?_⟩⟩
  have e1:=hE.out k (by omega)
  have e2:=hE.out J (by omega)
  rw [if_neg (by omega)] at e1 e2
  rw [vZ,vZ,e1,e2,hE.out i hi]
  simp only [List.length_set]
  by_cases c1:J=i
  ·subst c1
   rw [if_pos ⟨rfl,by omega⟩,if_pos (by omega)]
   (congr 1 <;> omega)
  ·rw [if_neg (by omega)]
   by_cases c2:k=i
   ·subst c2
    rw [if_pos ⟨rfl,by omega⟩,if_pos (by omega)]
    (congr 1 <;> omega)
   ·rw [if_neg (by omega)]
    by_cases c3:i<k∨n-1-i<k
    ·rw [if_pos c3,if_pos (by omega)]
    ·rw [if_neg c3,if_neg (by omega)]
 ·refine RN.done ?_
  have:ys=xs.reverse:=by
   apply List.ext_getElem (by simp [hy,hnn])
   intro i a1 a2
   have e:=hE.out i (by omega)
   have e3:(if i<k∨n-1-i<k then xs.getD (n-1-i) 0 else xs.getD i 0)=xs.getD (n-1-i) 0:=by
    split
    ·rfl
    ·(congr 1 <;> omega)
   rw [e3,aVp,aVp,aVq a1,aVq (by omega)] at e
   simp only [Option.getD_some] at e
   rw [e,List.getElem_reverse]
   simp only [hnn]
  rw [this]

def fR (n:Nat):List Nat:=if n=0 then [48] else ((dg 10 n).map (48+·)).reverse
theorem dX:2≤10:=by decide
theorem aEj (n:Nat):∀y∈(dg 10 n).map (48+·),y<256:=fun y hy=>by
 obtain ⟨x,hx,rfl⟩:=List.mem_map.1 hy
 have:=iU dX n x hx
 omega
theorem tO (h:aA) (a:Sl) (n:Nat) (ha:aJ h a n) (la:ln 4294967296 n≤65536) (lb:ln 10 n≤1048576):Fn0 T F.q192 [a.val] h fun v _=>v=.string (txt (fR n)):=by
 refine f0C ok D.q192 rfl ?_
 conv=>whnf
 repeat ((first|apply oI.z|apply cI.z);conv=>whnf)
 skip
 refine LpN.of (fun r ρ h' L=>∃(a:Sl) (v:Value) (xs:List Nat),h.le h'∧rd ρ 0=a.val∧aJ h' a r∧rd ρ 3=v∧aD Ty.uint8 1 v xs.length (xs.map (vu .u8)) L∧ln 4294967296 r≤65536∧Hq (xs++(dg 10 r).map (48+·)=(dg 10 n).map (48+·))) n
  ⟨a,_,[],aA.lr _,rfl,ha,rfl,aD.none,la,⟨rfl⟩⟩ ?_
 conv=>whnf
 repeat intro _
 rename_i r h1 L1 hI
 obtain ⟨a,v,xs,hle,e0,ha,e1,g,hlr,hx⟩:=hI
 conv at e0=>lhs;whnf
 subst e0
 conv at e1=>lhs;whnf
 subst e1
 have hlen:=congrArg List.length hx.out
 rw [aVo,aWb,aWb] at hlen
 have hl10:(dg 10 n).length≤1048576:=lb
 by_cases h0:r=0
 ·subst h0
  have hx0:=hx.out
  rw [bS,List.map_nil,aVy] at hx0
  have hn0:xs=[]→n=0:=fun e=>by
   rw [e] at hx0
   by_cases hn:n=0
   ·exact hn
   ·rw [eX dX hn] at hx0;cases hx0
  have hd:xs≠[]→xs.reverse=fR n:=fun e=>by
   unfold fR
   rw [if_neg (fun hn=>e (by rw [hx0,hn,bS];rfl)),hx0]
  have hz:n=0→fR n=[48]:=fun e=>if_pos e
  have hb8:∀y∈xs.reverse,y<256:=fun y hy=>aEj n y (by rw [← hx0];simpa using hy)
  obtain ⟨g1,⟨rfl,g2⟩|⟨i,b,cap,zs,rfl,g2,g3,g4⟩⟩:=g
  ·conv=>whnf
   repeat' first|((first|(show CN _ _ _ _ _ _;refine CN.quiet rfl (iV _ _ _ (by assumption) (by omega)) ?_)|((first|apply oI.z|apply cI.z))) <;> (conv=>whnf))|(show cnd _ _ _;first|(apply aE<;>intro _<;>first|(exfalso;omega)|conv=>whnf)|(refine aI ?_)|(apply bJ<;>intro _<;>first|(exfalso;omega)|conv=>whnf))
   exact RN.a (by rw [hz (hn0 (aV5 g2))];rfl)
  ·have hne:xs.length≠0→xs≠[]:=fun a b=>a (by rw [b];rfl)
   have he:xs.length=0→xs=[]:=aV5
   conv=>whnf
   repeat' first|((first|(show CN _ _ _ _ _ _;refine CN.quiet rfl (iV _ _ _ (by assumption) (by omega)) ?_)|((first|apply oI.z|apply cI.z))) <;> (conv=>whnf))|(show cnd _ _ _;first|(apply aE<;>intro _<;>first|(exfalso;omega)|conv=>whnf)|(refine aI ?_)|(apply bJ<;>intro _<;>first|(exfalso;omega)|conv=>whnf))
   ·exact RN.a (by rw [hz (hn0 (he (by omega)))];rfl)
   ·have hL:i<L1.length:=(aVr.1 g2).1
    refine CN.own i g2 rfl (aCy _ b cap xs zs (by omega)) (fun v h' La hl hr=>?_)
    refine ⟨_,hr,?_⟩
    conv=>whnf
    repeat ((first|apply oI.z|apply cI.z);conv=>whnf)
    refine Ext.text (n:=xs.length) (xs:=xs.reverse) rfl rfl rfl ⟨by simp,.inr ⟨i,b,cap,zs,rfl,by rw [List.getElem?_set_self hL],g3,by simpa using g4⟩⟩ hb8 (by simpa using hne (by omega)) ?_
    conv=>whnf
    repeat ((first|apply oI.z|apply cI.z);conv=>whnf)
    skip
    exact RN.a (by rw [hd (hne (by omega))])
 ·obtain ⟨R0,hR0⟩:∃R0,R0=r%1000000000:=⟨_,rfl⟩
  obtain ⟨Q0,hQ0⟩:∃Q0,Q0=r / 1000000000:=⟨_,rfl⟩
  have hq1:ln 4294967296 Q0≤65536:=by rw [hQ0];exact aWd (aCr r _) hlr
  conv=>whnf
  repeat' first|((first|(show CN _ _ _ _ _ _;first|refine CN.quiet rfl (iV _ _ _ (by assumption) (by omega)) ?_|(refine CN.f rfl (rN _ _ r 1000000000 (by assumption) (by omega) (by decide) (by decide)) (fun v h2 hl2 hr=>?_);rw [← hR0,← hQ0] at hr;obtain ⟨qs,rfl,hqs⟩:=hr))|((first|apply oI.z|apply cI.z))) <;> (conv=>whnf))|(show cnd _ _ _;first|(refine aI ?_)|(apply bJ<;>intro _<;>first|(exfalso;omega)|conv=>whnf))
  refine LpN.of (fun u ρ h' L=>∃(i:Nat) (v:Value) (xs:List Nat) (R:Nat),u=9-i∧i≤9∧h2.le h'∧rd ρ 6=.int .i64 i∧rd ρ 5=.int .u32 R∧rd ρ 3=v∧aD Ty.uint8 1 v xs.length (xs.map (vu .u8)) L∧Hq (R<10^(9-i))∧Hq (xs++(dg 10 (Q0*10^(9-i)+R)).map (48+·)=(dg 10 n).map (48+·))) 9
   ⟨0,_,xs,R0,rfl,by omega,aA.lr _,rfl,rfl,rfl,g,⟨by rw [hR0];exact Nat.mod_lt _ (by decide)⟩,⟨by rw [hR0,hQ0,aV1,Nat.div_add_mod];exact hx.out⟩⟩ ?_
  conv=>whnf
  repeat intro _
  rename_i u h3 L3 hI
  obtain ⟨i,v,xs,R,rfl,hi,hle3,e6,e5,e3,g,hR,hx2⟩:=hI
  conv at e3=>lhs;whnf
  subst e3
  conv at e5=>lhs;whnf
  subst e5
  conv at e6=>lhs;whnf
  subst e6
  have hlen:=congrArg List.length hx2.out
  rw [aVo,aWb,aWb] at hlen
  have hQr:Q0<r:=by omega
  have hR9:R<1000000000:=Nat.lt_of_lt_of_le hR.out (show 10^(9-i)≤10^9 from Nat.pow_le_pow_right (by decide) (by omega))
  by_cases hc:i<9
  ·obtain ⟨P,hP⟩:∃P,P=10^(9-(i+1)):=⟨_,rfl⟩
   have hP2:10^(9-i)=10*P:=by rw [hP,← Nat.pow_succ'];congr 1;omega
   obtain ⟨X,hX⟩:∃X,X=Q0*P:=⟨_,rfl⟩
   have hX0:Q0=0→X=0:=fun e=>by rw [hX,e,Nat.zero_mul]
   have hXp:Q0≠0→0<X:=fun e=>by rw [hX,hP];exact Nat.mul_pos (by omega) (Nat.pow_pos (by decide))
   have hR':=hR.out
   have hx3:=hx2.out
   have hWX:Q0*(10*P)=10*X:=by rw [hX,Nat.mul_left_comm]
   rw [hP2,hWX] at hx3
   rw [hP2] at hR'
   replace hx3:=Hq.mk hx3
   clear hx2 hR hWX hP2
   have hstep:10*X+R≠0→(xs++[48+R%10])++(dg 10 (Q0*10^(9-(i+1))+R / 10)).map (48+·)=(dg 10 n).map (48+·):=fun h=>by
    rw [← hx3.out,eX dX h,show (10*X+R)%10=R%10 by omega,show (10*X+R) / 10=X+R / 10 by omega,← hP,← hX,aVt]
    rfl
   have hlast:Q0=0→R=0→xs++(dg 10 Q0).map (48+·)=(dg 10 n).map (48+·):=fun e1 e2=>by
    rw [← hx3.out,hX0 e1,e1,e2]
   have hPR:R / 10<10^(9-(i+1)):=by rw [← hP];omega
   replace hstep:=Hq.mk hstep
   replace hlast:=Hq.mk hlast
   replace hPR:=Hq.mk hPR
   clear hX hP hx3
   conv=>whnf
   repeat' first|((first|(show CN _ _ _ _ _ _;(refine CN.quiet rfl (iV _ _ _ (by (iterate 30 try first|assumption|refine Ws.mono ?_ (by assumption));first|done|assumption) (by omega)) ?_))|(show gA _ _ _;refine gA.nn (by omega) (by omega) ?_)|(show dN _ _ _ _;refine dN.u32 (by omega) (by omega) (by omega) ?_)|(show App _ _ _ _ _ _ _ _ _;refine App.push rfl g (48+R%10) (by omega) (by omega) (by decide) (fun v' L' g'=>?_))|((first|apply oI.z|apply cI.z))|intro (_:Nat)|(show WN _ _ _;first|refine WN.i64 (by omega) (by omega) ?_|refine WN.u32 (by omega) (by omega) ?_|refine WN.u8 (by omega) (by omega) ?_)) <;> (conv=>whnf))|(show cnd _ _ _;first|(apply aB<;>intro _<;>first|(exfalso;omega)|conv=>whnf)|(refine aI ?_)|(apply bJ<;>intro _<;>first|(exfalso;omega)|conv=>whnf))
   all_goals first
    | (rename_i g';exact ⟨rfl,9-(i+1),by omega,i+1,_,xs++[48+R%10],R / 10,rfl,by omega,hle3,rfl,vi (by omega),rfl,by rw [aVo];exact g',hPR,⟨hstep.out (by first|omega|(have:=hXp (by assumption);omega))⟩⟩)
    | exact ⟨rfl,Q0,hQr,qs,_,xs,(by (iterate 30 try first|assumption|refine aA.lt ?_ (by assumption));first|done|assumption),rfl,(by (iterate 30 try first|assumption|refine aJ.mono ?_ (by assumption));first|done|assumption),rfl,g,hq1,⟨hlast.out (by assumption) (by omega)⟩⟩
  ·obtain rfl:i=9:=by omega
   have hR':=hR.out
   have hx3:=hx2.out
   rw [Nat.sub_self,Nat.pow_zero] at hR' hx3
   obtain rfl:R=0:=by omega
   rw [Nat.mul_one,Nat.add_zero] at hx3
   conv=>whnf
   repeat' first|((first|((first|apply oI.z|apply cI.z))) <;> (conv=>whnf))|(apply aB<;>intro _<;>first|(exfalso;omega)|conv=>whnf)
   all_goals exact ⟨rfl,Q0,hQr,qs,_,xs,(by (iterate 30 try first|assumption|refine aA.lt ?_ (by assumption));first|done|assumption),rfl,(by (iterate 30 try first|assumption|refine aJ.mono ?_ (by assumption));first|done|assumption),rfl,g,hq1,⟨hx3⟩⟩

theorem aCz {ds:List Nat} {j:Nat} (hj:j<ds.length):(ds.map (48+·)).getD j 0=48+ds.getD j 0:=by
 simp [aVp,hj]
theorem aGb {l:List Nat} {k:Nat} (h0:0<k) (hk:k≤l.length):(l.drop (k-1)).reverse=(l.drop k).reverse++[l.getD (k-1) 0]:=by
 have h:k-1<l.length:=by omega
 rw [List.drop_eq_getElem_cons h,List.reverse_cons,show k-1+1=k by omega]
 simp [aVp,h]
theorem tP (h:aA) (a:Sl) (n:Nat) (ha:aS h a n) (la:ln 65536 n≤65536) (lb:ln 10 n≤1048576):Fn0 T F.q124 [a.val] h fun v _=>v=.string (txt (fR n)):=by
 have hal:=ha.len
 have hz:=aW tlb (n:=n)
 by_cases h00:n=0
 ·have hz0:=hz.2 h00
  clear hz
  refine f0C ok D.q124 rfl ?_
  conv=>whnf
  repeat' first|((first|((first|apply oI.z|apply cI.z))) <;> (conv=>whnf))|(apply aE<;>intro _<;>first|(exfalso;omega)|conv=>whnf)
  exact RN.a (by rw [fR,if_pos h00];rfl)
 have hz0:ln 65536 n≠0:=fun e=>h00 (hz.1 e)
 clear hz
 refine f0C ok D.q124 rfl ?_
 conv=>whnf
 repeat' first|((first|((first|apply oI.z|apply cI.z))) <;> (conv=>whnf))|(apply aE<;>intro _<;>first|(exfalso;omega)|conv=>whnf)
 clear hz0 hal
 refine LpN.of (fun r ρ h' L=>∃(a:Sl) (v:Value) (ds:List Nat),h.le h'∧rd ρ 0=a.val∧aS h' a r∧rd ρ 3=v∧aD Ty.uint8 1 v ds.length ((ds.map (48+·)).map (vu .u8)) L∧ln 65536 r≤65536∧ds.length≤1048580∧(∀d∈ds,d<10)∧Hq (evl 10 ds+10^ds.length*r=n)) n
  ⟨a,_,[],aA.lr _,rfl,ha,rfl,aD.none,la,by simp,by simp,⟨by simp [bF]⟩⟩ ?_
 conv=>whnf
 repeat intro _
 rename_i r h1 L1 hI
 obtain ⟨a,v,ds,hle,e0,ha,e3,g,hlr,hdl,hd10,hE⟩:=hI
 conv at e0=>lhs;whnf
 subst e0
 conv at e3=>lhs;whnf
 subst e3
 have hal:=ha.len
 have hz:=aW tlb (n:=r)
 by_cases h0:r=0
 ·subst h0
  have hz0:=hz.2 rfl
  clear hz
  have hev:=hE.out
  rw [Nat.mul_zero,Nat.add_zero] at hev
  have hne:ds.length≠0:=fun e=>by
   rw [aV5 e,bF] at hev
   exact h00 hev.symm
  obtain ⟨g1,⟨rfl,g2⟩|⟨i,b,cap,zs,rfl,g2,g3,g4⟩⟩:=g
  ·exact absurd g2 hne
  obtain ⟨E,hEe⟩:∃E,E=ds.map (48+·):=⟨_,rfl⟩
  have hEl:E.length=ds.length:=by rw [hEe];simp
  have hEg:∀j,j<ds.length→E.getD j 0=48+ds.getD j 0:=fun j hj=>by rw [hEe];exact aCz hj
  have hE8:∀y∈E,y<256:=fun y hy=>by
   rw [hEe] at hy
   obtain ⟨x,hx,rfl⟩:=List.mem_map.1 hy
   have:=hd10 x hx
   omega
  rw [← hEe] at g1 g2 g4
  conv=>whnf
  repeat' first|((first|((first|apply oI.z|apply cI.z))) <;> (conv=>whnf))|(apply aB<;>intro _<;>first|(exfalso;omega)|conv=>whnf)
  refine LpN.keep i g2 fun hle4=>?_
  have w:Ws .u8 (h1.put b (.cells (E.map (vu .u8)++zs).toArray Ty.uint8 (0,0))) ⟨some ⟨b,0,none⟩,ds.length,cap⟩ E:=Ws.grown hEl.symm g3
  obtain ⟨h5,hh5⟩:∃h5,h5=h1.put b (.cells (E.map (vu .u8)++zs).toArray Ty.uint8 (0,0)):=⟨_,rfl⟩
  rw [← hh5] at w
  rw [← hh5]
  obtain ⟨L5,hL5⟩:∃L5,L5=L1.eraseIdx i:=⟨_,rfl⟩
  rw [← hL5]
  refine LpN.of (fun u ρ h' L=>h'=h5∧L=L5∧rd ρ 6=.int .i64 u∧1≤u∧u≤ds.length∧Hq (∀i,u≤i→i<ds.length→ds.getD i 0=0)) ds.length
   ⟨rfl,rfl,rfl,by omega,by omega,⟨fun i h1 h2=>by omega⟩⟩ ?_
  conv=>whnf
  repeat intro _
  rename_i u h6 L6 hI
  obtain ⟨rfl,rfl,e6,hu1,hu2,hzz⟩:=hI
  conv at e6=>lhs;whnf
  subst e6
  have hget:=hEg (u-1) (by omega)
  have hstop:u=1∨ds.getD (u-1) 0≠0→dg 10 n=ds.take u:=fun hh=>by
   rw [← hev]
   refine xN dX hu2 hd10 hzz.out (.inr ?_)
   rcases hh with rfl|hh
   ·intro h0
    apply h00
    rw [← hev]
    refine eU 10 fun x hx=>?_
    obtain ⟨j,hj,rfl⟩:=List.getElem_of_mem hx
    by_cases hj0:j=0
    ·subst hj0
     simpa [aVp,hj] using h0
    ·have:=hzz.out j (by omega) hj
     simpa [aVp,hj] using this
   ·exact hh
  have hnext:ds.getD (u-1) 0=0→∀i,u-1≤i→i<ds.length→ds.getD i 0=0:=fun h0 i h1 h2=>by
   by_cases hi:i=u-1
   ·subst hi;exact h0
   ·exact hzz.out i (by omega) h2
  replace hstop:=Hq.mk hstop
  replace hnext:=Hq.mk hnext
  conv=>whnf
  repeat' first|((first|(show Idx _ _ _ _ _;refine Idx.ws w (u-1) (by omega) (by omega) (fun ad hv=>?_))|(show Ld _ _ _ _;(refine Ld.of (by first|exact hv _|(rename_i hv;exact hv _)) ?_))|(show Mk _ _ _;first|refine Mk.of 0 (by omega) (by omega) (by omega) ?_|refine Mk.of u (by omega) (by omega) (by omega) ?_)|refine ⟨aWe _,?_⟩|((first|apply oI.z|apply cI.z))|intro (_:Nat)|refine WN.i64 (by omega) (by omega) ?_) <;> (conv=>whnf))|(show cnd _ _ _;first|(apply aB<;>intro _<;>first|(exfalso;omega)|conv=>whnf)|(apply aE<;>intro _<;>first|(exfalso;omega)|conv=>whnf))
  all_goals first
   | exact ⟨rfl,u-1,by omega,rfl,rfl,vi (by omega),by omega,by omega,⟨hnext.out (by omega)⟩⟩
   | skip
  all_goals
   have hds:dg 10 n=ds.take u:=hstop.out (by omega)
   obtain ⟨G,hG⟩:∃G,G=E.take u:=⟨_,rfl⟩
   have hGl:G.length=u:=by rw [hG];simp;omega
   have hGg:∀j,j<u→G.getD j 0=E.getD j 0:=fun j hj=>by
    rw [hG];simp [aVp,List.getElem?_take,hj]
   have hG8:∀y∈G,y<256:=fun y hy=>hE8 y (by rw [hG] at hy;exact List.mem_of_mem_take hy)
   have hGd:G.reverse=fR n:=by
    rw [fR,if_neg h00,hds,hG,hEe,List.map_take]
   clear hstop hnext hG
   refine LpN.of (fun k ρ h' L=>∃(v:Value),Ws .u8 h' ⟨some ⟨b,0,none⟩,ds.length,cap⟩ E∧rd ρ 8=.int .i64 ((k:Int)-1)∧rd ρ 7=v∧k≤u∧aD Ty.uint8 1 v (u-k) ((G.drop k).reverse.map (vu .u8)) L) u
    ⟨_,w,vi (by omega),rfl,aWf _,by rw [Nat.sub_self,List.drop_of_length_le (by omega)];exact aD.new 0 rfl⟩ ?_
   clear w
   conv=>whnf
   repeat intro _
   rename_i k h7 L7 hI
   obtain ⟨v,w,e8,e7,hk,g⟩:=hI
   conv at e7=>lhs;whnf
   subst e7
   conv at e8=>lhs;whnf
   subst e8
   have hget:=hGg (k-1)
   replace hget:=Hq.mk hget
   conv=>whnf
   repeat ((first|apply oI.z|apply cI.z);conv=>whnf)
  all_goals (repeat' first|((first|(show Idx _ _ _ _ _;refine Idx.ws w (k-1) (by omega) (by omega) (fun ad hv=>?_))|(show Ld _ _ _ _;(refine Ld.of (by first|exact hv _|(rename_i hv;exact hv _)) ?_))|(show App _ _ _ _ _ _ _ _ _;refine App.push rfl g (E.getD (k-1) 0) rfl (by omega) (by decide) (fun v' L' g'=>?_))|(show Ext _ _ _ _ _ _ _;(refine Ext.text rfl rfl rfl g (fun y hy=>hG8 y (List.mem_of_mem_drop (List.mem_reverse.1 hy))) (fun hh=>by have:=congrArg List.length hh;simp at this;omega) ?_))|((first|apply oI.z|apply cI.z))|intro (_:Nat)|refine WN.i64 (by omega) (by omega) ?_) <;> (conv=>whnf))|(apply bI<;>intro _<;>first|(exfalso;omega)|conv=>whnf))
  all_goals first
   | (rename_i g';exact ⟨rfl,k-1,by omega,_,w,vi (by omega),rfl,by omega,by rw [aGb (by omega) (by omega),hget.out (by omega),show u-(k-1)=u-k+1 by omega];exact g'⟩)
   | (obtain rfl:k=0:=by omega
      exact RN.a (by rw [← hGd,List.drop_zero]))
 ·have hz0:ln 65536 r≠0:=fun e=>h0 (hz.1 e)
  clear hz
  have hdl2:ds.length≤1048576:=by
   have h1:10^ds.length*1≤n:=aWd (Nat.mul_le_mul_left _ (by omega:1≤r)) (by have:=hE.out;omega)
   have h2:n<10^ln 10 n:=bW dX n
   have h3:10^ds.length<10^ln 10 n:=by omega
   have:=(Nat.pow_lt_pow_iff_right (by decide:1<10)).1 h3
   omega
  obtain ⟨R0,hR0⟩:∃R0,R0=r%10000:=⟨_,rfl⟩
  obtain ⟨Q0,hQ0⟩:∃Q0,Q0=r / 10000:=⟨_,rfl⟩
  have hq1:ln 65536 Q0≤65536:=by rw [hQ0];exact aWd (cO tlb (Nat.div_le_self r _)) hlr
  have hQr:Q0<r:=by omega
  conv=>whnf
  repeat' first|((first|(show CN _ _ _ _ _ _;(refine CN.f rfl (aAv _ _ r 10000 (by assumption) (by omega) (by decide) (by decide)) (fun v h2 hl2 hr=>?_);rw [← hR0,← hQ0] at hr;obtain ⟨qs,rfl,hqs⟩:=hr))|((first|apply oI.z|apply cI.z))) <;> (conv=>whnf))|(apply aB<;>intro _<;>first|(exfalso;omega)|conv=>whnf)
  refine LpN.of (fun u ρ h' L=>∃(i:Nat) (v:Value) (es:List Nat) (R:Nat),u=4-i∧i≤4∧h2.le h'∧rd ρ 20=.int .i64 i∧rd ρ 5=.int .u32 R∧rd ρ 3=v∧aD Ty.uint8 1 v es.length ((es.map (48+·)).map (vu .u8)) L∧es.length=ds.length+i∧(∀d∈es,d<10)∧R<10000∧Hq (R<10^(4-i))∧Hq (evl 10 es+10^es.length*(Q0*10^(4-i)+R)=n)) 4
   ⟨0,_,ds,R0,rfl,by omega,aA.lr _,rfl,rfl,rfl,g,by omega,hd10,by omega,⟨by omega⟩,⟨by rw [hR0,hQ0,aV1 (r / 10000),Nat.div_add_mod];exact hE.out⟩⟩ ?_
  conv=>whnf
  repeat intro _
  rename_i u h3 L3 hI
  obtain ⟨i,v,es,R,rfl,hi,hle3,e20,e5,e3,g,hel,he10,hR4,hR,hx⟩:=hI
  conv at e3=>lhs;whnf
  subst e3
  conv at e5=>lhs;whnf
  subst e5
  conv at e20=>lhs;whnf
  subst e20
  have hnx:i<4→evl 10 (es++[R%10])+10^(es++[R%10]).length*(Q0*10^(4-(i+1))+R / 10)=n:=fun hc=>by
   have hP2:10^(4-i)=10*10^(4-(i+1)):=by rw [← Nat.pow_succ'];congr 1;omega
   have h:=hx.out
   rw [hP2] at h
   rw [dR,aVo,List.length_singleton,Nat.pow_succ,dG,bF,Nat.mul_zero,Nat.add_zero,← h,Nat.add_assoc]
   congr 1
   rw [Nat.mul_assoc,← Nat.mul_add]
   congr 1
   obtain ⟨X,hX⟩:∃X,X=Q0*10^(4-(i+1)):=⟨_,rfl⟩
   rw [Nat.mul_left_comm,← hX]
   omega
  have hRn:i<4→R / 10<10^(4-(i+1)):=fun hc=>by
   have hP2:10^(4-i)=10*10^(4-(i+1)):=by rw [← Nat.pow_succ'];congr 1;omega
   have h:=hR.out
   rw [hP2] at h
   omega
  have hlast:i=4→evl 10 es+10^es.length*Q0=n:=fun hc=>by
   subst hc
   have h1:=hR.out
   have h2:=hx.out
   rw [Nat.sub_self,Nat.pow_zero] at h1 h2
   obtain rfl:R=0:=by omega
   simpa using h2
  have hm:∀d∈es++[R%10],d<10:=gR he10 (by omega)
  replace hnx:=Hq.mk hnx
  replace hlast:=Hq.mk hlast
  replace hRn:=Hq.mk hRn
  clear hx hR
  conv=>whnf
  repeat' first|((first|(show gA _ _ _;refine gA.nn (by omega) (by omega) ?_)|(show dN _ _ _ _;refine dN.u32 (by omega) (by omega) (by omega) ?_)|(show App _ _ _ _ _ _ _ _ _;refine App.push rfl g (48+R%10) (by omega) (by omega) (by decide) (fun v' L' g'=>?_))|((first|apply oI.z|apply cI.z))|intro (_:Nat)|(show WN _ _ _;first|refine WN.i64 (by omega) (by omega) ?_|refine WN.u32 (by omega) (by omega) ?_|refine WN.u8 (by omega) (by omega) ?_)) <;> (conv=>whnf))|(apply aB<;>intro _<;>first|(exfalso;omega)|conv=>whnf)
  all_goals first
   | (rename_i g';exact ⟨rfl,4-(i+1),by omega,i+1,_,es++[R%10],R / 10,rfl,by omega,hle3,vi (by omega),vi (by omega),rfl,by rw [aVo,aV3];exact g',by rw [aVo,hel];simp;omega,hm,by omega,⟨hRn.out (by omega)⟩,⟨hnx.out (by omega)⟩⟩)
   | exact ⟨rfl,Q0,hQr,qs,_,es,(by (iterate 30 try first|assumption|refine aA.lt ?_ (by assumption));first|done|assumption),rfl,(by (iterate 30 try first|assumption|refine aS.mono ?_ (by assumption));first|done|assumption),rfl,g,hq1,by omega,he10,⟨hlast.out (by omega)⟩⟩
end Go.Proofs.Y
/- Texts of numbers: Format, the reference's Text and Format; what the statement on formats computes: true. -/
namespace Go.Vc
open Go
theorem aC0 (a b:List Nat):txt a++txt b=txt (a++b):=by
 unfold txt
 apply ByteArray.ext
 simp [ByteArray.data_append]
theorem bB (a:List Nat):(txt a).size=a.length:=by unfold txt;simp [ByteArray.size]
theorem Cat.txt {a b:List Nat} {x y:ByteArray} {k:ByteArray→Prop} (hx:x=Vc.txt a) (hy:y=Vc.txt b) (hl:a.length+b.length≤1000000000) (hk:k (Vc.txt (a++b))):Cat x y k:=by
 subst hx hy
 exact ⟨by rw [bB,bB];omega,by rw [aC0];exact hk⟩
end Go.Vc
namespace Go.Proofs.Y
open Go Go.Vc Go.Dig
def iW (q:Rat):List Nat:=(if sg q then [45]++fR (nu q) else fR (nu q))++(if q.den=1 then [] else [47]++fR q.den)
def pO (n1:Bool) (l1 m1:List Nat):List Nat × Int:=if okR n1 l1 m1 then (iW (aR n1 l1 m1),0) else ([],1)
theorem aRu {n:Nat} (k:Nat) (h:ln 4294967296 n≤k):ln 10 n≤10*k:=by
 rw [aT dX]
 have h1:=(aT tlB).1 h
 refine Nat.lt_of_lt_of_le h1 ?_
 rw [Nat.pow_mul]
 exact Nat.pow_le_pow_left (by decide) k
theorem aIu {n:Nat} (h:ln 4294967296 n≤64):ln 10 n≤640:=aRu 64 h
theorem kU {n:Nat} (h:ln 4294967296 n≤64):(fR n).length≤641:=by
 have:=aIu h
 unfold fR
 split
 ·simp
 ·unfold ln at this;simp;omega
theorem aC1 (h:aA) (tb:Tb h) (n1:Bool) (a1 b1:Sl) (l1 m1:List Nat) (hv1:cB h a1 b1 l1 m1):
  Fn0 T F.q153 [.agg #[.bool n1,a1.val,b1.val]] h fun v _=>v=.tuple #[.string (txt (pO n1 l1 m1).1),.int .i64 (pO n1 l1 m1).2]:=by
 have f1:okR n1 l1 m1→pO n1 l1 m1=(iW (aR n1 l1 m1),0):=fun x=>if_pos x
 have f2:¬okR n1 l1 m1→pO n1 l1 m1=([],1):=fun x=>if_neg x
 refine f0C ok D.q153 rfl ?_
 conv=>whnf
 repeat' first|((first|(show CN _ _ _ _ _ _;(refine CN.f rfl (sI _ (by assumption) _ _ _ l1 m1 (by assumption)) (fun v h' hle1 hr=>?_);obtain ⟨s1,c1,d1,rfl,hok1⟩:=hr))|((first|apply oI.z|apply cI.z))|intro (_:Nat)|refine LdN.o 0 rfl rfl ?_|refine Ld.o 0 rfl rfl ?_|refine Sto.l 0 rfl rfl rfl ?_) <;> (conv=>whnf))|(show cnd _ _ _;first|(refine aI ?_)|(apply bJ<;>intro _<;>first|(exfalso;omega)|conv=>whnf))
 all_goals first
  | (rw [f2 (by assumption)];exact RN.a rfl)
  | skip
 obtain ⟨rfl,g1⟩:=hok1 (by assumption)
 have k1:okR n1 l1 m1:=by assumption
 have z1:=okR.sz k1
 have t1:=z1.num
 have t2:=z1.den
 have i1:=g1.num
 have i2:=g1.den
 have u1:=kU t1
 have u2:=kU t2
 have w1:=aIu t1
 have w2:=aIu t2
 rw [f1 k1]
 unfold iW
 clear f1 f2 k1 z1 g1 hok1
 obtain ⟨x,hx⟩:∃x,x=nu (aR n1 l1 m1):=⟨_,rfl⟩
 obtain ⟨y,hy⟩:∃y,y=(aR n1 l1 m1).den:=⟨_,rfl⟩
 obtain ⟨s,hs⟩:∃s,s=sg (aR n1 l1 m1):=⟨_,rfl⟩
 rw [← hx] at t1 i1 u1 w1
 rw [← hy] at t2 i2 u2 w2
 rw [← hx,← hy,← hs]
 have c1':=fun h i=>tO h c1 x i (by omega) (by omega)
 have c2':=fun h i=>tO h d1 y i (by omega) (by omega)
 obtain ⟨X,hX⟩:∃X,X=fR x:=⟨_,rfl⟩
 obtain ⟨Y,hY⟩:∃Y,Y=fR y:=⟨_,rfl⟩
 rw [← hX] at u1 c1'
 rw [← hY] at u2 c2'
 rw [← hX,← hY]
 clear hx hs hX hY
 repeat' first|((first|(apply aX.go)|(show CN _ _ _ _ _ _;first|(refine CN.quiet rfl (aCj _ _ _ (by (iterate 30 try first|assumption|refine Ws.mono ?_ (by assumption));first|done|assumption) (by omega)) ?_)|(refine CN.f rfl (c1' _ (by assumption)) (fun v h' hl hr=>?_);obtain rfl:=hr)|(refine CN.f rfl (c2' _ (by (iterate 30 try first|assumption|refine aJ.mono ?_ (by assumption));first|done|assumption)) (fun v h' hl hr=>?_);obtain rfl:=hr))|(show Cat _ _ _;first|(refine Cat.txt (a:=[45]) rfl rfl (by simp;omega) ?_)|(refine Cat.txt (a:=[47]) rfl rfl (by simp;omega) ?_)|(refine Cat.txt rfl rfl (by simp;omega) ?_))|((first|apply oI.z|apply cI.z))|refine Ld.o 0 rfl rfl ?_) <;> (conv=>whnf))|(show cnd _ _ _;first|(refine aI ?_)|(apply bJ<;>intro _<;>first|(exfalso;omega)|conv=>whnf)|(refine fC (fun hb=>?_) (fun hb=>?_) <;> (first|cases hb|subst hb) <;> (conv=>whnf)))
 all_goals refine RN.a ?_
 all_goals first
  | (have hy1:y=1:=by assumption
     simp [hy1])
  | (have hy1:¬y=1:=by assumption
     simp [hy1])

theorem aA1 (h:aA) (a b:Sl) (q:Rat) (hq:IsQ h a b q) (hs:Sz 64 q):Fn0 T F.q73 [.agg #[.bool (sg q),a.val,b.val]] h fun v _=>v=.string (txt (iW q)):=by
 have i1:=hq.num
 have i2:=hq.den
 have t1:=hs.num
 have t2:=hs.den
 have u1:=kU t1
 have u2:=kU t2
 have w1:=aIu t1
 have w2:=aIu t2
 have b1:=aEd (nu q)
 have b2:=aEd q.den
 have d0:=q.den_nz
 unfold iW
 obtain ⟨x,hx⟩:∃x,x=nu q:=⟨_,rfl⟩
 obtain ⟨y,hy⟩:∃y,y=q.den:=⟨_,rfl⟩
 obtain ⟨s,hs'⟩:∃s,s=sg q:=⟨_,rfl⟩
 rw [← hx] at t1 i1 u1 w1 b1
 rw [← hy] at t2 i2 u2 w2 b2 d0
 rw [← hx,← hy,← hs']
 have c1':=fun h i=>tP h a x i (by omega) (by omega)
 have c2':=fun h i=>tP h b y i (by omega) (by omega)
 obtain ⟨X,hX⟩:∃X,X=fR x:=⟨_,rfl⟩
 obtain ⟨Y,hY⟩:∃Y,Y=fR y:=⟨_,rfl⟩
 rw [← hX] at u1 c1'
 rw [← hY] at u2 c2'
 rw [← hX,← hY]
 clear hx hs' hX hY
 refine f0C ok D.q73 rfl ?_
 conv=>whnf
 repeat' first|((first|(apply aX.go)|(show CN _ _ _ _ _ _;first|(refine CN.quiet rfl (aEe _ _ _ _ y (by (iterate 30 try first|assumption|refine aS.mono ?_ (by assumption));first|done|assumption) d0 (by omega)) ?_)|(refine CN.f rfl (c1' _ (by assumption)) (fun v h' hl hr=>?_);obtain rfl:=hr)|(refine CN.f rfl (c2' _ (by (iterate 30 try first|assumption|refine aS.mono ?_ (by assumption));first|done|assumption)) (fun v h' hl hr=>?_);obtain rfl:=hr))|(show Cat _ _ _;first|(refine Cat.txt (a:=[45]) rfl rfl (by simp;omega) ?_)|(refine Cat.txt (b:=[47]) rfl rfl (by simp;omega) ?_)|(refine Cat.txt rfl rfl (by simp;omega) ?_))|((first|apply oI.z|apply cI.z))|intro (_:Nat)|refine LdN.o 0 rfl rfl ?_|refine Ld.o 0 rfl rfl ?_) <;> (conv=>whnf))|(show cnd _ _ _;first|(apply bJ<;>intro _<;>first|(exfalso;omega)|conv=>whnf)|(refine fC (fun hb=>?_) (fun hb=>?_) <;> (first|cases hb|subst hb) <;> (conv=>whnf)))
 all_goals refine RN.a ?_
 all_goals first
  | (have hy1:y=1:=by assumption
     simp [hy1])
  | (have hy1:¬y=1:=by assumption
     simp [hy1])

end Go.Proofs.Y
/- Contracts of package number's functions, third part: signs, opposites, absolute values; the reference's absolute value. -/
namespace Go.Dig
def aTt (q:Rat):Rat:=mkQ false (nu q) q.den
end Go.Dig
namespace Go.Proofs.Y
open Go Go.Vc Go.Dig

def aRv (n1:Bool) (l1 m1:List Nat):Int × Int:=if okR n1 l1 m1 then (fI (aR n1 l1 m1),0) else (0,1)
def aU9:Option Rat→Option Rat→Int × Int
 | some x,some y=>(aAs x y,0)
 | _,_=>(0,1)
def aUt:Option Rat→Int × Int
 | some x=>(fI x,0)
 | none=>(0,1)
def aUu (up:Bool):Option Rat→Int→Rat × Int
 | some q,p=>if p<0∨256<p then (0,2) else iA (aIg q p.toNat up)
 | none,_=>(0,1)
end Go.Proofs.Y