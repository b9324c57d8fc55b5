/- Numbers that a value denotes, with none for a large one: contracts for laws that chain operations; whether two values of any kind are equal. -/
import Derived.Test.YtbgicephinomlaaGreatDoorL4
import Derived.Test.YtbgicephinomlaaGreatDoorVcMeet
import Derived.Test.YtbgicephinomlaaGreatDoorR6
import Derived.Laws.IdiomStrings
import Derived.Test.YtbgicephinomlaaGreatDoorRep3
set_option linter.unusedVariables false
set_option linter.unusedSimpArgs false
namespace Go.Dig
end Go.Dig
namespace Go.Proofs.YtbgicephinomlaaGreatDoor
open Go Go.Vc Go.Dig

def valOf (n:Bool) (l m:List Nat):Option Rat:=if okR n l m then some (ratOf n l m) else none
structure IsNum (h:Heap) (n:Bool) (a b:Sl) (x:Option Rat):Prop where
 ex:∃l m,IsVal h a b l m∧x=valOf n l m
structure Fok (p:Rat × Int):Prop where
 ft:fits p.1
 err:p.2≠0→p.1=0
theorem fits_sz {q:Rat} (h:fits q):Sz 1073741824 q:=⟨Nat.le_trans h.1 (by decide),Nat.le_trans h.2 (by decide)⟩
theorem Fok.sz {p:Rat × Int} (k:Fok p):Sz 1073741824 p.1:=fits_sz k.ft
theorem fits_zero:fits 0:=by
 have h:=sz_zero 0
 exact ⟨Nat.le_trans h.num (by decide),Nat.le_trans h.den (by decide)⟩
theorem Fok.err1 (e:Int):Fok (0,e):=⟨fits_zero,fun _=>rfl⟩
theorem Fok.out (q:Rat):Fok (outR q):=by
 unfold outR
 split
 ·rename_i h;exact ⟨h,fun x=>absurd rfl x⟩
 ·exact Fok.err1 1
def opR (op:Rat→Rat→Rat):Option Rat→Option Rat→Rat × Int
 | some x,some y=>outR (op x y)
 | _,_=>(0,1)
def divR:Option Rat→Option Rat→Rat × Int
 | some x,some y=>if nu y=0 then (0,10) else outR (x / y)
 | _,_=>(0,1)
def ResN (h:Heap) (v:Value) (p:Rat × Int):Prop:=∃a b:Sl,v=.tuple #[.agg #[.bool (sg p.1),a.val,b.val],.int .i64 p.2]∧IsRat h a b p.1∧IsNum h (sg p.1) a b (some p.1)
end Go.Proofs.YtbgicephinomlaaGreatDoor
/- Texts: bytes put together to a string; a row of bytes turned round; the decimal digits of a number. -/
namespace Go.Vc
open Go
def txt (l:List Nat):ByteArray:=⟨(l.map UInt8.ofNat).toArray⟩
theorem Ext.text {T:Tab} {h:Heap} {L:Own} {k:Value→Heap→Own→Prop} {s d e:TypeId} {x:Operand} {v:Value} {n:Nat} {xs:List Nat}
  (hs:T.und s=some (.slice e)) (he:T.und e=some (.int .u8)) (hd:T.und d=some .string) (g:GrowS e 1 v n (xs.map (vu .u8)) L) (hb:∀y∈xs,y<256) (hne:xs≠[]) (hk:k (.string (txt xs)) h L):
  Ext T (.convert s d x) [x] [v] h L k:=by
 obtain ⟨g1,⟨rfl,rfl⟩ | ⟨i,b,cap,zs,rfl,h2,h3,-⟩⟩:=g
 ·exact absurd (List.eq_nil_of_length_eq_zero (by simpa using g1)) hne
 ·refine ⟨fun ok o ρ K Q w0 h0 L0 w hop hargs inv hout _ hK=>.inl ?_⟩
  have hn:n=(xs.map UInt8.ofNat).length:=by simpa using g1.symm
  simp only [List.map_cons,List.map_nil,List.cons.injEq,and_true] at hargs
  have hrun:=run_convert_bytes_back (P:=T.prog) w s d e ⟨b,0,none⟩ cap (xs.map UInt8.ofNat) (ok.und _ _ hs) (ok.und _ _ he) (ok.und _ _ hd) (fun j hj=>by
    have hj':j<xs.length:=by simpa using hj
    have hc:Has h L ((⟨b,0,none⟩:Addr).add j) (.int .u8 ((xs.getD j 0:Nat):Int)):=by
      rw [add_lit,Nat.zero_add]
      refine Has.own i h2 ?_
      simp [hj',vu,List.getElem?_append_left,List.getD_eq_getElem?_getD]
    rw [inv.toSat.cell hc]
    have hlt:xs[j]<256:=hb _ (List.getElem_mem hj')
    simp [hj',List.getD_eq_getElem?_getD,Nat.mod_eq_of_lt hlt])
  refine wp_value (w':=w) (v:=.string (txt xs)) ?_ (hK _ _ _ _ inv hk)
  rw [← hn] at hrun
  simp only [execOp,hop,Sem.run_bind,hargs,hrun]
  rfl
end Go.Vc
namespace Go.Proofs.YtbgicephinomlaaGreatDoor
open Go Go.Vc Go.Dig

theorem Ld.rz {h:Heap} {L:Own} {b i:Nat} {k:Value→Prop} {kd:IntKind} {T:TypeId} {u:List Nat} {zs:List Value} (n:Nat) (hb:L[n]?=some (b,RowZ kd T u zs)) (ho:i<u.length) (hk:k (.int kd ((u.getD i 0:Nat):Int))):Ld h L ⟨b,i,none⟩ k:=
 Ld.own n hb (by simp [ho,vu,List.getElem?_append_left,List.getD_eq_getElem?_getD]) hk
theorem Sto.rz {L:Own} {b i:Nat} {kd:IntKind} {T:TypeId} {u:List Nat} {zs:List Value} {v:Int} {k:Own→Prop} (n:Nat) (hb:L[n]?=some (b,RowZ kd T u zs)) (x:Nat) (hx:v=x) (hl:i<u.length)
  (hk:setK (b,RowZ kd T (u.set i x) zs) L n k):Sto L ⟨b,i,none⟩ [.int kd v] k:=by
 subst hx
 refine Sto.sym n hb (by simp;omega) rfl ?_
 have:(u.map (vu kd)++zs).set i (.int kd x)=(u.set i x).map (vu kd)++zs:=by
  rw [List.set_append_left _ _ (by simpa using hl),List.map_set];rfl
 rw [this];exact hk
theorem getD_set' (l:List Nat) (a x i:Nat):(l.set a x).getD i 0=if a=i∧a<l.length then x else l.getD i 0:=by
 rw [List.getD_eq_getElem?_getD,List.getElem?_set,List.getD_eq_getElem?_getD]
 by_cases h1:a=i
 ·subst h1
  by_cases h2:a<l.length
  ·simp [h2]
  ·rw [if_pos rfl,if_neg h2,if_neg (fun hh=>h2 hh.2),List.getElem?_eq_none (by omega)]
 ·rw [if_neg h1,if_neg (fun hh=>h1 hh.1)]

set_option maxRecDepth 20000 in
set_option maxHeartbeats 1000000 in
theorem Reverse_ct (h:Heap) (b cap:Nat) (xs:List Nat) (zs:List Value) (hn:xs.length≤1099511627776):
  Vc.Fn T F.slices_Reverse_of__of_byte_byte [.slice (some ⟨b,0,none⟩) xs.length cap] h [(b,RowZ .u8 Ty.uint8 xs zs)] fun v h' L'=>L'=[(b,RowZ .u8 Ty.uint8 xs.reverse zs)]:=by
 obtain ⟨n,hnn⟩:∃n,n=xs.length:=⟨_,rfl⟩
 rw [← hnn] at hn
 rw [← hnn]
 refine fn_of_codeI ok D.slices_Reverse_of__of_byte_byte rfl ?_
 conv=>whnf
 repeat ((first | refine opsI.step ?_ | refine codeI.step ?_);conv=>whnf)
 repeat' first | ((first | ((first | refine opsI.step ?_ | refine codeI.step ?_)) | refine WrapN.i64 (by omega) (by omega) ?_) <;> (conv=>whnf))
 refine LoopN.of (fun r ρ h' L=>∃(k:Nat) (ys:List Nat),r=n-k∧L=[(b,RowZ .u8 Ty.uint8 ys zs)]∧rd ρ 2=.int .i64 k∧rd ρ 3=.int .i64 ((n:Int)-1-k)∧2*k≤n∧ys.length=n∧Hq (∀i,i<n→ys.getD i 0=if i<k∨n-1-i<k then xs.getD (n-1-i) 0 else xs.getD i 0)) n
  ⟨0,xs,rfl,rfl,rfl,vi (by omega),by omega,hnn.symm,⟨fun i hi=>by rw [if_neg (by omega)]⟩⟩ ?_
 conv=>whnf
 repeat intro _
 rename_i r h1 L1 hI
 obtain ⟨k,ys,rfl,rfl,e0,e1,hk,hy,hE⟩:=hI
 conv at e0=>lhs;whnf
 subst e0
 conv at e1=>lhs;whnf
 subst e1
 obtain ⟨J,hJ⟩:∃J:Nat,J=n-1-k:=⟨_,rfl⟩
 conv=>whnf
 repeat ((first | refine opsI.step ?_ | refine codeI.step ?_);conv=>whnf)
 repeat' first | ((first | (show WrapN _ _ _;refine WrapN.i64 (by omega) (by omega) ?_) | (show Idx _ _ _ _ _;first | refine Idx.own k (by omega) (by omega) ?_ | refine Idx.own J (by omega) (by omega) ?_) | (show Ld _ _ _ _;(refine Ld.rz 0 rfl (by first | omega | (simp only [List.length_set];omega)) ?_)) | (show Sto _ _ _ _;(refine Sto.rz 0 rfl _ rfl (by first | omega | (simp only [List.length_set];omega)) ?_)) | ((first | refine opsI.step ?_ | refine codeI.step ?_)) | refine ⟨fun hst=>(by cases (show true=false from hst)),?_⟩ | refine DrawN.run (by decide +kernel) ?_) <;> (conv=>whnf)) | (refine cnd_lt (fun _=>?_) (fun _=>?_) <;> first | (exfalso;omega) | (conv=>whnf))
 ·refine ⟨rfl,n-(k+1),by omega,k+1,(ys.set k (ys.getD J 0)).set J (ys.getD k 0),rfl,rfl,vi (by omega),vi (by omega),by omega,by simp [hy],⟨fun i hi=>?_⟩⟩
  have e1:=hE.out k (by omega)
  have e2:=hE.out J (by omega)
  rw [if_neg (by omega)] at e1 e2
  rw [getD_set',getD_set',e1,e2,hE.out i hi]
  simp only [List.length_set]
  by_cases c1:J=i
  ·subst c1
   rw [if_pos ⟨rfl,by omega⟩,if_pos (by omega)]
   (congr 1 <;> omega)
  ·rw [if_neg (by omega)]
   by_cases c2:k=i
   ·subst c2
    rw [if_pos ⟨rfl,by omega⟩,if_pos (by omega)]
    (congr 1 <;> omega)
   ·rw [if_neg (by omega)]
    by_cases c3:i<k∨n-1-i<k
    ·rw [if_pos c3,if_pos (by omega)]
    ·rw [if_neg c3,if_neg (by omega)]
 ·refine RetN.done ?_
  have:ys=xs.reverse:=by
   apply List.ext_getElem (by simp [hy,hnn])
   intro i a1 a2
   have e:=hE.out i (by omega)
   have e3:(if i<k∨n-1-i<k then xs.getD (n-1-i) 0 else xs.getD i 0)=xs.getD (n-1-i) 0:=by
    split
    ·rfl
    ·(congr 1 <;> omega)
   rw [e3,List.getD_eq_getElem?_getD,List.getD_eq_getElem?_getD,List.getElem?_eq_getElem a1,List.getElem?_eq_getElem (by omega)] at e
   simp only [Option.getD_some] at e
   rw [e,List.getElem_reverse]
   simp only [hnn]
  rw [this]

def decL (n:Nat):List Nat:=if n=0 then [48] else ((dg 10 n).map (48+·)).reverse
theorem two_le_10:2≤10:=by decide
theorem dg10_lt (n:Nat):∀y∈(dg 10 n).map (48+·),y<256:=fun y hy=>by
 obtain ⟨x,hx,rfl⟩:=List.mem_map.1 hy
 have:=dg_lt two_le_10 n x hx
 omega
set_option maxRecDepth 20000 in
set_option maxHeartbeats 1000000 in
theorem decimal_ct (h:Heap) (a:Sl) (n:Nat) (ha:IsNat h a n) (la:ln 4294967296 n≤65536) (lb:ln 10 n≤1048576):Fn0 T F.number_decimal [a.val] h fun v _=>v=.string (txt (decL n)):=by
 refine fn0_of_codeI ok D.number_decimal rfl ?_
 conv=>whnf
 repeat ((first | refine opsI.step ?_ | refine codeI.step ?_);conv=>whnf)
 skip
 refine LoopN.of (fun r ρ h' L=>∃(a:Sl) (v:Value) (xs:List Nat),h.le h'∧rd ρ 0=a.val∧IsNat h' a r∧rd ρ 3=v∧GrowS Ty.uint8 1 v xs.length (xs.map (vu .u8)) L∧ln 4294967296 r≤65536∧Hq (xs++(dg 10 r).map (48+·)=(dg 10 n).map (48+·))) n
  ⟨a,_,[],Heap.le_refl _,rfl,ha,rfl,GrowS.none,la,⟨rfl⟩⟩ ?_
 conv=>whnf
 repeat intro _
 rename_i r h1 L1 hI
 obtain ⟨a,v,xs,hle,e0,ha,e1,g,hlr,hx⟩:=hI
 conv at e0=>lhs;whnf
 subst e0
 conv at e1=>lhs;whnf
 subst e1
 have hlen:=congrArg List.length hx.out
 rw [List.length_append,List.length_map,List.length_map] at hlen
 have hl10:(dg 10 n).length≤1048576:=lb
 by_cases h0:r=0
 ·subst h0
  have hx0:=hx.out
  rw [dg_zero,List.map_nil,List.append_nil] at hx0
  have hn0:xs=[]→n=0:=fun e=>by
   rw [e] at hx0
   by_cases hn:n=0
   ·exact hn
   ·rw [dg_pos two_le_10 hn] at hx0;cases hx0
  have hd:xs≠[]→xs.reverse=decL n:=fun e=>by
   unfold decL
   rw [if_neg (fun hn=>e (by rw [hx0,hn,dg_zero];rfl)),hx0]
  have hz:n=0→decL n=[48]:=fun e=>if_pos e
  have hb8:∀y∈xs.reverse,y<256:=fun y hy=>dg10_lt n y (by rw [← hx0];simpa using hy)
  obtain ⟨g1,⟨rfl,g2⟩ | ⟨i,b,cap,zs,rfl,g2,g3,g4⟩⟩:=g
  ·conv=>whnf
   repeat ((first | refine opsI.step ?_ | refine codeI.step ?_);conv=>whnf)
   repeat' first | ((first | (show CallN _ _ _ _ _ _;refine CallN.quiet rfl (Zero_ct _ _ _ (by assumption) (by omega)) ?_) | ((first | refine opsI.step ?_ | refine codeI.step ?_))) <;> (conv=>whnf)) | (show cnd _ _ _;first | (refine cnd_eq (fun _=>?_) (fun _=>?_) <;> first | (exfalso;omega) | (conv=>whnf)) | (refine cnd_not ?_) | (refine cnd_dec (fun _=>?_) (fun _=>?_) <;> first | (exfalso;omega) | (conv=>whnf)))
   exact RetN.all (by rw [hz (hn0 (List.eq_nil_of_length_eq_zero g2))];rfl)
  ·have hne:xs.length≠0→xs≠[]:=fun a b=>a (by rw [b];rfl)
   have he:xs.length=0→xs=[]:=List.eq_nil_of_length_eq_zero
   conv=>whnf
   repeat ((first | refine opsI.step ?_ | refine codeI.step ?_);conv=>whnf)
   repeat' first | ((first | (show CallN _ _ _ _ _ _;refine CallN.quiet rfl (Zero_ct _ _ _ (by assumption) (by omega)) ?_) | ((first | refine opsI.step ?_ | refine codeI.step ?_))) <;> (conv=>whnf)) | (show cnd _ _ _;first | (refine cnd_eq (fun _=>?_) (fun _=>?_) <;> first | (exfalso;omega) | (conv=>whnf)) | (refine cnd_not ?_) | (refine cnd_dec (fun _=>?_) (fun _=>?_) <;> first | (exfalso;omega) | (conv=>whnf)))
   ·exact RetN.all (by rw [hz (hn0 (he (by omega)))];rfl)
   ·have hL:i<L1.length:=(List.getElem?_eq_some_iff.1 g2).1
    refine CallN.own i g2 rfl (Reverse_ct _ b cap xs zs (by omega)) (fun v h' La hl hr=>?_)
    refine ⟨_,hr,?_⟩
    conv=>whnf
    repeat ((first | refine opsI.step ?_ | refine codeI.step ?_);conv=>whnf)
    refine Ext.text (n:=xs.length) (xs:=xs.reverse) rfl rfl rfl ⟨by simp,.inr ⟨i,b,cap,zs,rfl,by rw [List.getElem?_set_self hL],g3,by simpa using g4⟩⟩ hb8 (by simpa using hne (by omega)) ?_
    conv=>whnf
    repeat ((first | refine opsI.step ?_ | refine codeI.step ?_);conv=>whnf)
    skip
    exact RetN.all (by rw [hd (hne (by omega))])
 ·obtain ⟨R0,hR0⟩:∃R0,R0=r%1000000000:=⟨_,rfl⟩
  obtain ⟨Q0,hQ0⟩:∃Q0,Q0=r / 1000000000:=⟨_,rfl⟩
  have hq1:ln 4294967296 Q0≤65536:=by rw [hQ0];exact Nat.le_trans (ln_div r _) hlr
  conv=>whnf
  repeat ((first | refine opsI.step ?_ | refine codeI.step ?_);conv=>whnf)
  repeat' first | ((first | (show CallN _ _ _ _ _ _;first | refine CallN.quiet rfl (Zero_ct _ _ _ (by assumption) (by omega)) ?_ | (refine CallN.fn rfl (DivSmall_ct _ _ r 1000000000 (by assumption) (by omega) (by decide) (by decide)) (fun v h2 hl2 hr=>?_);rw [← hR0,← hQ0] at hr;obtain ⟨qs,rfl,hqs⟩:=hr)) | ((first | refine opsI.step ?_ | refine codeI.step ?_))) <;> (conv=>whnf)) | (show cnd _ _ _;first | (refine cnd_not ?_) | (refine cnd_dec (fun _=>?_) (fun _=>?_) <;> first | (exfalso;omega) | (conv=>whnf)))
  refine LoopN.of (fun u ρ h' L=>∃(i:Nat) (v:Value) (xs:List Nat) (R:Nat),u=9-i∧i≤9∧h2.le h'∧rd ρ 6=.int .i64 i∧rd ρ 5=.int .u32 R∧rd ρ 3=v∧GrowS Ty.uint8 1 v xs.length (xs.map (vu .u8)) L∧Hq (R<10^(9-i))∧Hq (xs++(dg 10 (Q0*10^(9-i)+R)).map (48+·)=(dg 10 n).map (48+·))) 9
   ⟨0,_,xs,R0,rfl,by omega,Heap.le_refl _,rfl,rfl,rfl,g,⟨by rw [hR0];exact Nat.mod_lt _ (by decide)⟩,⟨by rw [hR0,hQ0,Nat.mul_comm,Nat.div_add_mod];exact hx.out⟩⟩ ?_
  conv=>whnf
  repeat intro _
  rename_i u h3 L3 hI
  obtain ⟨i,v,xs,R,rfl,hi,hle3,e6,e5,e3,g,hR,hx2⟩:=hI
  conv at e3=>lhs;whnf
  subst e3
  conv at e5=>lhs;whnf
  subst e5
  conv at e6=>lhs;whnf
  subst e6
  have hlen:=congrArg List.length hx2.out
  rw [List.length_append,List.length_map,List.length_map] at hlen
  have hQr:Q0<r:=by omega
  have hR9:R<1000000000:=Nat.lt_of_lt_of_le hR.out (show 10^(9-i)≤10^9 from Nat.pow_le_pow_right (by decide) (by omega))
  by_cases hc:i<9
  ·obtain ⟨P,hP⟩:∃P,P=10^(9-(i+1)):=⟨_,rfl⟩
   have hP2:10^(9-i)=10*P:=by rw [hP,← Nat.pow_succ'];congr 1;omega
   obtain ⟨X,hX⟩:∃X,X=Q0*P:=⟨_,rfl⟩
   have hX0:Q0=0→X=0:=fun e=>by rw [hX,e,Nat.zero_mul]
   have hXp:Q0≠0→0<X:=fun e=>by rw [hX,hP];exact Nat.mul_pos (by omega) (Nat.pow_pos (by decide))
   have hR':=hR.out
   have hx3:=hx2.out
   have hWX:Q0*(10*P)=10*X:=by rw [hX,Nat.mul_left_comm]
   rw [hP2,hWX] at hx3
   rw [hP2] at hR'
   replace hx3:=Hq.mk hx3
   clear hx2 hR hWX hP2
   have hstep:10*X+R≠0→(xs++[48+R%10])++(dg 10 (Q0*10^(9-(i+1))+R / 10)).map (48+·)=(dg 10 n).map (48+·):=fun h=>by
    rw [← hx3.out,dg_pos two_le_10 h,show (10*X+R)%10=R%10 by omega,show (10*X+R) / 10=X+R / 10 by omega,← hP,← hX,List.append_assoc]
    rfl
   have hlast:Q0=0→R=0→xs++(dg 10 Q0).map (48+·)=(dg 10 n).map (48+·):=fun e1 e2=>by
    rw [← hx3.out,hX0 e1,e1,e2]
   have hPR:R / 10<10^(9-(i+1)):=by rw [← hP];omega
   replace hstep:=Hq.mk hstep
   replace hlast:=Hq.mk hlast
   replace hPR:=Hq.mk hPR
   clear hX hP hx3
   conv=>whnf
   repeat ((first | refine opsI.step ?_ | refine codeI.step ?_);conv=>whnf)
   repeat' first | ((first | (show CallN _ _ _ _ _ _;(refine CallN.quiet rfl (Zero_ct _ _ _ (by (iterate 30 (try first | assumption | refine Ws.mono ?_ (by assumption)));first | done | assumption) (by omega)) ?_)) | (show RemN _ _ _;refine RemN.nn (by omega) (by omega) ?_) | (show QuoN _ _ _ _;refine QuoN.u32 (by omega) (by omega) (by omega) ?_) | (show App _ _ _ _ _ _ _ _ _;refine App.push rfl g (48+R%10) (by omega) (by omega) (by decide) (fun v' L' g'=>?_)) | ((first | refine opsI.step ?_ | refine codeI.step ?_)) | intro (_:Nat) | (show WrapN _ _ _;first | refine WrapN.i64 (by omega) (by omega) ?_ | refine WrapN.u32 (by omega) (by omega) ?_ | refine WrapN.u8 (by omega) (by omega) ?_)) <;> (conv=>whnf)) | (show cnd _ _ _;first | (refine cnd_lt (fun _=>?_) (fun _=>?_) <;> first | (exfalso;omega) | (conv=>whnf)) | (refine cnd_not ?_) | (refine cnd_dec (fun _=>?_) (fun _=>?_) <;> first | (exfalso;omega) | (conv=>whnf)))
   all_goals first
    | (rename_i g';exact ⟨rfl,9-(i+1),by omega,i+1,_,xs++[48+R%10],R / 10,rfl,by omega,hle3,rfl,vi (by omega),rfl,by rw [List.length_append];exact g',hPR,⟨hstep.out (by first | omega | (have:=hXp (by assumption);omega))⟩⟩)
    | exact ⟨rfl,Q0,hQr,qs,_,xs,(by (iterate 30 (try first | assumption | refine Heap.le_trans ?_ (by assumption)));first | done | assumption),rfl,(by (iterate 30 (try first | assumption | refine IsNat.mono ?_ (by assumption)));first | done | assumption),rfl,g,hq1,⟨hlast.out (by assumption) (by omega)⟩⟩
  ·obtain rfl:i=9:=by omega
   have hR':=hR.out
   have hx3:=hx2.out
   rw [Nat.sub_self,Nat.pow_zero] at hR' hx3
   obtain rfl:R=0:=by omega
   rw [Nat.mul_one,Nat.add_zero] at hx3
   conv=>whnf
   repeat ((first | refine opsI.step ?_ | refine codeI.step ?_);conv=>whnf)
   repeat' first | ((first | ((first | refine opsI.step ?_ | refine codeI.step ?_))) <;> (conv=>whnf)) | (refine cnd_lt (fun _=>?_) (fun _=>?_) <;> first | (exfalso;omega) | (conv=>whnf))
   all_goals exact ⟨rfl,Q0,hQr,qs,_,xs,(by (iterate 30 (try first | assumption | refine Heap.le_trans ?_ (by assumption)));first | done | assumption),rfl,(by (iterate 30 (try first | assumption | refine IsNat.mono ?_ (by assumption)));first | done | assumption),rfl,g,hq1,⟨hx3⟩⟩

end Go.Proofs.YtbgicephinomlaaGreatDoor
/- Texts of numbers: Format, the reference's Text and Format; what the statement on formats computes: true. -/
namespace Go.Vc
open Go
theorem txt_append (a b:List Nat):txt a++txt b=txt (a++b):=by
 unfold txt
 apply ByteArray.ext
 simp [ByteArray.data_append]
theorem txt_size (a:List Nat):(txt a).size=a.length:=by unfold txt;simp [ByteArray.size]
theorem Cat.txt {a b:List Nat} {x y:ByteArray} {k:ByteArray→Prop} (hx:x=Vc.txt a) (hy:y=Vc.txt b) (hl:a.length+b.length≤1000000000) (hk:k (Vc.txt (a++b))):Cat x y k:=by
 subst hx hy
 exact ⟨by rw [txt_size,txt_size];omega,by rw [txt_append];exact hk⟩
end Go.Vc
namespace Go.Proofs.YtbgicephinomlaaGreatDoor
open Go Go.Vc Go.Dig
def fmtL (q:Rat):List Nat:=(if sg q then [45]++decL (nu q) else decL (nu q))++(if q.den=1 then [] else [47]++decL q.den)
def specFmt (n1:Bool) (l1 m1:List Nat):List Nat × Int:=if okR n1 l1 m1 then (fmtL (ratOf n1 l1 m1),0) else ([],1)
theorem ln10' {n:Nat} (k:Nat) (h:ln 4294967296 n≤k):ln 10 n≤10*k:=by
 rw [ln_le_iff two_le_10]
 have h1:=(ln_le_iff two_le_B).1 h
 refine Nat.lt_of_lt_of_le h1 ?_
 rw [Nat.pow_mul]
 exact Nat.pow_le_pow_left (by decide) k
theorem ln10 {n:Nat} (h:ln 4294967296 n≤64):ln 10 n≤640:=ln10' 64 h
theorem decL_len {n:Nat} (h:ln 4294967296 n≤64):(decL n).length≤641:=by
 have:=ln10 h
 unfold decL
 split
 ·simp
 ·unfold ln at this;simp;omega
set_option maxRecDepth 20000 in
set_option maxHeartbeats 1000000 in
theorem NFormat_ct (h:Heap) (tb:Tb h) (n1:Bool) (a1 b1:Sl) (l1 m1:List Nat) (hv1:IsVal h a1 b1 l1 m1):
  Fn0 T F.number_Format [.agg #[.bool n1,a1.val,b1.val]] h fun v _=>v=.tuple #[.string (txt (specFmt n1 l1 m1).1),.int .i64 (specFmt n1 l1 m1).2]:=by
 have f1:okR n1 l1 m1→specFmt n1 l1 m1=(fmtL (ratOf n1 l1 m1),0):=fun x=>if_pos x
 have f2:¬okR n1 l1 m1→specFmt n1 l1 m1=([],1):=fun x=>if_neg x
 refine fn0_of_codeI ok D.number_Format rfl ?_
 conv=>whnf
 repeat ((first | refine opsI.step ?_ | refine codeI.step ?_);conv=>whnf)
 repeat' first | ((first | (show CallN _ _ _ _ _ _;(refine CallN.fn rfl (Read_ct _ (by assumption) _ _ _ l1 m1 (by assumption)) (fun v h' hle1 hr=>?_);obtain ⟨s1,c1,d1,rfl,hok1⟩:=hr)) | ((first | refine opsI.step ?_ | refine codeI.step ?_)) | intro (_:Nat) | refine LdN.own 0 rfl rfl ?_ | refine Ld.own 0 rfl rfl ?_ | refine Sto.lit 0 rfl rfl rfl ?_) <;> (conv=>whnf)) | (show cnd _ _ _;first | (refine cnd_not ?_) | (refine cnd_dec (fun _=>?_) (fun _=>?_) <;> first | (exfalso;omega) | (conv=>whnf)))
 all_goals first
  | (rw [f2 (by assumption)];exact RetN.all rfl)
  | skip
 obtain ⟨rfl,g1⟩:=hok1 (by assumption)
 have k1:okR n1 l1 m1:=by assumption
 have z1:=okR.sz k1
 have t1:=z1.num
 have t2:=z1.den
 have i1:=g1.num
 have i2:=g1.den
 have u1:=decL_len t1
 have u2:=decL_len t2
 have w1:=ln10 t1
 have w2:=ln10 t2
 rw [f1 k1]
 unfold fmtL
 clear f1 f2 k1 z1 g1 hok1
 obtain ⟨x,hx⟩:∃x,x=nu (ratOf n1 l1 m1):=⟨_,rfl⟩
 obtain ⟨y,hy⟩:∃y,y=(ratOf n1 l1 m1).den:=⟨_,rfl⟩
 obtain ⟨s,hs⟩:∃s,s=sg (ratOf n1 l1 m1):=⟨_,rfl⟩
 rw [← hx] at t1 i1 u1 w1
 rw [← hy] at t2 i2 u2 w2
 rw [← hx,← hy,← hs]
 have c1':=fun h i=>decimal_ct h c1 x i (by omega) (by omega)
 have c2':=fun h i=>decimal_ct h d1 y i (by omega) (by omega)
 obtain ⟨X,hX⟩:∃X,X=decL x:=⟨_,rfl⟩
 obtain ⟨Y,hY⟩:∃Y,Y=decL y:=⟨_,rfl⟩
 rw [← hX] at u1 c1'
 rw [← hY] at u2 c2'
 rw [← hX,← hY]
 clear hx hs hX hY
 repeat' first | ((first | (show SeqN _ _ _ _ _ _ _;refine SeqN.go ?_) | (show CallN _ _ _ _ _ _;first | (refine CallN.quiet rfl (One_ct _ _ _ (by (iterate 30 (try first | assumption | refine Ws.mono ?_ (by assumption)));first | done | assumption) (by omega)) ?_) | (refine CallN.fn rfl (c1' _ (by assumption)) (fun v h' hl hr=>?_);obtain rfl:=hr) | (refine CallN.fn rfl (c2' _ (by (iterate 30 (try first | assumption | refine IsNat.mono ?_ (by assumption)));first | done | assumption)) (fun v h' hl hr=>?_);obtain rfl:=hr)) | (show Cat _ _ _;first | (refine Cat.txt (a:=[45]) rfl rfl (by simp;omega) ?_) | (refine Cat.txt (a:=[47]) rfl rfl (by simp;omega) ?_) | (refine Cat.txt rfl rfl (by simp;omega) ?_)) | ((first | refine opsI.step ?_ | refine codeI.step ?_)) | refine Ld.own 0 rfl rfl ?_) <;> (conv=>whnf)) | (show cnd _ _ _;first | (refine cnd_not ?_) | (refine cnd_dec (fun _=>?_) (fun _=>?_) <;> first | (exfalso;omega) | (conv=>whnf)) | (refine cnd_bool (fun hb=>?_) (fun hb=>?_) <;> (first | cases hb | subst hb) <;> (conv=>whnf)))
 all_goals refine RetN.all ?_
 all_goals first
  | (have hy1:y=1:=by assumption
     simp [hy1])
  | (have hy1:¬y=1:=by assumption
     simp [hy1])

end Go.Proofs.YtbgicephinomlaaGreatDoor
/- Contracts of package number's functions, third part: signs, opposites, absolute values; the reference's absolute value. -/
namespace Go.Dig
def absQ (q:Rat):Rat:=mkQ false (nu q) q.den
end Go.Dig
namespace Go.Proofs.YtbgicephinomlaaGreatDoor
open Go Go.Vc Go.Dig

def specSign (n1:Bool) (l1 m1:List Nat):Int × Int:=if okR n1 l1 m1 then (signQ (ratOf n1 l1 m1),0) else (0,1)
def cmpR:Option Rat→Option Rat→Int × Int
 | some x,some y=>(cmpQ x y,0)
 | _,_=>(0,1)
def signR:Option Rat→Int × Int
 | some x=>(signQ x,0)
 | none=>(0,1)
def gridR (up:Bool):Option Rat→Int→Rat × Int
 | some q,p=>if p<0∨256<p then (0,2) else outR (gridQ q p.toNat up)
 | none,_=>(0,1)
end Go.Proofs.YtbgicephinomlaaGreatDoor