/- Subst: plain. -/
import Derived.Test.YtblecjeceecaaaaGreatDoorPF3
set_option linter.all false
set_option maxHeartbeats 1000000
set_option maxRecDepth 20000
namespace Go.Proofs.Y
open Go Go.Vc Go.Dig
def eS{α:Type}(bs:List (List Nat × α)):Prop:=(∀b∈bs,fD b.1)/\(bs.map (·.1)).Nodup
def nN(bs:List (List Nat × Tr)):Prop:=∀b∈bs,bB b.2
instance {α:Type} (bs:List (List Nat × α)):Decidable (eS bs):=by unfold eS;exact inferInstance
instance (bs:List (List Nat × Tr)):Decidable (nN bs):=by unfold nN;exact inferInstance
def iS(bs:List (List Nat × Tr))(t:Tr):Tr × Nat:=if ¬(bB t/\nN bs) then (bI,40) else if ¬eS bs then (bI,41) else mF (lK (byR bs) t)
def bHs(bs:List (List Nat × Tr))(t:Tr):Tr × Nat:=if ¬(bB t/\nN bs) then (bI,40) else if ¬eS bs then (bI,41) else if bB (lK (byR bs) t) then (lK (byR bs) t,0) else (bI,4)
end Go.Proofs.Y
/- Maps with names for iX; nodes replaced by a function value with one captured cell. -/
namespace Go.Vc
open Go Go.Dig
theorem bDi{v:Value}{z:List Value}(h:v.cells=z.toArray)(hz:z.length≠1):v=.agg z.toArray:=by
 have hs:=congrArg Array.size h;cases v
 case agg cs=>exact congrArg Value.agg h
 all_goals exact absurd (show 1=z.length by simpa[Value.cells] using hs).symm hz
theorem aVw{T:Tab}(ok:T.Ok){w:World}{t kt et:TypeId}{d:TypeDesc}{key v:Value}{b i:Nat}{es:Array MapEntry}{clock:Nat}(hg:w.heap[b]?=some (.map es clock))(hm:T.und t=some (.map kt et))(hd:T.und kt=some d)
  (hkey:MapKept.IsKey d key) (hf:Instr.findNow d key es.toList 0=some (some (i,v))):(Instr.lookup t (.map (some b)) key true).run T.prog w=.ok (.tuple #[v,.bool true]) w:=by
 have hck:=MapKept.run_checkKey (P:=T.prog) (w:=w) (ok.und _ _ hd) hkey es.isEmpty 9999;simp[Instr.lookup,run_underlying (ok.und _ _ hm),MapKept.run_getObj_map hg,hck,MapKept.run_findKey (ok.und _ _ hd) hf,Result.andThen]
theorem aRl{T:Tab}(ok:T.Ok){w:World}{t kt et:TypeId}{d:TypeDesc}{key:Value}{b n:Nat}{es:Array MapEntry}{clock:Nat}{z:List Value}(hg:w.heap[b]?=some (.map es clock))(hm:T.und t=some (.map kt et))(hd:T.und kt=some d)
  (hz:T.inf et=some (z,n)) (hz1:z.length≠1) (hkey:MapKept.IsKey d key) (hf:Instr.findNow d key es.toList 0=some none):(Instr.lookup t (.map (some b)) key true).run T.prog w=.ok (.tuple #[.agg z.toArray,.bool false]) w:=by
 have hck:=MapKept.run_checkKey (P:=T.prog) (w:=w) (ok.und _ _ hd) hkey es.isEmpty 9999;obtain⟨v,hzr,hc⟩:=nC (w:=w) ok hz;rw[bDi hc hz1] at hzr;simp[Instr.lookup,run_underlying (ok.und _ _ hm),MapKept.run_getObj_map hg,hck,MapKept.run_findKey (ok.und _ _ hd) hf,hzr,Result.andThen]
def bF6(h:aA)(L:Vc.Own)(b:Nat)(es:Array MapEntry)(clock:Nat):Prop:=(b,.map es clock)∈L\/h b=some (.map es clock)
theorem Ext.mapFind{T:Tab}{t kt et:TypeId}{d:TypeDesc}{m kO:Operand}{key:Value}{b n:Nat}{es:Array MapEntry}{clock:Nat}{z:List Value}{h:aA}{L:Vc.Own}{k:Value->aA->Vc.Own->Prop}
  (ha:bF6 h L b es clock) (hm:T.und t=some (.map kt et)) (hd:T.und kt=some d) (hz:T.inf et=some (z,n)) (hz1:z.length≠1) (hkey:MapKept.IsKey d key)
  (hk:(∃i v,Instr.findNow d key es.toList 0=some (some (i,v))/\k (.tuple #[v,.bool true]) h L)\/(Instr.findNow d key es.toList 0=some none/\k (.tuple #[.agg z.toArray,.bool false]) h L)):Ext T (.lookup t m kO true) [m,kO] [.map (some b),key] h L k:=by
 refine⟨fun ok o ρ K Q w h0' L0 w' hop' hargs inv hout hP hK=>.inl ?_⟩
 simp only[bJw,bK4,List.cons.injEq,and_true] at hargs;obtain⟨a1,a2⟩:=hargs;have hg:w'.heap[b]?=some (.map es clock):=by
  rcases ha with ha|ha
  .exact inv.own _ ha
  .exact inv.imm _ _ ha
 rcases hk with ⟨i,v,hf,hk⟩|⟨hf,hk⟩
 .have hr:=aVw ok hg hm hd hkey hf;refine bU (w':=w') (v:=.tuple #[v,.bool true]) ?_ (hK _ _ _ _ inv hk);simp only[execOp,hop',a1,a2,bJy,hr]
  rfl
 .have hr:=aRl ok hg hm hd hz hz1 hkey hf;refine bU (w':=w') (v:=.tuple #[.agg z.toArray,.bool false]) ?_ (hK _ _ _ _ inv hk);simp only[execOp,hop',a1,a2,bJy,hr]
  rfl
theorem aG5{A Fe G tl:Vc.Own}{x:Nat × Obj}:(A++(Fe++(G++x::tl)))[A.length+Fe.length+G.length]?=some x:=by
 rw[bJa Aa,bJa Aa,bJa Aa];simp[show A.length+Fe.length+G.length-A.length-Fe.length-G.length=0 by omega]
theorem aO6{A Fe G tl:Vc.Own}{x y:Nat × Obj}:(A++(Fe++(G++x::tl))).set (A.length+Fe.length+G.length) y=A++(Fe++(G++y::tl)):=by
 rw[bJ5 _ _ Aa,bJ5 _ _ Aa,bJ5 _ _ Aa];simp[show A.length+Fe.length+G.length-A.length-Fe.length-G.length=0 by omega]
theorem Ext.mapSet{T:Tab}{op:Op}{t kt et:TypeId}{d:TypeDesc}{m kO vO:Operand}{key v:Value}{b:Nat}{es:Array MapEntry}{clock:Nat}{h:aA}{A Fe G tl:Vc.Own}{k:Value->aA->Vc.Own->Prop}(hop:op=.insert t m kO vO\/op=.mapUpdate t m kO vO)
  (hm:T.und t=some (.map kt et)) (hd:T.und kt=some d) (hkey:MapKept.IsKey d key)
  (hk:(Instr.findNow d key es.toList 0=some none/\k undef h (A++(Fe++(G++(b,.map (es.push { key:=key,val:=v,born:=clock }) (clock+1))::tl))))\/
    (∃i e,Instr.findNow d key es.toList 0=some (some (i,e.val))/\es[i]?=some e/\e.key=key/\k undef h (A++(Fe++(G++(b,.map (es.modify i fun e=>{ e with key:=key,val:=v }) clock)::tl))))):
  Ext T op [m,kO,vO] [.map (some b),key,v] h (A++(Fe++(G++(b,.map es clock)::tl))) k:=by
 rcases hk with ⟨hf,hk⟩|⟨i,e,hf,he,hek,hk⟩
 .exact Ext.mapNew _ hop aG5 hm hd hkey hf (by rw[aO6];exact hk)
 .refine⟨fun ok o ρ K Q w h0' L0 w' hop' hargs inv hout hP hK=>.inl ?_⟩
  simp only[bJw,bK4,List.cons.injEq,and_true] at hargs;obtain⟨a1,a2,a3⟩:=hargs;have hg:w'.heap[b]?=some (.map es clock):=inv.own _ (bIu aG5);have hst:(Instr.keyThatStays ((Option.map (fun x=>x.key) es[i]?).getD key) key).run T.prog w'=.ok key w':=by
   rw[he];show (Instr.keyThatStays e.key key).run T.prog w'=.ok key w';rw[hek];exact MapKept.run_keyThatStays hkey
  have hr:(Instr.mapUpdate t (.map (some b)) key v).run T.prog w'=.ok () { w' with heap:=w'.heap.setIfInBounds b (.map (es.modify i fun e=>{ e with key:=key,val:=v }) clock) }:=by
   simp[Instr.mapUpdate,run_underlying (ok.und _ _ hm),MapKept.run_getObj_map hg,MapKept.run_checkKey (ok.und _ _ hd) hkey false 9999,MapKept.run_findKey (ok.und _ _ hd) hf,hst,MapKept.run_setObj_map _ hg,Result.andThen]
  refine sC (w':=_) ?_ (hK undef _ _ _ (inv.upd aG5 (aAj _ hg)) (by rw[aO6];exact hk));rcases hop with rfl|rfl <;>
  .simp only[execOp,hop',a1,a2,a3,bJy,hr]
   rfl
end Go.Vc
namespace Go.Proofs.Y
open Go Go.Vc Go.Dig
class UpV {α:Type} (P:aA->Value->α->Prop):Prop where
 up:∀{h h':aA} {v:Value} {a:α},h.le h'->P h v a->P h' v a
instance:UpV VE:=⟨fun hl ⟨op,arg,neg,n,d,name,s,e,w⟩=>⟨op,arg,neg,n,d,name,s,e,w.mono hl⟩⟩
def bDj{α:Type}(P:aA->Value->α->Prop)(h:aA)(x:MapEntry)(b:List Nat × α):Prop:=x.key=.string (txt b.1)/\(∀y∈b.1,y<256)/\P h x.val b.2
def gN{α:Type}(P:aA->Value->α->Prop)(h:aA):List MapEntry->List (List Nat × α)->Prop
 | [],[]=>True
 | x::xs,b::bs=>bDj P h x b/\gN P h xs bs
 | _,_=>False
theorem gN.mono{α:Type}{P:aA->Value->α->Prop}[UpV P]{h h':aA}(hl:h.le h'):∀{xs:List MapEntry} {bs:List (List Nat × α)},gN P h xs bs->gN P h' xs bs
 | [],[],_=>trivial
 | [],_::_,w=>w.elim
 | _::_,[],w=>w.elim
 | _::_,_::_,⟨⟨h1,h2,h3⟩,r⟩=>⟨⟨h1,h2,UpV.up hl h3⟩,gN.mono hl r⟩
theorem gN.push{α:Type}{P:aA->Value->α->Prop}{h:aA}{x:MapEntry}{b:List Nat × α}(hx:bDj P h x b):∀{xs:List MapEntry} {bs:List (List Nat × α)},gN P h xs bs->gN P h (xs++[x]) (bs++[b])
 | [],[],_=>⟨hx,trivial⟩
 | [],_::_,w=>w.elim
 | _::_,[],w=>w.elim
 | _::_,_::_,⟨h1,r⟩=>⟨h1,gN.push hx r⟩
theorem gN.set{α:Type}{P:aA->Value->α->Prop}{h:aA}{x:MapEntry}{b:List Nat × α}(hx:bDj P h x b):∀{j:Nat} {xs:List MapEntry} {bs:List (List Nat × α)},gN P h xs bs->gN P h (xs.set j x) (bs.set j b)
 | _,[],[],w=>w
 | _,[],_::_,w=>w.elim
 | _,_::_,[],w=>w.elim
 | 0,_::_,_::_,⟨_,r⟩=>⟨hx,r⟩
 | _+1,_::_,_::_,⟨h1,r⟩=>⟨h1,gN.set hx r⟩
def eN{α:Type}:List (List Nat × α)->List Nat->Option α
 | [],_=>none
 | (n,u)::bs,name=>if n=name then some u else eN bs name
theorem gN.find{α:Type}{P:aA->Value->α->Prop}{h:aA}{nm:List Nat}(hnm:∀y∈nm,y<256):∀{xs:List MapEntry} {bs:List (List Nat × α)} (i0:Nat),gN P h xs bs->
  (∃j x t,Instr.findNow .string (.string (txt nm)) xs i0=some (some (i0+j,x.val))/\xs[j]?=some x/\bs[j]?=some (nm,t)/\x.key=.string (txt nm)/\P h x.val t/\eN bs nm=some t)\/
  (Instr.findNow .string (.string (txt nm)) xs i0=some none/\nm∉bs.map (·.1)/\eN bs nm=none)
 | [],[],_,_=>.inr ⟨rfl,by simp,rfl⟩
 | [],_::_,_,w=>w.elim
 | _::_,[],_,w=>w.elim
 | x::xs,(n,t)::bs,i0,⟨⟨k1,k2,k3⟩,r⟩=>by
  by_cases e:n=nm
  .subst e;refine .inl ⟨0,x,t,?_,rfl,rfl,k1,k3,by rw[eN,if_pos rfl]⟩
   rw[Instr.findNow,k1,show Instr.sameNow .string (.string (txt n)) (.string (txt n))=some true from congrArg some ((MapKept.bytes_beq _ _).2 rfl)]
   rfl
  .have hs:Instr.sameNow .string (.string (txt nm)) x.key=some false:=by
    rw[k1];show some (txt nm == txt n)=some false
    congr 1
    cases hb:(txt nm == txt n) with
    | false=>rfl
    | true=>exact absurd (aAg hnm k2 ((MapKept.bytes_beq _ _).1 hb)).symm e
   rcases gN.find hnm (i0+1) r with ⟨j,x',t',h1,h2,h3,h4,h5,h6⟩|⟨h1,h2,h3⟩
   .exact .inl ⟨j+1,x',t',by rw[Instr.findNow,hs];simpa[bL5,Nat.add_left_comm] using h1,by simpa using h2,by simpa using h3,h4,h5,by rw[eN,if_neg e];exact h6⟩
   .refine .inr ⟨by rw[Instr.findNow,hs];exact h1,?_,by rw[eN,if_neg e];exact h3⟩
    simp only[bJw,bI7,not_or];exact⟨fun x=>e x.symm,h2⟩
theorem rU{α:Type}{f:α->α}:∀{l:List α} {i:Nat} {e:α},l[i]?=some e->l.modify i f=l.set i (f e)
 | [],_,_,h=>by simp at h
 | x::xs,0,e,h=>by
  simp at h;subst h;rfl
 | x::xs,i+1,e,h=>by
  rw[List.modify_succ_cons,bK9,rU (by simpa using h)]
theorem modify_set{es:Array MapEntry}{i:Nat}{e:MapEntry}(he:es[i]?=some e)(f:MapEntry->MapEntry):(es.modify i f).toList=es.toList.set i (f e):=by
 rw[Array.toList_modify,rU (by rw[Array.getElem?_toList];exact he)]
def byM(bs:List (List Nat × Tr)):Tr->Option Tr
 | .mk op _ _ _ _ name _=>if op=2 then eN bs name else none
end Go.Proofs.Y
/- Contracts of the roots of natural numbers: package word's and the reference's. -/
namespace Go.Proofs.Y
open Go Go.Vc Go.Dig

theorem eV.i64v{a b:Int}{k:Int->Prop}(c:Int)(ha:0<=a)(hb:0<b)(hm:a<=9223372036854775807)(hc:a / b=c)(hk:k c):eV .i64 a b k:=eV.i64 ha hb hm (by rw[hc];exact hk)
theorem bF7(h:aA)(a:Sl)(m:Nat)(n:Int)(P:Nat)(hn:n=P)(ha:aM h a m)(la:ln 4294967296 m<=17179869184)(hp:P<=549755813888):
  Fn0 T F.q278 [a.val,.int .i64 n] h fun v h'=>∃s:Sl,v=s.val/\aM h' s (m*2^P):=by
 subst hn;exact aLi h a m P ha la hp
theorem bCh(h:aA)(a:Sl)(A:Nat)(n:Int)(P:Nat)(hn:n=P)(ha:aM h a A)(hb:P*ln 4294967296 A<=8589934590)(la:ln 4294967296 A<=8589934592)(hp:P<=65536):
  Fn0 T F.q241 [a.val,.int .i64 n] h fun v h'=>∃s:Sl,v=s.val/\aM h' s (A^P):=by
 subst hn;exact aF8 h a A P ha hb la hp
theorem bA0(h:aA)(n:Int)(P:Nat)(hn:n=P)(hp:P<18446744073709551616):Fn0 T F.q131 [.int .u64 n] h fun v h'=>∃s':Sl,v=s'.val/\aM h' s' P:=by
 subst hn;exact gH h P hp
theorem aO8(h:aA)(n:Int)(P:Nat)(hn:n=P)(hp:P<18446744073709551616):Fn0 T F.q59 [.int .u64 n] h fun v h'=>∃s':Sl,v=s'.val/\aP h' s' P:=by
 subst hn;exact gV h P hp
theorem aJq{m n:Nat}:gU m n=0↔m=n:=by unfold gU;split<;>(try split)<;>omega
theorem aJr{m n:Nat}(h:gU m n<0):m<n:=by unfold gU at h;split at h<;>(try split at h)<;>omega

theorem bA1(h:aA)(a:Sl)(A n:Nat)(ha:aM h a A)(la:ln 4294967296 A<=4096)(hn1:2<=n)(hn2:n<=8):
  Fn0 T F.q243 [a.val,.int .i64 n] h fun v h'=>∃s:Sl,v=.tuple #[s.val,.bool (dec (rt A n^n=A))]/\aM h' s (rt A n):=by
 have hal:=ha.len;have hz:=bA tlB (n:=A);by_cases h00:A=0
 .have hz0:=hz.2 h00;clear hz;refine f0C ok D.q243 rfl ?_;conv=>whnf
  repeat' ((first|((first|apply oI.z|apply cI.z))|(apply aD<;>intro _<;>try (exfalso;omega)))<;>conv=>whnf)
  subst h00;exact RN.a ⟨⟨none,0,0⟩,by rw[aX (by rw[aF2,Nat.zero_pow Aa])]<;>rfl,by rw[aF2];exact aM.nil rfl⟩
 have hz0:ln 4294967296 A≠0:=fun e=>h00 (hz.1 e)
 clear hz;have hbl:bl A<=131072:=bJd (wJ A) Aa;have hbA:=fN.1 (bJf (bl A));obtain⟨B0,hB0⟩:=AH (bl A);rw[<-hB0] at hbl hbA;obtain⟨C,hC⟩:=AH ((B0+n-1) / n);have hCi:((B0:Int)+(n:Int)-1) / (n:Int)=(C:Int):=by
  rw[hC,show (B0:Int)+(n:Int)-1=((B0+n-1:Nat):Int) by omega];rfl
 have hCn:B0<=n*C:=by
  have h1:=bK3 (B0+n-1) n;have h2:=bKl (B0+n-1) (show n>0 by omega)
  rw[<-hC] at h1;omega
 have hCb:C<=131080:=by rw[hC];exact bJd (bLe _ _) Aa
 have hst:rt A n<=2^(C+1):=bJd (aIi Aa hbA hCn) (bJq Ae Aa);have hl0:=aLp (C+1);obtain⟨X0,hX0⟩:=AH (2^(C+1));have hX0p:0<X0:=by rw[hX0];exact bJ6 _
 rw[<-hX0] at hst hl0;clear hC hCn hbA;refine f0C ok D.q243 rfl ?_;conv=>whnf
 repeat' ((first|(show CN _ _ _ _ _ _;first|(refine CN.f rfl (gH _ 1 Aa) (fun v h' hl hr=>?_);obtain⟨s',rfl,hs'⟩:=hr)|(refine CN.quiet rfl (aNw _ _ A Ah Aa) ?_;rw[<-hB0])|(refine CN.f rfl (bF7 _ _ 1 _ (C+1) Aa Ab (by rw[jA _ tlB];decide) Aa) (fun v h' hl hr=>?_);rw[bLi,<-hX0] at hr;obtain⟨s',rfl,hs'⟩:=hr))|(show eV _ _ _ _;refine eV.i64v (C:Int) Aa Aa Aa hCi ?_)|((first|apply oI.z|apply cI.z))|refine WN.i64 Aa Aa ?_|(apply aD<;>intro _<;>try (exfalso;omega)))<;>conv=>whnf)
 rename_i hx0;refine LpN.of (fun r ρ h' L=>∃xs:Sl,h.le h'/\rd ρ 6=xs.val/\aM h' xs r/\Hq (rt A n<=r)/\0<r/\ln 4294967296 r<=131082) X0
  ⟨_,Ac,rfl,Ab,⟨hst⟩,hX0p,Aa⟩ ?_
 clear hz0 hal hx0;conv=>whnf
 repeat intro _
 rename_i X h1 L1 hI;obtain⟨xs,hle,e6,hxs,hrX,hXp,hXl⟩:=hI;conv at e6=>lhs;whnf
 subst e6;have ha1:=ha.mono hle;have q1:=oY tlB X (n-1);have q2:=oY tlB X n;have r1:(n-1)*ln 4294967296 X<=7*131082:=bJ8 Aa hXl;have r2:n*ln 4294967296 X<=8*131082:=bJ8 hn2 hXl;obtain⟨P1,hP1⟩:=AH (X^(n-1));obtain⟨P2,hP2⟩:=AH (X^n);have hP1p:P1≠0:=by rw[hP1];exact bNn (bKv hXp)
 rw[<-hP1] at q1;rw[<-hP2] at q2;have q3:=aBi A P1;have q4:=cX tlB X (n-1);have q5:ln 4294967296 (n-1)<=1:=(aR tlB).2 Aa;obtain⟨Q1,hQ1⟩:=AH (A / P1);rw[<-hQ1] at q3;obtain⟨M1,hM1⟩:=AH (X*(n-1));rw[<-hM1] at q4;have q6:=uZ tlB M1 Q1;obtain⟨Y,hY⟩:=AH ((M1+Q1) / n);have hYn:Y=aQb A n X:=by rw[hY,hM1,hQ1,hP1];rfl
 have hYl:Y<X->ln 4294967296 Y<=131082:=fun hh=>bJd (cK (bLw hh)) hXl
 have hYr:rt A n<=Y:=by rw[hYn];exact aN5 Aa hXp
 have hstop:X<=Y->X=rt A n:=fun hh=>aD0 Aa hXp (by rw[<-hYn];exact hh) hrX.out
 have hYp:0<Y:=bJr (aF3 Aa h00) hYr;have hYb:ln 4294967296 Y<=1048576:=by rw[hY];exact bJd (aBi _ _) Aa
 replace hYr:=Hq.mk hYr;replace hstop:=Hq.mk hstop;clear hYn hrX ha;conv=>whnf
 repeat' ((first|(show CN _ _ _ _ _ _;first|(refine CN.f rfl (bCh _ _ X _ (n-1) Aa Ab Aa Aa Aa) (fun v h' hl hr=>?_);rw[<-hP1] at hr;obtain⟨s',rfl,hs'⟩:=hr)|(refine CN.f rfl (bCh _ _ X _ n rfl Ah Aa Aa Aa) (fun v h' hl hr=>?_);rw[<-hP2] at hr;obtain⟨s',rfl,hs'⟩:=hr)|(refine CN.f rfl (aLl _ _ _ A P1 Ah Ab Aa Aa hP1p) (fun v h' hl hr=>?_);rw[<-hQ1] at hr;obtain⟨q',r',rfl,hq',hr'⟩:=hr)|(refine CN.f rfl (bA0 _ _ (n-1) Aa Aa) (fun v h' hl hr=>?_);obtain⟨s',rfl,hs'⟩:=hr)|(refine CN.f rfl (sF _ _ _ X (n-1) Ah Ab Aa Aa) (fun v h' hl hr=>?_);rw[<-hM1] at hr;obtain⟨s',rfl,hs'⟩:=hr)|(refine CN.f rfl (aLh _ _ _ M1 Q1 Ab Ah Aa Aa) (fun v h' hl hr=>?_);obtain⟨s',rfl,hs'⟩:=hr)|(refine CN.f rfl (sH _ _ (M1+Q1) n Ab Aa Aa Aa) (fun v h' hl hr=>?_);rw[<-hY] at hr;obtain⟨s',rfl,hs'⟩:=hr)|(refine CN.quiet rfl (yG _ _ _ Y X Ah Ah Aa Aa) ?_)|(refine CN.quiet rfl (yG _ _ _ P2 A Ab Ah Aa Aa) ?_))|((first|apply oI.z|apply cI.z))|(show WN _ _ _;first|refine WN.i64 Aa Aa ?_|refine WN.u64 Aa Aa ?_|refine WN.u32 Aa Aa ?_)|(apply bX<;>intro _<;>try (exfalso;omega)))<;>conv=>whnf)
 .have hc:X<=Y:=aF6 Ab;have hXr:=hstop.out hc;refine RN.a ⟨xs,?_,by rw[<-hXr];exact Ah⟩
  by_cases hp:rt A n^n=A
  .rw[aX hp,Vc.eq_true' (aJq.2 (by rw[hP2,hXr];exact hp))]
  .rw[aH hp,Vc.eq_false' (fun e=>hp (by rw[<-hXr,<-hP2];exact aJq.1 e))]
 .have hc:Y<X:=aJr Ab;exact⟨rfl,Y,hc,_,Ac,rfl,Ab,hYr,hYp,hYl hc⟩

theorem aMw(h:aA)(a:Sl)(A n:Nat)(ha:aP h a A)(la:ln 4294967296 A<=4096)(hn1:2<=n)(hn2:n<=8):
  Fn0 T F.q338 [a.val,.int .i64 n] h fun v h'=>∃s:Sl,v=s.val/\aP h' s (rt A n):=by
 have hal:=ha.len;have hz:=bA tlb (n:=A);have lb:=aBk A;by_cases h00:A=0
 .have hz0:=hz.2 h00;clear hz;refine f0C ok D.q338 rfl ?_;conv=>whnf
  repeat' ((first|((first|apply oI.z|apply cI.z))|(apply aD<;>intro _<;>try (exfalso;omega)))<;>conv=>whnf)
  subst h00;exact RN.a ⟨⟨none,0,0⟩,rfl,by rw[aF2];exact aP.nil rfl⟩
 have hz0:ln 65536 A≠0:=fun e=>h00 (hz.1 e)
 clear hz;have hbl:bl A<=131072:=bJd (wJ A) Aa;have hbA:=fN.1 (bJf (bl A));obtain⟨B0,hB0⟩:=AH (bl A);rw[<-hB0] at hbl hbA;obtain⟨C,hC⟩:=AH ((B0+n-1) / n);have hCi:((B0:Int)+(n:Int)-1) / (n:Int)=(C:Int):=by
  rw[hC,show (B0:Int)+(n:Int)-1=((B0+n-1:Nat):Int) by omega];rfl
 have hCn:B0<=n*C:=by
  have h1:=bK3 (B0+n-1) n;have h2:=bKl (B0+n-1) (show n>0 by omega)
  rw[<-hC] at h1;omega
 have hCb:C<=131080:=by rw[hC];exact bJd (bLe _ _) Aa
 have hst:rt A n<=2^C:=aIi Aa hbA hCn;have hl0:=aL0 C;obtain⟨X0,hX0⟩:=AH (2^C);have hX0p:0<X0:=by rw[hX0];exact bJ6 _
 rw[<-hX0] at hst hl0;clear hC hCn hbA;refine f0C ok D.q338 rfl ?_;conv=>whnf
 repeat' first|((first|(show CN _ _ _ _ _ _;first|(refine CN.f rfl (gV _ 1 Aa) (fun v h' hl hr=>?_);obtain⟨s',rfl,hs'⟩:=hr)|(refine CN.quiet rfl (aLv _ _ A Ai Aa) ?_;rw[<-hB0])|(refine CN.f rfl (aTe _ _ 1 _ C Aa Ab (by rw[jA _ tlb];decide) Aa) (fun v h' hl hr=>?_);rw[bLi,<-hX0] at hr;obtain⟨s',rfl,hs'⟩:=hr))|(show eV _ _ _ _;refine eV.i64v (C:Int) Aa Aa Aa hCi ?_)|((first|apply oI.z|apply cI.z))|refine WN.i64 Aa Aa ?_)<;>conv=>whnf)|(show cnd _ _ _;first|((first|apply aB|apply aD)<;>intro _<;>first|(exfalso;omega)|conv=>whnf))
 rename_i hx0;refine LpN.of (fun r ρ h' L=>∃xs:Sl,h.le h'/\rd ρ 5=xs.val/\aP h' xs r/\Hq (rt A n<=r)/\0<r/\ln 65536 r<=131082) X0
  ⟨_,Ac,rfl,Ab,⟨hst⟩,hX0p,Aa⟩ ?_
 clear hz0 hal hx0;conv=>whnf
 repeat intro _
 rename_i X h1 L1 hI;obtain⟨xs,hle,e5,hxs,hrX,hXp,hXl⟩:=hI;conv at e5=>lhs;whnf
 subst e5;have ha1:=ha.mono hle;have q1:=oY tlb X (n-1);have r1:(n-1)*ln 65536 X<=7*131082:=bJ8 Aa hXl;obtain⟨P1,hP1⟩:=AH (X^(n-1));have hP1p:P1≠0:=by rw[hP1];exact bNn (bKv hXp)
 rw[<-hP1] at q1;have q3:=cQ tlb (bLe A P1);have q4:=cX tlb X (n-1);have q5:ln 65536 (n-1)<=1:=(aR tlb).2 Aa;have q7:ln 65536 n<=1:=(aR tlb).2 Aa;obtain⟨Q1,hQ1⟩:=AH (A / P1);rw[<-hQ1] at q3;obtain⟨M1,hM1⟩:=AH (X*(n-1));rw[<-hM1] at q4;have q6:=uZ tlb M1 Q1;obtain⟨Y,hY⟩:=AH ((M1+Q1) / n);have hYn:Y=aQb A n X:=by rw[hY,hM1,hQ1,hP1];rfl
 have hYl:Y<X->ln 65536 Y<=131082:=fun hh=>bJd (cQ tlb (bLw hh)) hXl
 have hYr:rt A n<=Y:=by rw[hYn];exact aN5 Aa hXp
 have hstop:X<=Y->X=rt A n:=fun hh=>aD0 Aa hXp (by rw[<-hYn];exact hh) hrX.out
 have hYp:0<Y:=bJr (aF3 Aa h00) hYr;have hYb:ln 65536 Y<=1048576:=by rw[hY];exact bJd (cQ tlb (bLe _ _)) Aa
 replace hYr:=Hq.mk hYr;replace hstop:=Hq.mk hstop;clear hYn hrX ha;conv=>whnf
 repeat' ((first|(show CN _ _ _ _ _ _;first|(refine CN.f rfl (aBn _ _ X _ (n-1) Aa Ab Aa Aa Aa) (fun v h' hl hr=>?_);rw[<-hP1] at hr;obtain⟨s',rfl,hs'⟩:=hr)|(refine CN.f rfl (tU _ _ _ A P1 Ai Ab Aa Aa hP1p) (fun v h' hl hr=>?_);rw[<-hQ1] at hr;obtain⟨q',r',rfl,hq',hr'⟩:=hr)|(refine CN.f rfl (aO8 _ _ (n-1) Aa Aa) (fun v h' hl hr=>?_);obtain⟨s',rfl,hs'⟩:=hr)|(refine CN.f rfl (aO8 _ _ n Aa Aa) (fun v h' hl hr=>?_);obtain⟨s',rfl,hs'⟩:=hr)|(refine CN.f rfl (kH _ _ _ X (n-1) Ai Ab Aa Aa) (fun v h' hl hr=>?_);rw[<-hM1] at hr;obtain⟨s',rfl,hs'⟩:=hr)|(refine CN.f rfl (aD2 _ _ _ M1 Q1 Ab Ai Aa Aa) (fun v h' hl hr=>?_);obtain⟨s',rfl,hs'⟩:=hr)|(refine CN.f rfl (tU _ _ _ (M1+Q1) n Ai Ab Aa Aa Aa) (fun v h' hl hr=>?_);rw[<-hY] at hr;obtain⟨q',r',rfl,hq',hr'⟩:=hr)|(refine CN.quiet rfl (pN _ _ _ Y X Ab Ai Aa Aa) ?_))|((first|apply oI.z|apply cI.z))|(show WN _ _ _;first|refine WN.i64 Aa Aa ?_|refine WN.u64 Aa Aa ?_)|(apply bX<;>intro _<;>try (exfalso;omega)))<;>conv=>whnf)
 .have hc:X<=Y:=aF6 Ab;have hXr:=hstop.out hc;exact RN.a ⟨xs,rfl,by rw[<-hXr];exact Ai⟩
 .have hc:Y<X:=aJr Ab;exact⟨rfl,Y,hc,_,Ac,rfl,Ab,hYr,hYp,hYl hc⟩
end Go.Proofs.Y
/- Rational roots: number.Root, the reference's Exact and Root; what the statement on roots computes: true. -/
namespace Go.Dig
theorem aAq(a:Nat){n:Nat}(hn:1<=n):rt a n<=a:=bJd (zK hn) (aN4 hn)
def cJ(q:Rat)(n:Nat):Rat × Bool:=
 if sg q=true/\n%2=0 then (0,false) else if rt (nu q) n^n=nu q/\rt q.den n^n=q.den then (mkQ (sg q) (rt (nu q) n) (rt q.den n),true) else (0,false)
theorem aVx{q:Rat}{n:Nat}(hn:1<=n):rt q.den n≠0:=bNn (aF3 hn q.den_nz)
theorem vP{q:Rat}{n:Nat}(hn:1<=n)(h1:rt (nu q) n^n=nu q)(h2:rt q.den n^n=q.den):
  sg (mkQ (sg q) (rt (nu q) n) (rt q.den n))=sg q/\nu (mkQ (sg q) (rt (nu q) n) (rt q.den n))=rt (nu q) n/\(mkQ (sg q) (rt (nu q) n) (rt q.den n)).den=rt q.den n:=by
 have hd:=aVx (q:=q) hn;have hc:Nat.gcd (rt (nu q) n) (rt q.den n)=1:=by
  have hq:=cop q;have d1:=Nat.gcd_dvd_left (rt (nu q) n) (rt q.den n);have d2:=Nat.gcd_dvd_right (rt (nu q) n) (rt q.den n);have k1:rt (nu q) n^1 ∣ rt (nu q) n^n:=Nat.pow_dvd_pow _ hn;have k2:rt q.den n^1 ∣ rt q.den n^n:=Nat.pow_dvd_pow _ hn;rw[h1,Nat.pow_one] at k1;rw[h2,Nat.pow_one] at k2;have e1:=Nat.dvd_trans d1 k1;have e2:=Nat.dvd_trans d2 k2;have:=Nat.dvd_gcd e1 e2;rw[hq] at this;exact Nat.dvd_one.1 this
 refine⟨?_,by rw[aBe _ hd,hc,bMx],by rw[wH _ hd,hc,bMx]⟩
 rw[aFx _ hd];cases hs:sg q with
 | false=>rfl
 | true=>
  have:nu q≠0:=fun e=>by rw[cE.1 e,qS] at hs;cases hs
  have h3:rt (nu q) n≠0:=bNn (aF3 hn this);simp[h3]
theorem aJs{q:Rat}{n:Nat}(hn:1<=n)(he:¬(sg q=true/\n%2=0)):(mkQ (sg q) (rt (nu q) n) (rt q.den n))^n=q↔rt (nu q) n^n=nu q/\rt q.den n^n=q.den:=by
 constructor
 .intro h;have h1:nu (mkQ (sg q) (rt (nu q) n) (rt q.den n))^n=nu q:=by rw[<-vC,h]
  have h2:(mkQ (sg q) (rt (nu q) n) (rt q.den n)).den^n=q.den:=by rw[<-bNh,h]
  obtain⟨p,hp⟩:=AH (nu (mkQ (sg q) (rt (nu q) n) (rt q.den n)));obtain⟨d,hd⟩:=AH ((mkQ (sg q) (rt (nu q) n) (rt q.den n)).den);rw[<-hp] at h1;rw[<-hd] at h2;rw[<-h1,<-h2,aS7 hn,aS7 hn];exact⟨rfl,rfl⟩
 .rintro⟨h1,h2⟩
  obtain⟨a,b,c⟩:=vP hn h1 h2;refine bG9 ?_ ?_ ?_
  .rw[aLn,a];cases hs:sg q with
   | false=>rfl
   | true=>
    have:n%2=1:=by
     rcases bM3 n with e|e
     .exact absurd ⟨hs,e⟩ he
     .exact e
    simp[this]
  .rw[vC,b,h1]
  .rw[bNh,c,h2]
end Go.Dig
namespace Go.Proofs.Y
open Go Go.Vc Go.Dig
def nO(n1:Bool)(l1 m1:List Nat)(n:Int):Rat × Bool × Int:=
 if okR n1 l1 m1 then (if n<2\/8<n then (0,false,2) else ((cJ (aK n1 l1 m1) n.toNat).1,(cJ (aK n1 l1 m1) n.toNat).2,0)) else (0,false,1)
def uO(h:aA)(v:Value)(x:Rat × Bool × Int):Prop:=∃a b:Sl,v=.tuple #[.agg #[.bool (sg x.1),a.val,b.val],.bool x.2.1,.int .i64 x.2.2]/\eA h a b x.1
theorem uO.err(h:aA)(e:Int):uO h (.tuple #[.agg #[.bool false,.slice none 0 0,.slice none 0 0],.bool false,.int .i64 e]) (0,false,e):=
 ⟨⟨none,0,0⟩,⟨none,0,0⟩,by rw[show sg (0,false,e).1=false from qS]<;>rfl,eA.zero _⟩
theorem aVy(h:aA)(a:Sl)(A:Nat)(n:Int)(N:Nat)(hn:n=N)(ha:aM h a A)(la:ln 4294967296 A<=4096)(hn1:2<=N)(hn2:N<=8):
  Fn0 T F.q243 [a.val,.int .i64 n] h fun v h'=>∃s:Sl,v=.tuple #[s.val,.bool (dec (rt A N^N=A))]/\aM h' s (rt A N):=by
 subst hn;exact bA1 h a A N ha la hn1 hn2
theorem aEm(h:aA)(a:Sl)(A:Nat)(n:Int)(N:Nat)(hn:n=N)(ha:aP h a A)(la:ln 4294967296 A<=4096)(hn1:2<=N)(hn2:N<=8):
  Fn0 T F.q338 [a.val,.int .i64 n] h fun v h'=>∃s:Sl,v=s.val/\aP h' s (rt A N):=by
 subst hn;exact aMw h a A N ha la hn1 hn2
theorem bDk(h:aA)(s:Bool)(a b:Sl)(q:Rat)(hs:sg q=s)(hq:eJ h a b q)(hz:Sz 1073741824 q):
  Fn0 T F.q49 [.agg #[.bool s,a.val,b.val]] h fun v h'=>Res h' v (eO q):=by
 subst hs;exact jZ h a b q hq hz
theorem aVz(h:aA)(tb:Tb h)(n1:Bool)(a1 b1:Sl)(l1 m1:List Nat)(hv1:bV h a1 b1 l1 m1)(n:Int)(lo:-9223372036854775808<=n)(hi:n<=9223372036854775807):
  Fn0 T F.q166 [.agg #[.bool n1,a1.val,b1.val],.int .i64 n] h fun v h'=>uO h' v (nO n1 l1 m1 n):=by
 have f2:¬okR n1 l1 m1->nO n1 l1 m1 n=(0,false,1):=fun x=>if_neg x
 have f3:okR n1 l1 m1->(n<2\/8<n)->nO n1 l1 m1 n=(0,false,2):=fun x y=>by unfold nO;rw[if_pos x,if_pos y]
 have f4:okR n1 l1 m1->¬(n<2\/8<n)->nO n1 l1 m1 n=((cJ (aK n1 l1 m1) n.toNat).1,(cJ (aK n1 l1 m1) n.toNat).2,0):=fun x y=>by unfold nO;rw[if_pos x,if_neg y]
 refine f0C ok D.q166 rfl ?_;conv=>whnf
 repeat' first|((first|(show CN _ _ _ _ _ _;(refine CN.f rfl (iU _ Ab _ _ _ l1 m1 Ab) (fun v h' hle1 hr=>?_);obtain⟨s1,c1,d1,rfl,hok1⟩:=hr))|((first|apply oI.z|apply cI.z))|intro (_:Nat)|refine LdN.o 1 rfl rfl ?_|refine Ld.o 0 rfl rfl ?_|(show Sto _ _ _ _;first|refine Sto.l 0 rfl rfl rfl ?_|refine Sto.l 1 rfl rfl rfl ?_))<;>conv=>whnf)|(show cnd _ _ _;first|(apply aB<;>intro _<;>first|(exfalso;omega)|conv=>whnf)|(refine aI ?_)|(apply aU<;>intro _<;>first|(exfalso;omega)|conv=>whnf)|(refine bO (fun hb=>?_) (fun hb=>?_)<;>(first|cases hb|subst hb)<;>(conv=>whnf)))
 all_goals first
  | (rw[f2 Ab];exact RN.a (uO.err _ _))
  | (rw[f3 Ab Aa];exact RN.a (uO.err _ _))
  | skip
 all_goals
  obtain⟨hs,g1⟩:=hok1 Ab;have k1:okR n1 l1 m1:=Ab;have z1:=okR.sz k1;have hfq:=k1.2.2;obtain⟨N,hN⟩:∃N:Nat,n=N:=⟨n.toNat,Aa⟩
  rw[f4 k1 Aa,show n.toNat=N by omega]
  clear f2 f3 f4 hok1;obtain⟨q,hq⟩:=AH (aK n1 l1 m1);rw[<-hq] at hs g1 z1 hfq;rw[<-hq];have hn2:2<=N:=Aa;have hn8:N<=8:=Aa;have i1:=g1.num;have i2:=g1.den;have t1:=z1.num;have t2:=z1.den;have w1:=cK (aAq (nu q) (n:=N) Aa);have w2:=cK (aAq q.den (n:=N) Aa);have E1:sg q=true->N%2=0->cJ q N=(0,false):=fun a b=>if_pos ⟨a,b⟩
  have E2:¬(sg q=true/\N%2=0)->rt (nu q) N^N=nu q->rt q.den N^N=q.den->cJ q N=(mkQ (sg q) (rt (nu q) N) (rt q.den N),true):=fun a b c=>by unfold cJ;rw[if_neg a,if_pos ⟨b,c⟩]
  have E3:¬(sg q=true/\N%2=0)->¬(rt (nu q) N^N=nu q/\rt q.den N^N=q.den)->cJ q N=(0,false):=fun a b=>by unfold cJ;rw[if_neg a,if_neg b]
  have R:=vP (q:=q) (n:=N) Aa;obtain⟨r,hr0⟩:=AH (mkQ (sg q) (rt (nu q) N) (rt q.den N));rw[<-hr0] at E2 R;rw[<-hs] at E1 E2 E3 R;obtain⟨X1,hX1⟩:=AH (rt (nu q) N);obtain⟨X2,hX2⟩:=AH (rt q.den N);rw[<-hX1,<-hX2] at E2 E3 R;rw[<-hX1] at w1;rw[<-hX2] at w2;have hfr:X1^N=nu q->X2^N=q.den->fits r:=fun a b=>⟨by rw[(R a b).2.1];omega,by rw[(R a b).2.2];omega⟩
  have hzr:X1^N=nu q->X2^N=q.den->Sz 1073741824 r:=fun a b=>⟨bJd (hfr a b).1 Ae,bJd (hfr a b).2 Ae⟩
  have hout:X1^N=nu q->X2^N=q.den->eO r=(r,0):=fun a b=>if_pos (hfr a b)
  clear hr0 hq hs
 all_goals (repeat' first|((first|(show gZ _ _ _;refine gZ.nn Aa Aa ?_)|(show CN _ _ _ _ _ _;first|(refine CN.f rfl (aVy _ _ (nu q) n N hN Ah Aa hn2 hn8) (fun v h' hl hr=>?_);rw[<-hX1] at hr;obtain⟨s',rfl,hs'⟩:=hr)|(refine CN.f rfl (aVy _ _ q.den n N hN Ah Aa hn2 hn8) (fun v h' hl hr=>?_);rw[<-hX2] at hr;obtain⟨s',rfl,hs'⟩:=hr)|(refine CN.f rfl (bDk _ _ _ _ r (R Ab Ab).1 ⟨by rw[(R Ab Ab).2.1];exact Ah,by rw[(R Ab Ab).2.2];exact Ab⟩ (hzr Ab Ab)) (fun v h' hl hr=>?_);rw[hout Ab Ab] at hr;obtain⟨e1,e2,rfl,hq'⟩:=Res.two hr))|((first|apply oI.z|apply cI.z))|intro (_:Nat)|(show LdN _ _ _ _ _;first|refine LdN.o 0 rfl rfl ?_|refine LdN.o 1 rfl rfl ?_|refine LdN.o 2 rfl rfl ?_)|refine Ld.o 0 rfl rfl ?_|(show Sto _ _ _ _;first|refine Sto.l 0 rfl rfl rfl ?_|refine Sto.l 1 rfl rfl rfl ?_|refine Sto.l 2 rfl rfl rfl ?_))<;>conv=>whnf)|(show cnd _ _ _;first|(apply aD<;>intro _<;>first|(exfalso;omega)|conv=>whnf)|(refine aI ?_)|(apply aU<;>intro _<;>first|(exfalso;omega)|conv=>whnf)))
 all_goals first
  | (rw[E1 rfl Aa];exact RN.a (uO.err _ _))
  | (rw[E2 (fun hh=>by first|(have:=hh.2;omega)|(have:=hh.1;contradiction)) Ab Ab];exact RN.a ⟨_,_,by rw[Vc.eq_true' rfl]<;>rfl,Ab⟩)
  | (rw[E3 (fun hh=>by first|(have:=hh.2;omega)|(have:=hh.1;contradiction)) (fun hh=>by first|exact absurd hh.1 Ab|exact absurd hh.2 Ab)];exact RN.a (uO.err _ _))
theorem aV0(h:aA)(a b:Sl)(q:Rat)(n:Int)(N:Nat)(hN:n=N)(hn2:2<=N)(hn8:N<=8)(hq:IsQ h a b q)(hs:Sz 64 q):
  Fn0 T F.q305 [.agg #[.bool (sg q),a.val,b.val],.int .i64 n] h fun v h'=>∃s t:Sl,v=.tuple #[.agg #[.bool (sg (cJ q N).1),s.val,t.val],.bool (cJ q N).2]/\IsQ h' s t (cJ q N).1:=by
 have i1:=hq.num;have i2:=hq.den;have t1:=hs.num;have t2:=hs.den;have d0:=q.den_nz;have v1:=aBk (nu q);have v2:=aBk q.den;have sq:Sr 65536 q:=(Sr.of hs).mono Ae;have w1:=cQ tlb (aAq (nu q) (n:=N) Aa);have w2:=cQ tlb (aAq q.den (n:=N) Aa);obtain⟨z,hz⟩:∃z:Rat,z=((0:Int):Rat):=⟨_,rfl⟩
 have hz':z=0:=hz;have E1:sg q=true->N%2=0->cJ q N=(z,false):=fun a b=>by rw[hz'];exact if_pos ⟨a,b⟩
 have E2:¬(sg q=true/\N%2=0)->(mkQ (sg q) (rt (nu q) N) (rt q.den N))^N=q->cJ q N=(mkQ (sg q) (rt (nu q) N) (rt q.den N),true):=fun a b=>by
  unfold cJ;rw[if_neg a,if_pos ((aJs Aa a).1 b)]
 have E3:¬(sg q=true/\N%2=0)->(mkQ (sg q) (rt (nu q) N) (rt q.den N))^N≠q->cJ q N=(z,false):=fun a b=>by
  unfold cJ;rw[if_neg a,if_neg (fun hh=>b ((aJs Aa a).2 hh)),hz']
 have hle:=qT (sg q) (m:=rt (nu q) N) (aVx (q:=q) (n:=N) Aa);obtain⟨r,hr0⟩:=AH (mkQ (sg q) (rt (nu q) N) (rt q.den N));rw[<-hr0] at E2 E3 hle;have sr0:Sr 128 r:=⟨bJd (cQ tlb hle.1) Aa,bJd (cQ tlb hle.2) Aa⟩;have srn:Sr 65536 (r^N):=(aL3 sr0 Aa).mono Ae;obtain⟨X1,hX1⟩:=AH (rt (nu q) N);obtain⟨X2,hX2⟩:=AH (rt q.den N);rw[<-hX1,<-hX2] at hr0;rw[<-hX1] at w1;rw[<-hX2] at w2;obtain⟨s,hsg⟩:=AH (sg q);rw[<-hsg] at hr0 E1 E2 E3;obtain⟨y,hy⟩:=AH (r^N);rw[<-hy] at srn E2 E3;have c1:=fun (h:aA) (a b:Sl) (w:IsQ h a b r)=>wO h a b r N n hN Aa w sr0
 have c2:=fun (h:aA) (c d:Sl) (w:IsQ h c d y) (w':IsQ h a b q)=>qY h c d a b y q w w' srn sq
 have c3:=fun (h:aA)=>aGa h 0 Ae Ae
 rw[<-hy] at c1;rw[<-hsg] at c2;rw[<-hz] at c3;rw[<-hsg];clear hy hz' hle;have hcm:eX y q=0->y=q:=jY.1;have hcm2:eX y q≠0->y≠q:=fun a b=>a (jY.2 b)
 refine f0C ok D.q305 rfl ?_;conv=>whnf
 repeat' first|((first|(show gZ _ _ _;refine gZ.nn Aa Aa ?_)|(show CN _ _ _ _ _ _;first|(refine CN.quiet rfl (aIo _ _ _ _ _ Ag AA Aa) ?_)|(refine CN.f rfl (c3 _) (fun v h' hl hr=>?_);obtain⟨e1,e2,rfl,hq'⟩:=hr)|(refine CN.f rfl (aEm _ _ (nu q) n N hN Ai Aa hn2 hn8) (fun v h' hl hr=>?_);rw[<-hX1] at hr;obtain⟨s',rfl,hs'⟩:=hr)|(refine CN.f rfl (aEm _ _ q.den n N hN Ai Aa hn2 hn8) (fun v h' hl hr=>?_);rw[<-hX2] at hr;obtain⟨s',rfl,hs'⟩:=hr)|(refine CN.f rfl (oH _ _ _ _ X1 X2 Ai Ab Aa Aa) (fun v h' hl hr=>?_);rw[<-hr0] at hr;obtain⟨e1,e2,rfl,hq'⟩:=hr)|(refine CN.f rfl (c1 _ _ _ Ab) (fun v h' hl hr=>?_);obtain⟨e1,e2,rfl,hq'⟩:=hr)|(refine CN.f rfl (c2 _ _ _ Ab Ao) (fun v h' hl hr=>?_);obtain rfl:=hr))|((first|apply oI.z|apply cI.z))|refine⟨fun _=>aJ.o (aA.lr _),?_⟩|refine⟨fun _=>aJ.o Ab,?_⟩|refine⟨fun _=>aJ.cons _,?_⟩|refine⟨fun hst=>(by cases (show true=false from hst)),?_⟩|intro (_:Nat)|(show LdN _ _ _ _ _;first|refine LdN.o 0 rfl rfl ?_|refine LdN.o 1 rfl rfl ?_|refine LdN.o 2 rfl rfl ?_)|refine Ld.o 1 rfl rfl ?_|(show Sto _ _ _ _;first|refine Sto.l 0 rfl rfl rfl ?_|refine Sto.l 1 rfl rfl rfl ?_)|refine DrN.run Ak ?_)<;>conv=>whnf)|(show cnd _ _ _;first|(apply aD<;>intro _<;>first|(exfalso;omega)|conv=>whnf)|(refine aI ?_)|(refine bO (fun hb=>?_) (fun hb=>?_)<;>(first|cases hb|subst hb)<;>(conv=>whnf)))|(refine rY.mk ?_ ?_<;>(conv=>whnf))
 all_goals first
  | (rw[E1 rfl Aa];exact RN.a ⟨_,_,rfl,Ab⟩)
  | (rw[E2 (fun hh=>by first|(have:=hh.2;omega)|(have:=hh.1;contradiction)) (hcm Ab)];exact RN.a ⟨_,_,rfl,Ao⟩)
  | (rw[E3 (fun hh=>by first|(have:=hh.2;omega)|(have:=hh.1;contradiction)) (hcm2 Ab)];exact RN.a ⟨_,_,rfl,Ab⟩)

end Go.Proofs.Y
/- The values of trees at values of the variables: plain. -/
namespace Go.Proofs.Y
open Go Go.Vc Go.Dig
def dZ(q:Rat):Option Rat:=if fits q then some q else none
def iL(fn:Int)(q:Rat):Option Rat:=
 if fn=1\/fn=4 then (if q=0 then some 1 else none) else if fn=2\/fn=7 then (if q=1 then some 0 else none) else if q=0 then some 0 else none
def unQ(op arg:Int)(q:Rat):Option Rat:=
 if op=4 then dZ (-q) else if op=9 then (if arg<0/\q=0 then none else dZ (oX q arg)) else if op=12 then dZ (gP q)
 else if op=10 then (if (cJ q arg.toNat).2 then dZ (cJ q arg.toNat).1 else none) else iL arg q
def biQ(op:Int)(q r:Rat):Option Rat:=
 if op=5 then dZ (q+r) else if op=6 then dZ (q-r) else if op=7 then dZ (q*r) else if op=8 then (if r=0 then none else dZ (q / r))
 else if op=13 then some (if r<q then r else q) else some (if q<r then r else q)
def aEn(op arg:Int):List (Option Rat)->Option Rat
 | [a]=>a.bind (unQ op arg)
 | [a,b]=>a.bind fun x=>b.bind fun y=>biQ op x y
 | [a,y,z]=>a.bind fun c=>if 0<=c then y else z
 | _=>none
mutual
def bL(vals:List (List Nat × Rat)):Tr->Option Rat
 | .mk op arg neg l m name ks=>if op=1 then some (aK neg l m) else if op=2 then eN vals name else if op=3 then none else aEn op arg (bY vals ks)
def bY(vals:List (List Nat × Rat)):List Tr->List (Option Rat)
 | []=>[]
 | t::ts=>bL vals t::bY vals ts
end
theorem uC{q r:Rat}(h:q<r)(h':r<q):False:=absurd (Rat.le_of_lt h') (Rat.not_le.2 h)
theorem aEo{q r:Rat}(h:dZ q=some r):fits r:=by
 unfold dZ at h
 split at h
 .cases h;assumption
 .cases h
theorem fU:fits 1:=by
 have:=wN 1 Ae Ae;exact this
theorem aCb{fn:Int}{q r:Rat}(h:iL fn q=some r):fits r:=by
 unfold iL at h
 repeat' split at h
 all_goals first
  | (cases h;done)
  | (cases h;first|exact fU|exact gC)
theorem aV1{op arg:Int}{q r:Rat}(h:unQ op arg q=some r):fits r:=by
 unfold unQ at h
 repeat' split at h
 all_goals first
  | (cases h;done)
  | exact aEo h
  | exact aCb h
theorem aV2{op:Int}{q r s:Rat}(hq:fits q)(hr:fits r)(h:biQ op q r=some s):fits s:=by
 unfold biQ at h
 repeat' split at h
 all_goals first
  | (cases h;done)
  | exact aEo h
  | (cases h;assumption)
theorem vQ{name:List Nat}{q:Rat}:∀{l:List (List Nat × Rat)},(∀b∈l,fits b.2)->eN l name=some q->fits q
 | [],_,h=>by cases h
 | (n,r)::l,hl,h=>by
  rw[eN] at h
  split at h
  .cases h;exact hl _ (bIw ..)
  .exact vQ (fun b hb=>hl b (bIz _ hb)) h
theorem aRm{vals:List (List Nat × Rat)}{op arg:Int}{q:Rat}:∀{ks:List Tr},(∀t∈ks,∀q,bL vals t=some q->fits q)->aEn op arg (bY vals ks)=some q->fits q
 | [],_,h=>by rw[bY] at h;cases h
 | [a],hs,h=>by
  rw[bY,bY] at h;obtain⟨x,-,h⟩:=Option.bind_eq_some_iff.1 h;exact aV1 h
 | [a,b],hs,h=>by
  rw[bY,bY,bY] at h;obtain⟨x,ha,h⟩:=Option.bind_eq_some_iff.1 h;obtain⟨y,hb,h⟩:=Option.bind_eq_some_iff.1 h;exact aV2 (hs a (bIw ..) x ha) (hs b (bIz _ (bIw ..)) y hb) h
 | [a,b,c],hs,h=>by
  rw[bY,bY,bY,bY] at h;obtain⟨x,-,h⟩:=Option.bind_eq_some_iff.1 h
  split at h
  .exact hs b (bIz _ (bIw ..)) q h
  .exact hs c (bIz _ (bIz _ (bIw ..))) q h
 | a::b::c::e::ks,hs,h=>by
  rw[bY,bY,bY,bY] at h;simp only[aEn] at h;cases h
theorem lS{vals:List (List Nat × Rat)}(hv:∀b∈vals,fits b.2):∀(t:Tr) (d:Nat),okT d t->∀q,bL vals t=some q->fits q:=by
 refine eE fun t ih=>?_
 intro d hok q h;obtain⟨op,arg,neg,l,m,name,ks⟩:=t;rw[okT] at hok;rw[bL] at h
 split at h
 .rename_i e;cases h;have hn:=hok.2.1.2.2.2.2;rw[if_pos e] at hn;exact hn.1.2.2
 split at h
 .exact vQ hv h
 split at h
 .cases h
 refine aRm (vals:=vals) (fun t ht q hq=>?_) h
 obtain⟨i,hi,rfl⟩:=List.mem_iff_getElem.1 ht;have e:=bIq hi;exact ih _ (bD e) (d+1) (iK hok.2.2 e) q hq
end Go.Proofs.Y
/- The polynomial form of a tree: plain words. -/
namespace Go.Proofs.Y
open Go Go.Vc Go.Dig
abbrev Pol:Type:=List (Mon × Rat)
def tmL(a b:Pol):Pol:=a.flatMap fun x=>b.map fun y=>(jn x.1 y.1,x.2*y.2)
def plL(a b:Pol)(k:Rat):Pol:=a++b.map fun t=>(t.1,t.2*k)
theorem aV3(f:Mon->Rat)(m:Mon)(c:Rat):∀b:Pol,sm f (b.map fun y=>(jn m y.1,c*y.2))=c*sm (fun y=>f (jn m y)) b
 | []=>(bNd _).symm
 | t::b=>by rw[bJw,dQ,dQ,aV3 f m c b,Rat.mul_add,bLc]
theorem nP(f:Mon->Rat)(b:Pol):∀a:Pol,sm f (tmL a b)=sm (fun x=>sm (fun y=>f (jn x y)) b) a
 | []=>rfl
 | t::a=>by
  have e:tmL (t::a) b=(b.map fun y=>(jn t.1 y.1,t.2*y.2))++tmL a b:=rfl
  rw[e,aMq,aV3,nP f b a,dQ]
theorem aJt(f:Mon->Rat)(k:Rat):∀b:Pol,sm f (b.map fun t=>(t.1,t.2*k))=k*sm f b
 | []=>(bNd _).symm
 | t::b=>by rw[bJw,dQ,dQ,aJt f k b,Rat.mul_add,<-bLc,bMz t.2 k]
theorem mH(f:Mon->Rat)(a b:Pol)(k:Rat):sm f (plL a b k)=sm f a+k*sm f b:=by unfold plL;rw[aMq,aJt]
def aG7(p:Pol):Prop:=200<p.length\/∃t∈p,∃f∈t.1,64<f.2
def aG8(p:Pol):Prop:=∃t∈p,¬fits t.2
instance (p:Pol):Decidable (aG7 p):=by unfold aG7;exact inferInstance
instance (p:Pol):Decidable (aG8 p):=by unfold aG8;exact inferInstance
def bS(l:Pol):Except Nat Pol:=if aG7 (bZ l) then .error 4 else if aG8 (bZ l) then .error 1 else .ok (bZ l)
def jU(q:Rat):Pol:=if q=0 then [] else [([],q)]
def cH(s:List UInt8):Except Nat Pol:=if 4000<s.length then .error 4 else .ok [([(s,1)],1)]
def cA(b:Tr)(a:Pol):Except Nat Pol:=match a with
 | [([],c)]=>.ok [([],1 / c)]
 | _=>if 4000<(aE b).length then .error 4 else cH (eR++b8 (aN (aE b,aT b.op) 3))
def gQ(a:Pol):Nat->Except Nat Pol
 | 0=>.ok [([],1)]
 | n+1=>match gQ a n with
  | .error e=>.error e
  | .ok o=>bS (tmL o a)
def gO(e:Tr)(op arg:Int)(q:Rat)(rs:List (Tr × Except Nat Pol)):Except Nat Pol:=
 if op=1 then .ok (jU q)
 else if 4<=op/\op<=9 then
  match rs with
  | []=>.error 0
  | (_,.error n)::_=>.error n
  | (k,.ok a)::r=>
   if op=4 then bS (plL [] a (-1))
   else if op=9 then
    if arg<0 then match cA k a with
     | .error n=>.error n
     | .ok c=>gQ c arg.natAbs
    else gQ a arg.natAbs
   else match r with
    | []=>.error 0
    | (_,.error n)::_=>.error n
    | (k',.ok b)::_=>
     if op=5 then bS (plL a b 1)
     else if op=6 then bS (plL a b (-1))
     else if op=7 then bS (tmL a b)
     else match cA k' b with
      | .error n=>.error n
      | .ok c=>bS (tmL a c)
 else cH (b8 (aE e))
mutual
def aO:Tr->Except Nat Pol
 | .mk op arg neg l m name ks=>gO (.mk op arg neg l m name ks) op arg (aK neg l m) (dC ks)
def dC:List Tr->List (Tr × Except Nat Pol)
 | []=>[]
 | t::ts=>(t,aO t)::dC ts
end
structure lG (p:Pol):Prop where
 can:sX p
 red:∀t∈p,aB4 t.1
 deg:∀t∈p,∀f∈t.1,f.2<=64
 fit:∀t∈p,fits t.2
 len:p.length<=200
theorem tB{K V:Type}[eI K][DecidableEq K][Add V][OfNat V 0][gY V][DecidableEq V]{P:K->Prop}{l:List (K × V)}(h:∀t∈l,P t.1):∀t∈bZ l,P t.1:=fun t ht=>by
 have h1:∀(k:K) (v:V) (q:List (K × V)),P k->(∀t∈q,P t.1)->∀t∈iR k v q,P t.1:=by
  intro k v q hk
  induction q with
  | nil=>intro _ t ht;unfold iR at ht;rw[bI2] at ht;subst ht;exact hk
  | cons n q ih=>
   intro hq t ht;obtain⟨n,d⟩:=n;unfold iR at ht
   split at ht
   .rcases bI7.1 ht with rfl|ht
    .exact hk
    .exact hq t ht
   .split at ht
    .rcases bI7.1 ht with rfl|ht
     .exact hq (n,d) (bIw ..)
     .exact hq t (bIz _ ht)
    .rcases bI7.1 ht with rfl|ht
     .exact hq (n,d) (bIw ..)
     .exact ih (fun t ht=>hq t (bIz _ ht)) t ht
 have h2:∀t∈kP l,P t.1:=by
  clear ht
  induction l with
  | nil=>intro t ht;exact absurd ht (by simp[kP])
  | cons u l ih=>exact h1 _ _ _ (h u (bIw ..)) (ih fun t ht=>h t (bIz _ ht))
 exact h2 t (List.mem_filter.1 ht).1
theorem aEp{l p:Pol}(h:∀t∈l,aB4 t.1)(e:bS l=.ok p):lG p:=by
 unfold bS at e
 split at e
 .cases e
 .rename_i h1
  split at e
  .cases e
  .rename_i h2;cases e;refine⟨eH l,tB h,fun t ht f hf=>?_,fun t ht=>?_,?_⟩
   .exact Nat.le_of_not_lt fun x=>h1 (.inr ⟨t,ht,f,hf,x⟩)
   .exact Decidable.byContradiction fun x=>h2 ⟨t,ht,x⟩
   .exact Nat.le_of_not_lt fun x=>h1 (.inl x)
theorem bDl(a b:Pol):∀t∈tmL a b,aB4 t.1:=fun t ht=>by
 unfold tmL at ht;obtain⟨x,hx,ht⟩:=List.mem_flatMap.1 ht;obtain⟨y,hy,rfl⟩:=List.mem_map.1 ht;exact bDc _ _
theorem bDm{a b:Pol}(k:Rat)(ha:∀t∈a,aB4 t.1)(hb:∀t∈b,aB4 t.1):∀t∈plL a b k,aB4 t.1:=fun t ht=>by
 unfold plL at ht;rcases bIx.1 ht with ht|ht
 .exact ha t ht
 .obtain⟨y,hy,rfl⟩:=List.mem_map.1 ht;exact hb y hy
theorem uD{l p:Pol}(e:bS l=.ok p)(f:Mon->Rat):sm f p=sm f l:=by
 unfold bS at e
 split at e
 .cases e
 .split at e
  .cases e
  .cases e;exact dW f l
/-! the ring -/
end Go.Proofs.Y
/- The value of a monomial at values of its atoms: plain mathematics. -/
namespace Go.Dig
def pr{K:Type}(f:K->Rat)(l:List K):Rat:=l.foldr (fun t s=>f t*s) 1
section
variable {K L:Type}
theorem oU(f:K->Rat)(t:K)(l:List K):pr f (t::l)=f t*pr f l:=rfl
theorem tC{f g:K->Rat}{l:List K}(h:∀t∈l,f t=g t):pr f l=pr g l:=by
 induction l with
 | nil=>rfl
 | cons t l ih=>rw[oU,oU,h t (bIw ..),ih fun u hu=>h u (bIz _ hu)]
theorem aPa(a b c d:Rat):a*b*(c*d)=a*c*(b*d):=by
 rw[bLc,<-bLc b,bMz b c,bLc c,<-bLc]
theorem yT(f g:K->Rat)(l:List K):pr (fun k=>f k*g k) l=pr f l*pr g l:=by
 induction l with
 | nil=>exact (bK5 1).symm
 | cons t l ih=>rw[oU,oU,oU,ih,aPa]
theorem aCc{f:K->Rat}{l:List K}(h:∀t∈l,f t=1):pr f l=1:=by
 induction l with
 | nil=>rfl
 | cons t l ih=>rw[oU,h t (bIw ..),ih fun u hu=>h u (bIz _ hu),bK5]
theorem aPb(f:K->L->Rat)(b:List L):∀a:List K,pr (fun x=>pr (f x) b) a=pr (fun y=>pr (fun x=>f x y) a) b
 | []=>(aCc fun _ _=>rfl).symm
 | t::a=>by
  rw[oU,aPb f b a];have e:(fun y=>pr (fun x=>f x y) (t::a))=fun y=>f t y*pr (fun x=>f x y) a:=rfl
  rw[e,yT]
end
section
variable (al:List UInt8->Rat)
def ph(m:Mon):Rat:=pr (fun t=>al t.1^t.2) m
theorem lH(t:Fac)(m:Mon):ph al (t::m)=al t.1^t.2*ph al m:=rfl
theorem aV5:∀a b:Mon,ph al (a++b)=ph al a*ph al b
 | [],b=>(bKb _).symm
 | t::a,b=>by rw[bJ7,lH,lH,aV5 a b,bLc]
theorem aCd(x:Rat)(i:Nat):∀j:Nat,x^(i+j)=x^i*x^j
 | 0=>by rw[bJz,bLx,bK5]
 | j+1=>by rw[<-bKd,bL7,bL7,aCd x i j,bLc]
theorem aJv(x y:Rat):∀n:Nat,(x*y)^n=x^n*y^n
 | 0=>by rw[bLx,bLx,bLx,bK5]
 | n+1=>by rw[bL7,bL7,bL7,aJv x y n,aPa]
theorem aJw:∀n:Nat,(1:Rat)^n=1
 | 0=>bLx ..
 | n+1=>by rw[bL7,aJw n,bK5]
theorem aV6(k:List UInt8)(v:Nat):∀l:Mon,ph al (iR k v l)=al k^v*ph al l
 | []=>rfl
 | (n,d)::q=>by
  unfold iR
  split
  .rfl
  .split
   .rename_i h;subst h;rw[lH,lH,aCd,bLc]
   .rw[lH,lH,aV6 k v q,<-bLc,<-bLc,bMz (al n^d)]
theorem aMx:∀l:Mon,ph al (kP l)=ph al l
 | []=>rfl
 | t::l=>by
  show ph al (iR t.1 t.2 (kP l))=_
  rw[aV6,aMx l];rfl
theorem yU:∀l:Mon,ph al (l.filter fun t=>!decide (t.2=0))=ph al l
 | []=>rfl
 | t::l=>by
  by_cases h:t.2=0
  .rw[bL3 (by simp[h]),yU l,lH,h,bLx,bKb]
  .rw[bLv (by simp[h]),lH,lH,yU l]
theorem bA2(l:Mon):ph al (bZ l)=ph al l:=by unfold bZ;rw[yU,aMx]
def Aok(s:List UInt8):Prop:=nmA s\/∀u,inv s=some u->al s*al u=1
theorem bA3{s u:List UInt8}(h:inv s=some u)(hn:nmA s):¬nmA u:=fun hu=>by
 unfold inv at h;rw[if_pos hn] at h;cases h;exact aGu s hu
theorem bDn{s u:List UInt8}(h:inv s=some u)(hn:¬nmA s):nmA u:=by
 unfold inv at h;rw[if_neg hn] at h
 split at h
 .rename_i x;cases h;exact x.2.2
 .cases h
def pg(t u:Fac):Rat:=if inv t.1=some u.1 then al t.1^min t.2 u.2 else 1
theorem bF9{q:Mon}(h:kN q)(t:Fac):pr (pg al t) q=al t.1^min t.2 (rv q t.1):=by
 unfold rv;cases hi:inv t.1 with
 | none=>
  show _=al t.1^min t.2 0
  rw[Nat.min_zero,bLx];exact aCc fun u _=>by unfold pg;rw[hi,if_neg Aq]
 | some z=>
  show _=al t.1^min t.2 (cf q z)
  have hp:∀u:Fac,pg al t u=if u.1=z then al t.1^min t.2 u.2 else 1:=fun u=>by
   unfold pg;rw[hi];by_cases e:u.1=z
   .rw[if_pos e,if_pos (by rw[e])]
   .rw[if_neg e,if_neg fun x=>e (Option.some.inj x).symm]
  induction q with
  | nil=>rw[pF,Nat.min_zero,bLx];rfl
  | cons u q ih=>
   have h':=List.pairwise_cons.1 h;rw[oU,hp,aV];by_cases e:u.1=z
   .rw[if_pos e,if_pos e,aCc fun v hv=>?_,bK5,nL (by rw[<-e];exact h'.1),bJz]
    rw[hp,if_neg fun x=>?_]
    have:=h'.1 v hv;rw[x,e] at this;exact eI.irr _ this
   .rw[if_neg e,if_neg e,bKb,ih h'.2]
theorem aV7{q:Mon}(h:kN q)(ho:∀t∈q,Aok al t.1):pr (fun t=>al t.1^min t.2 (rv q t.1)) q=1:=by
 have e1:pr (fun t=>al t.1^min t.2 (rv q t.1)) q=pr (fun t=>pr (pg al t) q) q:=tC fun t _=>(bF9 al h t).symm
 have e2:pr (fun t=>pr (pg al t) q) q=pr (fun t=>pr (fun u=>(if nmA t.1 then pg al t u else 1)*if nmA t.1 then 1 else pg al t u) q) q:=
  tC fun t _=>tC fun u _=>by split<;>simp[bK5,bKb]
 have e3:pr (fun t=>pr (fun u=>(if nmA t.1 then pg al t u else 1)*if nmA t.1 then 1 else pg al t u) q) q =
   pr (fun t=>pr (fun u=>if nmA t.1 then pg al t u else 1) q) q*pr (fun t=>pr (fun u=>if nmA t.1 then 1 else pg al t u) q) q:=by
  rw[<-yT];exact tC fun t _=>yT ..
 rw[e1,e2,e3,aPb (fun t u=>if nmA t.1 then 1 else pg al t u),<-yT]
 refine aCc fun t ht=>?_
 rw[<-yT];refine aCc fun u hu=>?_
 show (if nmA t.1 then pg al t u else 1)*(if nmA u.1 then 1 else pg al u t)=1
 by_cases hi:inv t.1=some u.1
 .have hi':=aAl hi;by_cases hn:nmA t.1
  .have hnu:=bA3 hi hn;rw[if_pos hn,if_neg hnu];unfold pg;rw[if_pos hi,if_pos hi',Nat.min_comm u.2 t.2,<-aJv,bMz,((ho u hu).resolve_left hnu) _ hi',aJw]
  .have hnu:=bDn hi hn;rw[if_neg hn,if_pos hnu,bK5]
 .have hi':inv u.1≠some t.1:=fun x=>hi (aAl x)
  unfold pg;rw[if_neg hi,if_neg hi']
  split<;>split<;>exact bK5 1
theorem bCi{a b:Mon}(ha:∀t∈a,Aok al t.1)(hb:∀t∈b,Aok al t.1):ph al (jn a b)=ph al a*ph al b:=by
 have hq:∀t∈kP (a++b),Aok al t.1:=by
  have h1:∀(k:List UInt8) (v:Nat) (q:Mon),Aok al k->(∀t∈q,Aok al t.1)->∀t∈iR k v q,Aok al t.1:=by
   intro k v q hk
   induction q with
   | nil=>intro _ t ht;unfold iR at ht;rw[bI2] at ht;subst ht;exact hk
   | cons n q ih=>
    intro hq t ht;obtain⟨n,d⟩:=n;unfold iR at ht
    split at ht
    .rcases bI7.1 ht with rfl|ht
     .exact hk
     .exact hq t ht
    .split at ht
     .rcases bI7.1 ht with rfl|ht
      .exact hq (n,d) (bIw ..)
      .exact hq t (bIz _ ht)
     .rcases bI7.1 ht with rfl|ht
      .exact hq (n,d) (bIw ..)
      .exact ih (fun t ht=>hq t (bIz _ ht)) t ht
  have h2:∀t∈a++b,Aok al t.1:=fun t ht=>(bIx.1 ht).elim (ha t) (hb t)
  generalize a++b=l at h2
  induction l with
  | nil=>intro t ht;exact absurd ht (by simp[kP])
  | cons u l ih=>exact h1 _ _ _ (h2 u (bIw ..)) (ih fun t ht=>h2 t (bIz _ ht))
 have hs:=aAk (a++b);have hr:∀s,rv (kP (a++b)) s=rv (a++b) s:=fun s=>by
  unfold rv;cases inv s with
  | none=>rfl
  | some u=>exact aGs u _
 have hp:=aV7 al hs hq;unfold jn;rw[bA2,<-aV5,<-aMx al (a++b)];have e:ph al (kP (a++b))=ph al ((kP (a++b)).map fun t=>(t.1,t.2-min t.2 (rv (a++b) t.1)))*pr (fun t=>al t.1^min t.2 (rv (kP (a++b)) t.1)) (kP (a++b)):=by
  have e1:∀q:Mon,ph al (q.map fun t=>(t.1,t.2-min t.2 (rv (a++b) t.1)))=pr (fun t=>al t.1^(t.2-min t.2 (rv (a++b) t.1))) q:=fun q=>by
   induction q with
   | nil=>rfl
   | cons t q ih=>rw[bJw,lH,ih];rfl
  rw[e1,<-yT];unfold ph;refine tC fun t _=>?_
  rw[hr,<-aCd,Nat.sub_add_cancel (Nat.min_le_left ..)]
 rw[e,hp,bK5]
end
end Go.Dig
/- Literals of a tree, on both sides; Has. -/
namespace Go.Proofs.Y
open Go Go.Vc Go.Dig
def bIi(h:aA)(v:Value)(o:Option Rat):Prop:=∃(b:Bool) (c e:Sl) (i:Bool),v=.tuple #[.agg #[.bool b,c.val,e.val],.bool i]/\(i=true->∃q,o=some q/\Sz 64 q/\b=sg q/\eJ h c e q)/\(i=false->o=none)
def bIj(h:aA)(v:Value)(o:Option Rat):Prop:=∃(b:Bool) (c e:Sl) (i:Bool),v=.tuple #[.agg #[.bool b,c.val,e.val],.bool i]/\(i=true->∃q,o=some q/\Sz 64 q/\b=sg q/\IsQ h c e q)/\(i=false->o=none)
end Go.Proofs.Y
/- Simplify: plain. -/
namespace Go.Proofs.Y
open Go Go.Vc Go.Dig
def numQ(q:Rat):Tr:=.mk 1 0 (sg q) (dg 4294967296 (nu q)) (dg 4294967296 (dn q)) [] []
def mkL(q:Rat):Tr:=if q<0 then aG 4 0 [numQ (-q)] else numQ q
def aJx:Tr->Prop
 | .mk op _ _ _ _ _ _=>op=4
instance (t:Tr):Decidable (aJx t):=by cases t;unfold aJx;exact inferInstance
def bDo:Tr->Tr
 | .mk _ _ _ _ _ _ (k::_)=>k
 | t=>t
def bDp(e a:Tr):Tr:=match uN a with
 | some v=>mkL (-v)
 | none=>if aJx a then bDo a else e
def bGa(op:Int)(x y:Rat):Option Rat:=if op=5 then dZ (x+y) else if op=6 then dZ (x-y) else if op=7 then dZ (x*y) else if y=0 then none else dZ (x / y)
def bGb(op:Int)(a b:Tr):Option Rat:=(uN a).bind fun x=>(uN b).bind fun y=>bGa op x y
def addS(e a b:Tr):Tr:=if uN a=some 0 then b else if uN b=some 0 then a else if aJx b then aG 6 0 [a,bDo b] else e
def bHt(e a b:Tr):Tr:=if uN b=some 0 then a else if uN a=some 0 then bDp (aG 4 0 [b]) b else if aJx b then aG 5 0 [a,bDo b] else e
def mulS(e a b:Tr):Tr:=if uN a=some 0\/uN b=some 0 then mkL 0 else if uN a=some 1 then b else if uN b=some 1 then a else if uN a=some (-1) then bDp (aG 4 0 [b]) b else e
def bHu(e a b:Tr):Tr:=if uN a=some 0 then mkL 0 else if uN b=some 1 then a else e
def bHv(e:Tr)(op:Int)(a b:Tr):Tr:=match bGb op a b with
 | some q=>mkL q
 | none=>if op=5 then addS e a b else if op=6 then bHt e a b else if op=7 then mulS e a b else bHu e a b
def bHw(arg:Int)(a:Tr):Option Rat:=(uN a).bind fun x=>if arg<0/\x=0 then none else dZ (oX x arg)
def bHx(e:Tr)(arg:Int)(a:Tr):Tr:=match bHw arg a with
 | some q=>mkL q
 | none=>if arg=0 then mkL 1 else if arg=1 then a else e
def bGc(op arg:Int)(e:Tr):List Tr->Tr
 | [a]=>if op=4 then bDp e a else if op=9 then bHx e arg a else e
 | [a,b]=>if op=5\/op=6\/op=7\/op=8 then bHv e op a b else e
 | _=>e
mutual
def bDq:Tr->Tr
 | .mk op arg neg l m name ks=>bGc op arg (.mk op arg neg l m name (aV8 ks)) (aV8 ks)
def aV8:List Tr->List Tr
 | []=>[]
 | t::ts=>bDq t::aV8 ts
end
/-! nodes that are right, and their sizes -/
theorem aHa{d:Nat}{q:Rat}(hd:d<=30)(h0:0<=q)(hf:fits q):okT d (numQ q):=by
 unfold numQ;rw[okT,dB];refine⟨hd,⟨rfl,Ae,Ae,rfl,?_⟩,trivial⟩;rw[if_pos rfl];exact⟨aTc hf,by rw[jO];exact h0⟩
theorem aJy{q:Rat}(h:fits q):fits (-q):=⟨by rw[yH];exact h.1,by rw[bNs];exact h.2⟩
mutual
theorem aCe{d d':Nat}(hd:d<=d'):∀{t:Tr},okT d' t->okT d t
 | .mk op arg neg l m name ks,h=>by
  rw[okT] at h ⊢;exact⟨bJd hd h.1,h.2.1,aPc (Nat.add_le_add_right hd 1) h.2.2⟩
theorem aPc{d d':Nat}(hd:d<=d'):∀{ts:List Tr},dB d' ts->dB d ts
 | [],_=>by rw[dB];trivial
 | t::ts,h=>by
  rw[dB] at h ⊢;exact⟨aCe hd h.1,aPc hd h.2⟩
end
def Fit(d n:Nat)(t:Tr):Prop:=okT d t/\szT t<=n
end Go.Proofs.Y
/- A tree keeps its value when it is simplified: plain. -/
namespace Go.Proofs.Y
open Go Go.Vc Go.Dig
theorem aWb{vals:List (List Nat × Rat)}{arg:Int}{neg:Bool}{l m name:List Nat}{ks:List Tr}:bL vals (.mk 1 arg neg l m name ks)=some (aK neg l m):=by rw[bL,if_pos rfl]
theorem aCf{vals:List (List Nat × Rat)}{op arg:Int}{neg:Bool}{l m name:List Nat}{a:Tr}(h:op≠1/\op≠2/\op≠3):bL vals (.mk op arg neg l m name [a])=(bL vals a).bind (unQ op arg):=by
 rw[bL,if_neg h.1,if_neg h.2.1,if_neg h.2.2,bY,bY];rfl
theorem aWc{vals:List (List Nat × Rat)}{op arg:Int}{neg:Bool}{l m name:List Nat}{a b:Tr}(h:op≠1/\op≠2/\op≠3):bL vals (.mk op arg neg l m name [a,b])=(bL vals a).bind fun x=>(bL vals b).bind fun y=>biQ op x y:=by
 rw[bL,if_neg h.1,if_neg h.2.1,if_neg h.2.2,bY,bY,bY];rfl
theorem aHb(arg:Int)(q:Rat):unQ 4 arg q=dZ (-q):=if_pos rfl
theorem rI{q r:Rat}(h:dZ q=some r):q=r:=by
 unfold dZ at h
 split at h
 .exact Option.some.inj h
 .cases h
theorem bA4(arg:Int)(q:Rat):unQ 9 arg q=if arg<0/\q=0 then none else dZ (oX q arg):=(if_neg Ae).trans (if_pos rfl)
section
variable {vals:List (List Nat × Rat)} (hv:∀b∈vals,fits b.2)
include hv
end
end Go.Proofs.Y
/- A form has the value of its tree: plain mathematics. -/
namespace Go.Proofs.Y
open Go Go.Vc Go.Dig
def Mok(al:List UInt8->Rat)(p:Pol):Prop:=∀t∈p,∀f∈t.1,Aok al f.1
theorem bDt{al:List UInt8->Rat}{a b:Mon}(ha:∀t∈a,Aok al t.1)(hb:∀t∈b,Aok al t.1):∀t∈jn a b,Aok al t.1:=by
 unfold jn;refine tB fun t ht=>?_
 obtain⟨u,hu,rfl⟩:=List.mem_map.1 ht;have h2:∀t∈a++b,Aok al t.1:=fun t ht=>(bIx.1 ht).elim (ha t) (hb t)
 generalize a++b=l at h2 hu
 have h1:∀l:Mon,(∀t∈l,Aok al t.1)->∀t∈kP l,Aok al t.1:=by
  intro l
  induction l with
  | nil=>intro _ t ht;exact absurd ht (by simp[kP])
  | cons v l ih=>
   intro h;have h3:∀(k:List UInt8) (n:Nat) (q:Mon),Aok al k->(∀t∈q,Aok al t.1)->∀t∈iR k n q,Aok al t.1:=by
    intro k n q hk
    induction q with
    | nil=>intro _ t ht;unfold iR at ht;rw[bI2] at ht;subst ht;exact hk
    | cons m q ih=>
     intro hq t ht;obtain⟨m,d⟩:=m;unfold iR at ht
     split at ht
     .rcases bI7.1 ht with rfl|ht
      .exact hk
      .exact hq t ht
     .split at ht
      .rcases bI7.1 ht with rfl|ht
       .exact hq (m,d) (bIw ..)
       .exact hq t (bIz _ ht)
      .rcases bI7.1 ht with rfl|ht
       .exact hq (m,d) (bIw ..)
       .exact ih (fun t ht=>hq t (bIz _ ht)) t ht
   exact h3 _ _ _ (h v (bIw ..)) (ih fun t ht=>h t (bIz _ ht))
 exact h1 l h2 u hu
theorem aMy{al:List UInt8->Rat}{a b:Pol}(ha:Mok al a)(hb:Mok al b):Mok al (tmL a b):=fun t ht=>by
 unfold tmL at ht;obtain⟨x,hx,ht⟩:=List.mem_flatMap.1 ht;obtain⟨y,hy,rfl⟩:=List.mem_map.1 ht;exact bDt (ha x hx) (hb y hy)
theorem aMz{al:List UInt8->Rat}{a b:Pol}(k:Rat)(ha:Mok al a)(hb:Mok al b):Mok al (plL a b k):=fun t ht=>by
 unfold plL at ht;rcases bIx.1 ht with ht|ht
 .exact ha t ht
 .obtain⟨y,hy,rfl⟩:=List.mem_map.1 ht;exact hb y hy
theorem qB{al:List UInt8->Rat}{l p:Pol}(h:Mok al l)(e:bS l=.ok p):Mok al p:=by
 unfold bS at e
 split at e
 .cases e
 .split at e
  .cases e
  .cases e
   exact tB (P:=fun m:Mon=>∀f∈m,Aok al f.1) h
theorem aM0{al:List UInt8->Rat}{a b:Pol}(ha:Mok al a)(hb:Mok al b):sm (ph al) (tmL a b)=sm (ph al) a*sm (ph al) b:=by
 have e:sm (fun x=>sm (fun y=>ph al (jn x y)) b) a=sm (fun x=>sm (ph al) b*ph al x) a:=by
  refine jS fun x hx=>?_
  rw[bMz,<-aB3];exact jS fun y hy=>bCi al (ha x hx) (hb y hy)
 rw[nP,e,aB3,bMz]
theorem aHc{al:List UInt8->Rat}{a:Pol}(ha:Mok al a):∀(n:Nat) (p:Pol),gQ a n=.ok p->sm (ph al) p=(sm (ph al) a)^n/\Mok al p
 | 0,p,h=>by
  cases h
  refine⟨?_,fun t ht f hf=>?_⟩
  .show 1*1+0=_
   rw[bLx,bK5,bL6]
  .rw[bI2] at ht;subst ht;simp at hf
 | n+1,p,h=>by
  unfold gQ at h;cases ho:gQ a n with
  | error e=>rw[ho] at h;cases h
  | ok o=>
   rw[ho] at h;have h:bS (tmL o a)=.ok p:=h;obtain⟨h1,h2⟩:=aHc ha n o ho;exact⟨by rw[uD h,aM0 h2 ha,h1,bL7],qB (aMy h2 ha) h⟩
structure aWd (vals:List (List Nat × Rat)) (al:List UInt8->Rat):Prop where
 atom:∀(u:Tr) (w:Rat),okT 1 u->szT u<=300->(aE u).length<=4000->u.op≠1->¬(4<=u.op/\u.op<=9)->bL vals u=some w->al (b8 (aE u))=w
 atomI:∀(u:Tr),okT 1 u->u.op≠1->¬(4<=u.op/\u.op<=9)->nmA (b8 (aE u))\/inv (b8 (aE u))=none
 recip:∀(b:Tr) (w:Rat),okT 2 b->szT b<=299->(aN (aE b,aT b.op) 3).length<=3996->bL vals b=some w->w≠0->al (eR++b8 (aN (aE b,aT b.op) 3))=1 / w/\Aok al (eR++b8 (aN (aE b,aT b.op) 3))
theorem aCg{al:List UInt8->Rat}{s:List UInt8}{p:Pol}(h:cH s=.ok p)(ha:Aok al s):sm (ph al) p=al s/\Mok al p:=by
 unfold cH at h
 split at h
 .cases h
 .cases h
  refine⟨?_,fun t ht f hf=>?_⟩
  .show 1*(al s^1*1)+0=_
   rw[bL7,bLx,bKb,bK5,bKb,bL6]
  .rw[bI2] at ht;subst ht;rw[bI2] at hf;subst hf;exact ha
theorem aEq{vals:List (List Nat × Rat)}{al:List UInt8->Rat}(hs:aWd vals al){b:Tr}{w:Rat}(hok:okT 2 b)(hsz:szT b<=299)(hv:bL vals b=some w)(hw:w≠0){a c:Pol}(ha:sm (ph al) a=w)(h:cA b a=.ok c):sm (ph al) c=1 / w/\Mok al c:=by
 unfold cA at h
 split at h
 .rename_i q;cases h;have e:q=w:=by rw[<-ha];show q=q*1+0;rw[bK5,bL6]
  subst e;refine⟨?_,fun t ht f hf=>?_⟩
  .show 1 / q*1+0=_
   rw[bK5,bL6]
  .rw[bI2] at ht;subst ht;simp at hf
 .split at h
  .cases h
  .have hl:(aN (aE b,aT b.op) 3).length<=3996:=by
    unfold cH at h
    split at h
    .cases h
    .rename_i hl;rw[bIo] at hl;have:(b8 (aN (aE b,aT b.op) 3)).length=(aN (aE b,aT b.op) 3).length:=bJb _;have:eR.length=4:=rfl;omega
   obtain⟨h1,h2⟩:=hs.recip b w hok hsz hl hv hw;obtain⟨h3,h4⟩:=aCg h h2;exact⟨by rw[h3,h1],h4⟩
theorem aM1{ks:List Tr}{n:Int}(h:(ks.length:Int)=n)(hn:n=1):∃k,ks=[k]:=by
 match ks,h with
 | [k],_=>exact⟨k,rfl⟩
 | [],h=>simp at h;omega
 | _::_::r,h=>simp at h;omega
theorem aWe{ks:List Tr}{n:Int}(h:(ks.length:Int)=n)(hn:n=2):∃a b,ks=[a,b]:=by
 match ks,h with
 | [a,b],_=>exact⟨a,b,rfl⟩
 | [_],h=>simp at h;omega
 | [],h=>simp at h;omega
 | _::_::_::r,h=>simp at h;omega
theorem aCh{vals:List (List Nat × Rat)}{al:List UInt8->Rat}(hs:aWd vals al):∀(t:Tr) (d:Nat),1<=d->okT d t->szT t<=300->∀p v,aO t=.ok p->bL vals t=some v->sm (ph al) p=v/\Mok al p:=by
 refine eE fun t ih=>?_
 intro d h1d hok hsz p v hp hv;obtain⟨op,arg,neg,l,m,name,ks⟩:=t;have hok0:=hok;rw[okT] at hok;obtain⟨hd,hnb,hoks⟩:=hok;have hn1:=hnb.1;rw[aO] at hp;unfold gO at hp;by_cases h1:op=1
 .subst h1;rw[if_pos rfl] at hp;cases hp;rw[aWb] at hv;cases hv;unfold jU
  split
  .rename_i h;rw[h];exact⟨rfl,fun t ht=>by simp at ht⟩
  .refine⟨?_,fun t ht f hf=>?_⟩
   .show aK neg l m*1+0=_
    rw[bK5,bL6]
   .rw[bI2] at ht;subst ht;simp at hf
 rw[if_neg h1] at hp;by_cases h2:¬(4<=op/\op<=9)
 .rw[if_neg h2] at hp;have hi:=hs.atomI _ (aCe h1d hok0) h1 h2;have hA:Aok al (b8 (aE (.mk op arg neg l m name ks))):=hi.elim .inl fun x=>.inr fun u hu=>by rw[x] at hu;cases hu
  obtain⟨h3,h4⟩:=aCg hp hA;refine⟨?_,h4⟩;rw[h3];refine hs.atom _ v (aCe h1d hok0) hsz ?_ h1 h2 hv;unfold cH at hp
  split at hp
  .cases hp
  .rename_i hl;have:(b8 (aE (.mk op arg neg l m name ks))).length=(aE (.mk op arg neg l m name ks)).length:=bJb _;omega
 replace h2:=Decidable.not_not.1 h2;rw[if_pos h2] at hp;have hop:op≠1/\op≠2/\op≠3:=⟨h1,Aa,Aa⟩;by_cases hone:op=4\/op=9
 .obtain⟨k,rfl⟩:=aM1 hn1 (by unfold bM;rcases hone with rfl|rfl<;>rfl);rw[aCf hop] at hv;rw[dC,dC] at hp;rw[dB] at hoks;have hk:szT k<=299:=by have:=bD (op:=op) (arg:=arg) (neg:=neg) (l:=l) (m:=m) (name:=name) (ks:=[k]) (j:=0) (t:=k) rfl;omega
  cases hx:bL vals k with
  | none=>rw[hx] at hv;cases hv
  | some x=>
   rw[hx] at hv;have hv:unQ op arg x=some v:=hv;cases ha:aO k with
   | error n=>rw[ha] at hp;cases hp
   | ok a=>
    rw[ha] at hp;obtain⟨g1,g2⟩:=ih k (bD (j:=0) rfl) (d+1) Aa hoks.1 Aa a x ha hx;dsimp only at hp;rcases hone with rfl|rfl
    .rw[if_pos rfl] at hp;rw[aHb] at hv;refine⟨?_,qB (aMz _ (fun t ht=>by simp at ht) g2) hp⟩
     rw[uD hp,mH,g1,<-rI hv];show 0+-1*x=-x;rw[bMy,Rat.neg_mul,bKb]
    .rw[if_neg Ae,if_pos rfl] at hp;rw[bA4] at hv
     split at hv
     .cases hv
     .rename_i hz;rw[<-rI hv];unfold oX
      split at hp
      .rename_i hneg;have hx0:x≠0:=fun e=>hz ⟨hneg,e⟩
       rw[if_pos hneg];cases hc:cA k a with
       | error n=>rw[hc] at hp;cases hp
       | ok c=>
        rw[hc] at hp;obtain⟨r1,r2⟩:=aEq hs (aCe Aa hoks.1) hk hx hx0 g1 hc;obtain⟨p1,p2⟩:=aHc r2 _ _ hp;refine⟨?_,p2⟩;rw[p1,r1,show arg.natAbs=(-arg).toNat by omega,bMb,bKb]
      .rename_i hneg;obtain⟨p1,p2⟩:=aHc g2 _ _ hp;rw[if_neg hneg];exact⟨by rw[p1,g1,show arg.natAbs=arg.toNat by omega],p2⟩
 .obtain⟨k,k',rfl⟩:=aWe hn1 (by unfold bM;rw[if_neg Aa,if_neg Aa,if_pos Aa]);rw[aWc hop] at hv;rw[dC,dC,dC] at hp;rw[dB,dB] at hoks;have hk:szT k<=299:=by have:=bD (op:=op) (arg:=arg) (neg:=neg) (l:=l) (m:=m) (name:=name) (ks:=[k,k']) (j:=0) (t:=k) rfl;omega
  have hk':szT k'<=299:=by have:=bD (op:=op) (arg:=arg) (neg:=neg) (l:=l) (m:=m) (name:=name) (ks:=[k,k']) (j:=1) (t:=k') rfl;omega
  cases hx:bL vals k with
  | none=>rw[hx] at hv;cases hv
  | some x=>
   cases hy:bL vals k' with
   | none=>rw[hx,hy] at hv;cases hv
   | some y=>
    rw[hx,hy] at hv;have hv:biQ op x y=some v:=hv;cases ha:aO k with
    | error n=>rw[ha] at hp;cases hp
    | ok a=>
     rw[ha] at hp;dsimp only at hp;rw[if_neg Aa,if_neg Aa] at hp;cases hb:aO k' with
     | error n=>rw[hb] at hp;cases hp
     | ok b=>
      rw[hb] at hp;dsimp only at hp;obtain⟨g1,g2⟩:=ih k (bD (j:=0) rfl) (d+1) Aa hoks.1 Aa a x ha hx;obtain⟨e1,e2⟩:=ih k' (bD (j:=1) rfl) (d+1) Aa hoks.2.1 Aa b y hb hy;unfold biQ at hv
      split at hp
      .rename_i h5;rw[if_pos h5] at hv;refine⟨?_,qB (aMz _ g2 e2) hp⟩;rw[uD hp,mH,g1,e1,<-rI hv,bKb]
      .rename_i h5;rw[if_neg h5] at hv
       split at hp
       .rename_i h6;rw[if_pos h6] at hv;refine⟨?_,qB (aMz _ g2 e2) hp⟩;rw[uD hp,mH,g1,e1,<-rI hv,Rat.neg_mul,bKb,bMd]
       .rename_i h6;rw[if_neg h6] at hv
        split at hp
        .rename_i h7;rw[if_pos h7] at hv;refine⟨?_,qB (aMy g2 e2) hp⟩;rw[uD hp,aM0 g2 e2,g1,e1,<-rI hv]
        .rename_i h7;rw[if_neg h7,if_pos Aa] at hv
         split at hv
         .cases hv
         .rename_i hy0;cases hc:cA k' b with
          | error n=>rw[hc] at hp;cases hp
          | ok c=>
           rw[hc] at hp;obtain⟨r1,r2⟩:=aEq hs (aCe Aa hoks.2.1) hk' hy hy0 e1 hc;refine⟨?_,qB (aMy g2 r2) hp⟩;rw[uD hp,aM0 g2 r2,g1,r1,<-rI hv,bMb,bMb,bKb]
end Go.Proofs.Y
/- The tokens of the text of a tree: plain. -/
namespace Go.Proofs.Y
open Go Go.Vc Go.Dig
def aCi(c:Nat):Prop:=aln c=false/\c≠46/\c≠47
def xH(rest:List Nat):Prop:=∀c,rest.head?=some c->aCi c
theorem aRn:xH []:=fun c h=>by cases h
theorem jE{c:Nat}{l:List Nat}(h:aCi c):xH (c::l):=fun d e=>by cases e;exact h
def kt(t:Tk):Nat × List Nat:=(t.kind,t.text)
def Sc(b:Bool)(a:List Nat)(ks:List (Nat × List Nat)):Prop:=
 ∀(rest:List Nat) (n i:Nat) (acc:List Tk),(b=true->xH rest)->(a++rest).length<=n->∃n' ts,rest.length<=n'/\ts.map kt=ks/\dD n (a++rest) i acc=dD n' rest (i+a.length) (acc++ts)
theorem Sc.nil(b:Bool):Sc b [] []:=fun rest n i acc _ hn=>⟨n,[],hn,rfl,by simp⟩
theorem Sc.any{b:Bool}{a:List Nat}{ks:List (Nat × List Nat)}(h:Sc b a ks):Sc true a ks:=fun rest n i acc hs hn=>h rest n i acc (fun _=>hs rfl) hn
theorem Sc.app{b b':Bool}{a c:List Nat}{ks ls:List (Nat × List Nat)}(h:Sc b a ks)(h':Sc b' c ls)(hs:b=true->c≠[]/\xH c):Sc b' (a++c) (ks++ls):=by
 intro rest n i acc hr hn;obtain⟨n1,t1,q1,q2,q3⟩:=h (c++rest) n i acc (fun e=>by
   obtain⟨h1,h2⟩:=hs e
   match c,h1,h2 with
   | x::c',_,h2=>exact fun d e=>h2 d (by simpa using e)) (by rw[<-bIt];exact hn)
 obtain⟨n2,t2,q4,q5,q6⟩:=h' rest n1 (i+a.length) (acc++t1) hr q1;refine⟨n2,t1++t2,q4,by rw[bI3,q2,q5],?_⟩
 rw[bIt,q3,q6,bIo,bIt,bKd]
theorem Sc.space:Sc false [32] []:=fun rest n i acc _ hn=>by
 match n,hn with
 | n+1,hn=>
  refine⟨n,[],by simp at hn;omega,rfl,?_⟩
  rw[bIy];show dD (n+1) (32::rest) i acc=_;rw[dD,if_pos rfl]
  rfl
 | 0,hn=>simp at hn
theorem Sc.one{b:Bool}{a:List Nat}{k:Nat}(hne:a≠[])(h32:a.head?≠some 32)(ht:∀rest,(b=true->xH rest)->lJ (a++rest)=some (k,a.length)):Sc b a [(k,a)]:=fun rest n i acc hs hn=>by
 have h:=ht rest hs
 match a,hne,h32,n,hn,h with
 | c::l,_,h32,n+1,hn,h=>
  have hc:c≠32:=fun e=>h32 (by rw[e];rfl)
  refine⟨n,[⟨k,c::l,i⟩],by simp at hn;omega,rfl,?_⟩
  show dD (n+1) (c::(l++rest)) i acc=_
  rw[dD,if_neg hc];rw[show c::(l++rest)=(c::l)++rest from rfl,h];show dD n (((c::l)++rest).drop (c::l).length) (i+(c::l).length) (acc++[⟨k,((c::l)++rest).take (c::l).length,i⟩])=_;rw[bMg,bLq]
 | c::l,_,_,0,hn,_=>simp at hn
theorem aWf{w rest:List Nat}(hw:eB w=w.length)(hne:w≠[])(hs:xH rest):eB (w++rest)=w.length:=by
 match w,hw,hne with
 | c::l,hw,_=>
  rw[eB] at hw
  split at hw
  .rename_i hc;show (if ltr c then ((l++rest).takeWhile aln).length+1 else 0)=_
   rw[if_pos hc];have h1:(l.takeWhile aln).length=l.length:=by simpa using hw
   have hall:∀x∈l,aln x=true:=by
    have e:l.takeWhile aln=l:=List.IsPrefix.eq_of_length (List.takeWhile_prefix _) h1;intro x hx;rw[<-e] at hx;by_cases hh:aln x=true
    .exact hh
    .exact absurd h1 (Nat.ne_of_lt (lX l ⟨x,e▸hx,hh⟩))
   rw[List.takeWhile_append_of_pos hall];have:rest.takeWhile aln=[]:=by
    match rest,hs with
    | [],_=>rfl
    | d::r,hs=>rw[bLo,(hs d rfl).1];rfl
   rw[this,bIy,bIs]
  .simp at hw
theorem aRo{w:List Nat}(hw:eB w=w.length)(hne:w≠[]):w.head?≠some 32:=by
 match w,hw,hne with
 | c::l,hw,_=>
  intro e;cases e;rw[eB,if_neg Ae] at hw;cases hw
theorem Sc.word{w:List Nat}{k:Nat}(hw:eB w=w.length)(hne:w≠[])(hk:(w∈aW/\k=3)\/(w∉aW/\fD w/\k=2)\/(w∉aW/\¬fD w/\vI w/\k=0)):Sc true w [(k,w)]:=
 Sc.one hne (aRo hw hne) fun rest hs=>by
  have h:=aWf hw hne (hs rfl);have hp:0<w.length:=List.length_pos_iff.2 hne;unfold lJ;rw[h,if_pos hp,bLq];rcases hk with ⟨a,rfl⟩|⟨a,b,rfl⟩|⟨a,b,c,rfl⟩
  .rw[if_pos a]
  .rw[if_neg a,if_pos b]
  .rw[if_neg a,if_neg b,if_pos c]
theorem Sc.sign{c:Nat}(h:[c]∈iF):Sc false [c] [(0,[c])]:=by
 have hm:c=43\/c=45\/c=42\/c=47\/c=94\/c=40\/c=41\/c=44:=by simpa[iF] using h
 refine Sc.one Aq (fun e=>by cases e;omega) fun rest _=>?_
 have h1:ltr c=false:=by rw[Bool.eq_false_iff];intro e;have:=jI.1 e;omega
 have h2:dgt c=false:=by rw[Bool.eq_false_iff];intro e;have:=fY.1 e;omega
 have hd:kY (c::rest)=0:=by unfold kY;rw[bLo,h2];rfl
 have hn:mJ (c::rest)=0:=by unfold mJ;rw[hd,if_neg Aa]
 have hw:eB (c::rest)=0:=by rw[eB,h1];rfl
 show lJ (c::rest)=some (0,1)
 unfold lJ;rw[hw,hn,if_neg Aa,if_neg Aa];exact if_pos (by simpa using h)
/-! numbers -/
theorem xI{a b:List Nat}(ha:∀x∈a,dgt x=true)(hb:∀c,b.head?=some c->dgt c=false):kY (a++b)=a.length:=by
 unfold kY;rw[(aMa a b ha hb).1]
theorem aJ0{rest:List Nat}(hs:xH rest):∀c,rest.head?=some c->dgt c=false:=fun c e=>by
 have h:=(hs c e).1;unfold aln at h;rw[Bool.or_eq_false_iff] at h;exact h.2
theorem aCj(n:Nat):0<(bN n).length:=List.length_pos_iff.2 (mP n)
theorem aJ1{a b:List Nat}(ha:∀x∈a,dgt x=true)(hne:a≠[]):eB (a++b)=0:=by
 match a,ha,hne with
 | c::l,ha,_=>
  have h1:=fY.1 (ha c (bIw ..));show (if ltr c then _ else 0)=0
  rw[if_neg];intro e;have:=jI.1 e;omega
theorem aJ2{a:List Nat}(ha:∀x∈a,dgt x=true):a.head?≠some 32:=fun e=>by
 match a,ha,e with
 | c::l,ha,e=>
  cases e
  exact absurd (ha 32 (bIw ..)) Ae
theorem Sc.digits(n:Nat):Sc true (bN n) [(1,bN n)]:=
 Sc.one (mP n) (aJ2 (fQ n)) fun rest hs=>by
  have hp:=aCj n;have h1:=xI (fQ n) (aJ0 (hs rfl));have h2:mJ (bN n++rest)=(bN n).length:=by
   unfold mJ;rw[h1,if_neg]
   rintro⟨-,h3,h4,-⟩
   rw[bIp,bJa (bJf _),bK7] at h4
   match rest,hs rfl,h4,h3 with
   | [],_,_,h3=>simp at h3
   | d::r,hs,h4,_=>
    have:=hs d rfl;simp at h4;exact h4.elim this.2.1 this.2.2
  unfold lJ;rw[aJ1 (fQ n) (mP n),if_neg Aa,h2,if_pos hp]
theorem Sc.frac(n d:Nat):Sc true (bN n++[47]++bN d) [(1,bN n++[47]++bN d)]:=
 Sc.one Aq (by
   have h:=aJ2 (fQ n);have hp:=mP n
   match bN n,h,hp with
   | c::l,h,_=>exact h) fun rest hs=>by
  have hp:=aCj n;have hp':=aCj d;have e:bN n++[47]++bN d++rest=bN n++(47::(bN d++rest)):=by simp
  have h1:kY (bN n++(47::(bN d++rest)))=(bN n).length:=xI (fQ n) (fun c e=>by cases e;decide)
  have h3:(bN n++(47::(bN d++rest))).drop ((bN n).length+1)=bN d++rest:=by
   rw[<-bMr,bMg];rfl
  have h4:=xI (fQ d) (aJ0 (hs rfl));have h2:mJ (bN n++(47::(bN d++rest)))=(bN n++[47]++bN d).length:=by
   unfold mJ;rw[h1,h3,h4,if_pos ⟨hp,by simp,.inr (by rw[bIp,bJa (bJf _),bK7];rfl),hp'⟩]
   simp;omega
  rw[e];unfold lJ;rw[aJ1 (fQ n) (mP n),if_neg Aa,h2,if_pos Ar]
theorem aM2{q:Rat}(h:0<=q):sg q=false:=by
 unfold sg;rw[decide_eq_false_iff_not];exact fun x=>absurd (Rat.num_nonneg.2 h) Aa
theorem Sc.num{q:Rat}(h:0<=q):Sc true (jB q) [(1,jB q)]:=by
 unfold jB;rw[aM2 h];by_cases e:q.den=1
 .rw[if_pos e];show Sc true (bN (nu q)++[]) [(1,bN (nu q)++[])];rw[bIy];exact Sc.digits _
 .rw[if_neg e];show Sc true (bN (nu q)++([47]++bN q.den)) [(1,bN (nu q)++([47]++bN q.den))];rw[<-bIt];exact Sc.frac _ _
/-! the tokens of a tree -/
def sgT(c:Nat):Nat × List Nat:=(0,[c])
def itK(n:Int):List (Nat × List Nat):=if n<0 then [sgT 45,(1,bN n.natAbs)] else [(1,bN n.natAbs)]
def mL(x:List (Nat × List Nat) × Int)(low:Int):List (Nat × List Nat):=if low<=x.2 then x.1 else [sgT 40]++x.1++[sgT 41]
def dG:Bool->List (List (Nat × List Nat) × Int)->List (Nat × List Nat)
 | _,[]=>[]
 | true,x::r=>x.1++dG false r
 | false,x::r=>[sgT 44]++x.1++dG false r
def opC(op:Int):Nat:=if op=5 then 43 else if op=6 then 45 else if op=7 then 42 else 47
def aJ3(op arg:Int):List (Nat × List Nat):=
 if op=10 then (if arg=2 then [(0,[115,113,114,116]),sgT 40] else [(0,[114,111,111,116]),sgT 40]++itK arg++[sgT 44])
 else if op=11 then [(3,aW.getD (arg.toNat-1) []),sgT 40]
 else if op=12 then [(0,[97,98,115]),sgT 40] else if op=13 then [(0,[109,105,110]),sgT 40] else if op=14 then [(0,[109,97,120]),sgT 40] else if op=15 then [(0,[105,102]),sgT 40] else []
def zO(op arg:Int)(q:Rat)(name:List Nat)(xs:List (List (Nat × List Nat) × Int)):List (Nat × List Nat):=
 if op=1 then [(1,jB q)] else if op=2 then [(2,name)] else if op=3 then [(0,[112,105])]
 else if op=4 then [sgT 45]++mL (xs.getD 0 ([],0)) 3
 else if op=5\/op=6 then mL (xs.getD 0 ([],0)) 1++[sgT (opC op)]++mL (xs.getD 1 ([],0)) 2
 else if op=7\/op=8 then mL (xs.getD 0 ([],0)) 2++[sgT (opC op)]++mL (xs.getD 1 ([],0)) 3
 else if op=9 then mL (xs.getD 0 ([],0)) 5++([sgT 94]++itK arg)
 else aJ3 op arg++dG true xs++[sgT 41]
mutual
def nQ:Tr->List (Nat × List Nat)
 | .mk op arg neg l m name ks=>zO op arg (aK neg l m) name (fV ks)
def fV:List Tr->List (List (Nat × List Nat) × Int)
 | []=>[]
 | t::ts=>(nQ t,aT t.op)::fV ts
end
def bDu(x:List Nat × Int)(y:List (Nat × List Nat) × Int):Prop:=x.2=y.2/\Sc true x.1 y.1
def aCk:List (List Nat × Int)->List (List (Nat × List Nat) × Int)->Prop
 | [],[]=>True
 | x::xs,y::ys=>bDu x y/\aCk xs ys
 | _,_=>False
theorem aCk.getD:∀{xs:List (List Nat × Int)} {ys:List (List (Nat × List Nat) × Int)},aCk xs ys->∀i:Nat,bDu (xs.getD i ([],0)) (ys.getD i ([],0))
 | [],[],_,i=>⟨rfl,Sc.nil _⟩
 | x::xs,y::ys,h,0=>h.1
 | x::xs,y::ys,h,i+1=>aCk.getD h.2 i
 | [],_::_,h,_=>h.elim
 | _::_,[],h,_=>h.elim
theorem aWg:aCi 41:=⟨Ae,Ae,Ae⟩
theorem aWh:aCi 44:=⟨Ae,Ae,Ae⟩
theorem bDv:aCi 32:=⟨Ae,Ae,Ae⟩
theorem bDw:aCi 94:=⟨Ae,Ae,Ae⟩
theorem aWi:aCi 40:=⟨Ae,Ae,Ae⟩
theorem qC{x:List Nat × Int}{y:List (Nat × List Nat) × Int}(h:bDu x y)(low:Int):Sc true (aN x low) (mL y low):=by
 unfold aN mL;rw[h.1]
 split
 .exact h.2
 .refine Sc.any (Sc.app (Sc.app (Sc.sign (c:=40) Ae) h.2 fun e=>by cases e) (Sc.sign (c:=41) Ae) fun _=>⟨by simp,jE aWg⟩)
theorem aWj(n:Int):Sc true (itT n) (itK n):=by
 unfold itT itK
 split
 .exact Sc.app (a:=[45]) (Sc.sign (c:=45) Ae) (Sc.digits _) fun e=>by cases e
 .exact Sc.digits _
theorem aHd:∀{xs:List (List Nat × Int)} {ys:List (List (Nat × List Nat) × Int)} (b:Bool),aCk xs ys->Sc true (bR b xs) (dG b ys)/\(b=false->bR b xs=[]\/xH (bR b xs))
 | [],[],b,_=>⟨by cases b<;>exact Sc.nil _,fun _=>by cases b<;>exact .inl rfl⟩
 | x::xs,y::ys,true,h=>by
  obtain⟨h1,h2⟩:=aHd false h.2;refine⟨?_,fun e=>by cases e⟩
  rw[bR,dG];rcases h2 rfl with e|e
  .have:xs=[]:=by
    match xs,e with
    | [],_=>rfl
    | z::zs,e=>rw[bR] at e;simp at e
   subst this
   match ys,h.2 with
   | [],_=>rw[bR,dG,bIy,bIy];exact h.1.2
  .by_cases hn:bR false xs=[]
   .have:xs=[]:=by
     match xs,hn with
     | [],_=>rfl
     | z::zs,e=>rw[bR] at e;simp at e
    subst this
    match ys,h.2 with
    | [],_=>rw[bR,dG,bIy,bIy];exact h.1.2
   .exact Sc.app h.1.2 h1 fun _=>⟨hn,e⟩
 | x::xs,y::ys,false,h=>by
  obtain⟨h1,h2⟩:=aHd false h.2;rw[bR,dG];refine⟨?_,fun _=>.inr (by rw[bIt];exact jE aWh)⟩
  have s:Sc true ([44,32]++x.1) ([sgT 44]++y.1):=by
   have:=Sc.app (Sc.app (Sc.sign (c:=44) Ae) Sc.space fun e=>by cases e) h.1.2 fun e=>by cases e
   exact this
  by_cases hn:bR false xs=[]
  .have:xs=[]:=by
    match xs,hn with
    | [],_=>rfl
    | z::zs,e=>rw[bR] at e;simp at e
   subst this
   match ys,h.2 with
   | [],_=>rw[bR,dG,bIy,bIy];exact s
  .exact Sc.app s h1 fun _=>⟨hn,(h2 rfl).resolve_left hn⟩
 | [],_::_,_,h=>h.elim
 | _::_,[],_,h=>h.elim
theorem aEr{w:List Nat}(h:w∈nI):Sc false (w++[40]) [(0,w),sgT 40]:=by
 have hw:∀w∈nI,eB w=w.length/\w≠[]/\w∉aW/\¬fD w:=Ae
 obtain⟨h1,h2,h3,h4⟩:=hw w h;exact Sc.app (Sc.word h1 h2 (.inr (.inr ⟨h3,h4,.inl h,rfl⟩))) (Sc.sign (c:=40) Ae) fun _=>⟨by simp,jE aWi⟩
theorem bGe{arg:Int}(h1:1<=arg)(h2:arg<=8):Sc false (aW.getD (arg.toNat-1) []++[40]) [(3,aW.getD (arg.toNat-1) []),sgT 40]:=by
 have hw:∀k,k<8->eB (aW.getD k [])=(aW.getD k []).length/\aW.getD k []≠[]/\aW.getD k []∈aW:=Ae
 obtain⟨g1,g2,g3⟩:=hw (arg.toNat-1) Aa;exact Sc.app (Sc.word g1 g2 (.inl ⟨g3,rfl⟩)) (Sc.sign (c:=40) Ae) fun _=>⟨by simp,jE aWi⟩
theorem bA5{op arg:Int}(ho:op=10\/op=11\/op=12\/op=13\/op=14\/op=15)(h11:op=11->1<=arg/\arg<=8):Sc false (dR op arg) (aJ3 op arg):=by
 unfold dR aJ3;by_cases e:op=10
 .rw[if_pos e,if_pos e]
  split
  .exact aEr (w:=[115,113,114,116]) Ae
  .have h1:=Sc.app (aEr (w:=[114,111,111,116]) Ae) (aWj arg) fun e=>by cases e
   have h2:=Sc.app h1 (Sc.app (Sc.sign (c:=44) Ae) Sc.space fun e=>by cases e) fun _=>⟨by simp,jE aWh⟩
   exact h2
 rw[if_neg e,if_neg e];by_cases e:op=11
 .rw[if_pos e,if_pos e];exact bGe (h11 e).1 (h11 e).2
 rw[if_neg e,if_neg e]
 split
 .exact aEr (w:=[97,98,115]) Ae
 split
 .exact aEr (w:=[109,105,110]) Ae
 split
 .exact aEr (w:=[109,97,120]) Ae
 split
 .exact aEr (w:=[105,102]) Ae
 .omega
theorem aPd(op:Int):Sc false (kJ op) [sgT (opC op)]:=by
 have h:∀c,[c]∈iF->Sc false [32,c,32] [sgT c]:=fun c hc=>by
  have:=Sc.app (Sc.app Sc.space (Sc.sign hc) fun e=>by cases e) Sc.space fun e=>by cases e
  exact this
 unfold kJ opC
 repeat' split
 .exact h 43 Ae
 .exact h 45 Ae
 .exact h 42 Ae
 .exact h 47 Ae
theorem aCl(op:Int):kJ op≠[]/\xH (kJ op):=by
 unfold kJ
 repeat' split
 all_goals exact⟨by simp,jE bDv⟩
theorem bA6{op arg:Int}{neg:Bool}{l m name:List Nat}{xs:List (List Nat × Int)}{ys:List (List (Nat × List Nat) × Int)}{n:Nat}(hn:fC op arg neg l m name n)(h:aCk xs ys):Sc true (rT op arg (aK neg l m) name xs) (zO op arg (aK neg l m) name ys):=by
 obtain⟨n1,n2,n3,n4,n5⟩:=hn;have p:=fun i=>h.getD i
 unfold rT zO;by_cases e:op=1
 .rw[if_pos e,if_pos e];rw[if_pos e] at n5;exact Sc.num n5.2
 rw[if_neg e,if_neg e];by_cases e:op=2
 .rw[if_pos e,if_pos e];rw[if_pos e] at n4;exact Sc.word n4.2.1 n4.2.2.1 (.inr (.inl ⟨fun x=>n4.2.2.2 (.inr x),n4,rfl⟩))
 rw[if_neg e,if_neg e];by_cases e:op=3
 .rw[if_pos e,if_pos e];exact Sc.word (w:=[112,105]) Ae Ae (.inr (.inr Ae))
 rw[if_neg e,if_neg e];by_cases e:op=4
 .rw[if_pos e,if_pos e];exact Sc.app (Sc.sign (c:=45) Ae) (qC (p 0) 3) fun e=>by cases e
 rw[if_neg e,if_neg e];by_cases e:op=5\/op=6
 .rw[if_pos e,if_pos e];exact Sc.app (Sc.app (qC (p 0) 1) (aPd op) fun _=>aCl op) (qC (p 1) 2) fun e=>by cases e
 rw[if_neg e,if_neg e];by_cases e:op=7\/op=8
 .rw[if_pos e,if_pos e];exact Sc.app (Sc.app (qC (p 0) 2) (aPd op) fun _=>aCl op) (qC (p 1) 3) fun e=>by cases e
 rw[if_neg e,if_neg e];by_cases e:op=9
 .rw[if_pos e,if_pos e];exact Sc.app (qC (p 0) 5) (Sc.app (Sc.sign (c:=94) Ae) (aWj arg) fun e=>by cases e) fun _=>⟨by simp,jE bDw⟩
 rw[if_neg e,if_neg e];have ho:op=10\/op=11\/op=12\/op=13\/op=14\/op=15:=by
  unfold bM at n1
  repeat' split at n1
  all_goals omega
 have h1:=Sc.app (bA5 ho fun e=>by
   rw[e] at n2 n3;rw[show jC 11=1 by decide] at n2
   rw[show eZ 11=8 by decide] at n3
   exact⟨n2,n3⟩) (aHd true h).1 fun e=>by cases e
 exact Sc.any (Sc.app h1 (Sc.sign (c:=41) Ae) fun _=>⟨by simp,jE aWg⟩)
mutual
theorem aPe:∀{d:Nat} {t:Tr},okT d t->Sc true (aE t) (nQ t)
 | d,.mk op arg neg l m name ks,h=>by
  rw[okT] at h;rw[aE,nQ];exact bA6 h.2.1 (aJ4 h.2.2)
theorem aJ4:∀{d:Nat} {ts:List Tr},dB d ts->aCk (aL ts) (fV ts)
 | d,[],_=>by rw[aL,fV];trivial
 | d,t::ts,h=>by
  rw[dB] at h;rw[aL,fV];exact⟨⟨rfl,aPe h.1⟩,aJ4 h.2⟩
end
theorem aRp{d:Nat}{t:Tr}(h:okT d t):∃ts:List Tk,dD (aE t).length (aE t) 0 []=(ts,-1)/\ts.map kt=nQ t:=by
 obtain⟨n',ts,-,h2,h3⟩:=aPe h [] (aE t).length 0 [] (fun _=>aRn) (by rw[bIy];exact bJf _)
 rw[bIy] at h3;refine⟨ts,?_,h2⟩;rw[h3];cases n'<;>simp[dD]
end Go.Proofs.Y
/- The text of a tree, parsed: plain. -/
namespace Go.Dig
theorem aWk{α β:Type}{A:Option (Pr α)}{f:α->Nat->List Cn->Option (Pr β)}{r:Pr β}(h:Pr.bnd A f=some r):(∃x i cs,A=some (.ok x i cs)/\f x i cs=some r)\/∃i,A=some (.bad i)/\r=.bad i:=by
 match A,h with
 | some (.ok x i cs),h=>exact .inl ⟨x,i,cs,rfl,h⟩
 | some (.bad i),h=>exact .inr ⟨i,rfl,(Option.some.inj h).symm⟩
theorem dE{α β:Type}{A A':Option (Pr α)}{f f':α->Nat->List Cn->Option (Pr β)}(ha:∀r,A=some r->A'=some r)(hf:∀x i cs r,f x i cs=some r->f' x i cs=some r):∀r,Pr.bnd A f=some r->Pr.bnd A' f'=some r:=fun r h=>by
 rcases aWk h with ⟨x,i,cs,h1,h2⟩|⟨i,h1,rfl⟩
 .rw[ha _ h1];exact hf _ _ _ _ h2
 .rw[ha _ h1];rfl
theorem eK{α:Type}{c:Prop}[Decidable c]{A A' B B':Option α}(ha:∀r,A=some r->A'=some r)(hb:∀r,B=some r->B'=some r):∀r,(if c then A else B)=some r->(if c then A' else B')=some r:=fun r h=>by
 by_cases e:c
 .rw[if_pos e] at h ⊢;exact ha r h
 .rw[if_neg e] at h ⊢;exact hb r h
theorem cL{α:Type}{A:Option α}:∀r,A=some r->A=some r:=fun _ h=>h
theorem aJ5(ts:List Tk)(parse:List Nat->Bool × List Nat × List Nat):∀(n:Nat) (md:Md) (i:Nat) (cs:List Cn) (r:Pr Tr),pp ts parse n md i cs=some r->pp ts parse (n+1) md i cs=some r
 | 0,md,i,cs,r,h=>by rw[pp] at h;cases h
 | n+1,md,i,cs,r,h=>by
  have ih:=fun md i cs r=>aJ5 ts parse n md i cs r
  match md with
  | .sum=>rw[pp] at h ⊢;exact dE (ih _ _ _) (fun _ _ _=>ih _ _ _) r h
  | .term=>rw[pp] at h ⊢;exact dE (ih _ _ _) (fun _ _ _=>ih _ _ _) r h
  | .sumL e=>rw[pp] at h ⊢;exact eK (dE (ih _ _ _) (fun _ _ _=>ih _ _ _)) (eK (dE (ih _ _ _) (fun _ _ _=>ih _ _ _)) cL) r h
  | .termL e=>rw[pp] at h ⊢;exact eK (dE (ih _ _ _) (fun _ _ _=>ih _ _ _)) (eK (dE (ih _ _ _) (fun _ _ _=>ih _ _ _)) cL) r h
  | .fac=>rw[pp] at h ⊢;exact eK (dE (ih _ _ _) (fun _ _ _=>cL)) (dE (ih _ _ _) (fun _ _ _=>cL)) r h
  | .kids k=>rw[pp] at h ⊢;exact dE cL (fun _ _ _=>ih _ _ _) r h
  | .kidsL k j acc=>rw[pp] at h ⊢;exact eK (eK (dE cL fun _ _ _=>dE (ih _ _ _) (fun _ _ _=>ih _ _ _)) (dE (ih _ _ _) (fun _ _ _=>ih _ _ _))) cL r h
  | .atom=>
   rw[pp] at h ⊢
   match ts[i]?,h with
   | none,h=>exact h
   | some t,h=>
    refine eK cL (eK (dE (ih _ _ _) fun _ _ _=>cL) (eK cL (eK cL (eK (dE (ih _ _ _) fun _ _ _=>cL) (eK (dE (ih _ _ _) fun _ _ _=>cL) (eK (dE (ih _ _ _) fun _ _ _=>cL) (eK (dE (ih _ _ _) fun _ _ _=>cL) (eK (dE (ih _ _ _) fun _ _ _=>cL) (eK (dE (ih _ _ _) fun _ _ _=>cL) (eK ?_ cL)))))))))) r h
    exact dE cL fun _ _ _=>dE cL fun _ _ _=>dE cL fun _ _ _=>dE (ih _ _ _) fun _ _ _=>cL
theorem gR(ts:List Tk)(parse:List Nat->Bool × List Nat × List Nat){md:Md}{i:Nat}{cs:List Cn}{r:Pr Tr}{n:Nat}(h:pp ts parse n md i cs=some r):∀m,n<=m->pp ts parse m md i cs=some r:=fun m hm=>by
 obtain⟨k,rfl⟩:∃k,m=n+k:=⟨m-n,Aa⟩
 clear hm
 induction k with
 | zero=>exact h
 | succ k ih=>exact aJ5 ts parse _ _ _ _ _ ih
end Go.Dig
namespace Go.Proofs.Y
open Go Go.Vc Go.Dig
section
variable (ts:List Tk)
def Ps(md:Md)(i:Nat)(cs:List Cn)(r:Pr Tr):Prop:=∃n,pp ts prs n md i cs=some r
end
section
variable {ts:List Tk}
theorem Ps.sum{i j:Nat}{cs cs':List Cn}{e:Tr}{r:Pr Tr}(h:Ps ts .term i cs (.ok e j cs'))(h':Ps ts (.sumL e) j cs' r):Ps ts .sum i cs r:=by
 obtain⟨n,h⟩:=h;obtain⟨m,h'⟩:=h';refine⟨max n m+1,?_⟩;rw[pp,gR ts prs h _ (bLs n m)];exact gR ts prs h' _ (bLn n m)
theorem Ps.term{i j:Nat}{cs cs':List Cn}{e:Tr}{r:Pr Tr}(h:Ps ts .fac i cs (.ok e j cs'))(h':Ps ts (.termL e) j cs' r):Ps ts .term i cs r:=by
 obtain⟨n,h⟩:=h;obtain⟨m,h'⟩:=h';refine⟨max n m+1,?_⟩;rw[pp,gR ts prs h _ (bLs n m)];exact gR ts prs h' _ (bLn n m)
theorem Ps.add{i j:Nat}{cs cs':List Cn}{e f:Tr}{op:Int}{r:Pr Tr}(ho:op=5\/op=6)(ha:cG ts [opC op] i=true)(h:Ps ts .term (i+1) cs (.ok f j cs'))(h':Ps ts (.sumL (aG op 0 [e,f])) j cs' r):Ps ts (.sumL e) i cs r:=by
 obtain⟨n,h⟩:=h;obtain⟨m,h'⟩:=h';refine⟨max n m+1,?_⟩;rw[pp];rcases ho with rfl|rfl
 .rw[if_pos (show cG ts [43] i=true from ha),gR ts prs h _ (bLs n m)];exact gR ts prs h' _ (bLn n m)
 .have hn:cG ts [43] i=false:=by
   unfold cG at ha ⊢;cases ht:ts[i]? with
   | none=>rfl
   | some t=>
    rw[ht] at ha;have:=of_decide_eq_true ha;exact decide_eq_false fun x=>by rw[this.2] at x;exact absurd x.2 Ae
  rw[if_neg (by rw[hn];decide),if_pos (show cG ts [45] i=true from ha),gR ts prs h _ (bLs n m)];exact gR ts prs h' _ (bLn n m)
theorem Ps.mul{i j:Nat}{cs cs':List Cn}{e f:Tr}{op:Int}{r:Pr Tr}(ho:op=7\/op=8)(ha:cG ts [opC op] i=true)(h:Ps ts .fac (i+1) cs (.ok f j cs'))(h':Ps ts (.termL (aG op 0 [e,f])) j cs' r):Ps ts (.termL e) i cs r:=by
 obtain⟨n,h⟩:=h;obtain⟨m,h'⟩:=h';refine⟨max n m+1,?_⟩;rw[pp];rcases ho with rfl|rfl
 .rw[if_pos (show cG ts [42] i=true from ha),gR ts prs h _ (bLs n m)];exact gR ts prs h' _ (bLn n m)
 .have hn:cG ts [42] i=false:=by
   unfold cG at ha ⊢;cases ht:ts[i]? with
   | none=>rfl
   | some t=>
    rw[ht] at ha;have:=of_decide_eq_true ha;exact decide_eq_false fun x=>by rw[this.2] at x;exact absurd x.2 Ae
  rw[if_neg (by rw[hn];decide),if_pos (show cG ts [47] i=true from ha),gR ts prs h _ (bLs n m)];exact gR ts prs h' _ (bLn n m)
theorem Ps.sumEnd{i:Nat}{cs:List Cn}{e:Tr}(h1:cG ts [43] i=false)(h2:cG ts [45] i=false):Ps ts (.sumL e) i cs (.ok e i cs):=by
 refine⟨1,?_⟩;rw[pp,if_neg (by rw[h1];decide),if_neg (by rw[h2];decide)]
theorem Ps.termEnd{i:Nat}{cs:List Cn}{e:Tr}(h1:cG ts [42] i=false)(h2:cG ts [47] i=false):Ps ts (.termL e) i cs (.ok e i cs):=by
 refine⟨1,?_⟩;rw[pp,if_neg (by rw[h1];decide),if_neg (by rw[h2];decide)]
theorem Ps.neg{i j:Nat}{cs cs':List Cn}{e:Tr}(ha:cG ts [45] i=true)(h:Ps ts .fac (i+1) cs (.ok e j cs')):Ps ts .fac i cs (.ok (aG 4 0 [e]) j cs'):=by
 obtain⟨n,h⟩:=h;refine⟨n+1,?_⟩;rw[pp,if_pos ha,h]
 rfl
theorem Ps.fac{i j:Nat}{cs cs':List Cn}{e:Tr}(ha:cG ts [45] i=false)(h:Ps ts .atom i cs (.ok e j cs'))(hp:cG ts [94] j=false):Ps ts .fac i cs (.ok e j cs'):=by
 obtain⟨n,h⟩:=h;refine⟨n+1,?_⟩;rw[pp,if_neg (by rw[ha];decide),h];show (if cG ts [94] j=true then _ else _)=_
 rw[if_neg (by rw[hp];decide)]
theorem Ps.pow{i j:Nat}{cs cs' cs2:List Cn}{e:Tr}{k:Nat}(ha:cG ts [45] i=false)(h:Ps ts .atom i cs (.ok e j cs'))(hp:cG ts [94] j=true)(hm:cG ts [45] (j+1)=false)(hc:rC ts 0 32 (j+1) cs'=.ok k (j+2) cs2):Ps ts .fac i cs (.ok (aG 9 k [e]) (j+2) cs2):=by
 obtain⟨n,h⟩:=h;refine⟨n+1,?_⟩;rw[pp,if_neg (by rw[ha];decide),h];show (if cG ts [94] j=true then _ else _)=_
 rw[if_pos hp,if_neg (by rw[hm];decide),hc]
 rfl
theorem Ps.powN{i j:Nat}{cs cs' cs2:List Cn}{e:Tr}{k:Nat}(ha:cG ts [45] i=false)(h:Ps ts .atom i cs (.ok e j cs'))(hp:cG ts [94] j=true)(hm:cG ts [45] (j+1)=true)(hc:rC ts 0 32 (j+2) cs'=.ok k (j+3) cs2):Ps ts .fac i cs (.ok (aG 9 (-(k:Int)) [e]) (j+3) cs2):=by
 obtain⟨n,h⟩:=h;refine⟨n+1,?_⟩;rw[pp,if_neg (by rw[ha];decide),h];show (if cG ts [94] j=true then _ else _)=_
 rw[if_pos hp,if_pos hm,hc]
 rfl
/-! tokens from a place on -/
def At(ts:List Tk)(i:Nat)(l:List (Nat × List Nat)):Prop:=(ts.map kt).drop i=l
theorem At.head{i:Nat}{x:Nat × List Nat}{l:List (Nat × List Nat)}(h:At ts i (x::l)):(∃t,ts[i]?=some t/\kt t=x)/\At ts (i+1) l:=by
 unfold At at h ⊢;have h1:(ts.map kt)[i]?=some x:=by
  have:=congrArg (·[0]?) h
  simpa using this
 rw[bKo] at h1;obtain⟨t,h2,h3⟩:=Option.map_eq_some_iff.1 h1;refine⟨⟨t,h2,h3⟩,?_⟩;rw[<-bMr,h]
 rfl
theorem At.app{i:Nat}:∀{a l:List (Nat × List Nat)},At ts i (a++l)->At ts (i+a.length) l
 | [],l,h=>h
 | x::a,l,h=>by
  have h1:=(At.head (l:=a++l) h).2;have:=At.app h1;rw[bIs,show i+(a.length+1)=i+1+a.length by omega]
  exact this
theorem At.is{i:Nat}{s:List Nat}{l:List (Nat × List Nat)}(h:At ts i ((0,s)::l)):cG ts s i=true:=by
 obtain⟨t,h1,h2⟩:=h.head.1;unfold cG;rw[h1];unfold kt at h2
 injection h2 with h3 h4
 exact decide_eq_true ⟨h3,h4⟩
def lL(l:List (Nat × List Nat))(s:List Nat):Prop:=l.head?≠some (0,s)
theorem At.no{i:Nat}{s:List Nat}{l:List (Nat × List Nat)}(h:At ts i l)(hn:lL l s):cG ts s i=false:=by
 unfold cG;cases ht:ts[i]? with
 | none=>rfl
 | some t=>
  refine decide_eq_false fun x=>hn ?_
  unfold At at h;have:(ts.map kt)[i]?=some (kt t):=by rw[bKo,ht];rfl
  rw[<-h,List.head?_drop,this];unfold kt;rw[x.1,x.2]
/-! counts that are in range -/
def okC(cs:List Cn):Prop:=∀c∈cs,¬vK c
theorem aEs(c:Nat)(l:List Nat):eY (c::l)=(c-48)*10^l.length+eY l:=by
 have h:=sN [c] l;have e:eY [c]=c-48:=by unfold eY;simp
 rw[e] at h;exact h
theorem aJ6{high:Nat}:∀{l:List Nat} {n:Nat},(∀x∈l,dgt x=true)->n*10^l.length+eY l<=high->wT high l n=n*10^l.length+eY l
 | [],n,_,_=>by rw[wT];simp[eY]
 | c::l,n,hd,h=>by
  have hc:=fY.1 (hd c (bIw ..));have e:n*10^(c::l).length+eY (c::l)=(10*n+(c-48))*10^l.length+eY l:=by
   rw[aEs,bIs,bJ0,bJu];simp only[bI1,bJs,bKk];omega
  have hle:n<=high:=by
   refine bJd ?_ h;refine bJd ?_ (Nat.le_add_right _ _);exact Nat.le_mul_of_pos_right _ (bKs Aq)
  rw[wT,if_pos hle,aJ6 (fun x hx=>hd x (bIz _ hx)) (by rw[<-e];exact h),e]
theorem aM3{i n low high:Nat}{l:List (Nat × List Nat)}{cs:List Cn}(h:At ts i ((1,bN n)::l))(h1:low<=n)(h2:n<=high)(hc:okC cs):∃cs',okC cs'/\rC ts low high i cs=.ok n (i+1) cs':=by
 obtain⟨t,h3,h4⟩:=h.head.1;unfold kt at h4
 injection h4 with h5 h6
 have hv:wT high (bN n) 0=n:=by
  have:=aJ6 (high:=high) (l:=bN n) (n:=0) (fQ n) (by rw[mX];omega);rw[this,mX];omega
 have hd:kY (bN n)=(bN n).length:=by
  have:=xI (a:=bN n) (b:=[]) (fQ n) (fun c e=>by cases e)
  rwa [bIy] at this
 refine⟨cs++[⟨t.pos,low,high,n⟩],fun c hm=>?_,?_⟩
 .rcases bIx.1 hm with hm|hm
  .exact hc c hm
  .obtain rfl:=bI2.1 hm;unfold vK;show ¬(n<low\/high<n);omega
 .unfold rC;rw[h3];show (if t.kind=1/\kY t.text=t.text.length then _ else _)=_
  rw[h5,h6,if_pos ⟨rfl,hd⟩,hv]
/-! the tree that is read back -/
end
mutual
def reT:Tr->Tr
 | .mk op arg neg l m name ks=>if op=1 then aI3 (jB (aK neg l m)) prs else if op=2 then gA name else aG op arg (mI ks)
def mI:List Tr->List Tr
 | []=>[]
 | t::ts=>reT t::mI ts
end
theorem nR:∀ts:List Tr,(mI ts).length=ts.length
 | []=>by rw[mI]
 | t::ts=>by rw[mI,bIs,bIs,nR ts]
section
variable (ts:List Tk)
structure Rd (lev:Int) (K:List (Nat × List Nat)) (t:Tr):Prop where
 head:5<=lev->∀l,lL (K++l) [45]
 atom:5<=lev->∀i l cs,At ts i (K++l)->okC cs->∃cs',okC cs'/\Ps ts .atom i cs (.ok t (i+K.length) cs')
 fac:3<=lev->∀i l cs,At ts i (K++l)->lL l [94]->okC cs->∃cs',okC cs'/\Ps ts .fac i cs (.ok t (i+K.length) cs')
 term:2<=lev->∀i l cs,At ts i (K++l)->lL l [94]->okC cs->∃cs',okC cs'/\∀r,Ps ts (.termL t) (i+K.length) cs' r->Ps ts .term i cs r
 sum:∀i l cs,At ts i (K++l)->lL l [94]->lL l [42]->lL l [47]->okC cs->∃cs',okC cs'/\∀r,Ps ts (.sumL t) (i+K.length) cs' r->Ps ts .sum i cs r
end
section
variable {ts:List Tk}
theorem Rd.ofTerm{lev:Int}{K:List (Nat × List Nat)}{t:Tr}(hl:lev<3)(term:2<=lev->∀i l cs,At ts i (K++l)->lL l [94]->okC cs->∃cs',okC cs'/\∀r,Ps ts (.termL t) (i+K.length) cs' r->Ps ts .term i cs r)(h2:2<=lev):Rd ts lev K t:=
 ⟨fun h=>by omega,fun h=>by omega,fun h=>by omega,term,fun i l cs hA h94 h42 h47 hc=>by
   obtain⟨cs',h1,h3⟩:=term h2 i l cs hA h94 hc;exact⟨cs',h1,fun r hr=>Ps.sum (h3 _ (Ps.termEnd (hA.app.no h42) (hA.app.no h47))) hr⟩⟩
theorem Rd.ofFac{lev:Int}{K:List (Nat × List Nat)}{t:Tr}(head:5<=lev->∀l,lL (K++l) [45])(atom:5<=lev->∀i l cs,At ts i (K++l)->okC cs->∃cs',okC cs'/\Ps ts .atom i cs (.ok t (i+K.length) cs'))
  (fac:∀i l cs,At ts i (K++l)->lL l [94]->okC cs->∃cs',okC cs'/\Ps ts .fac i cs (.ok t (i+K.length) cs')):Rd ts lev K t:=by
 have term:∀i l cs,At ts i (K++l)->lL l [94]->okC cs->∃cs',okC cs'/\∀r,Ps ts (.termL t) (i+K.length) cs' r->Ps ts .term i cs r:=fun i l cs hA h94 hc=>by
  obtain⟨cs',h1,h2⟩:=fac i l cs hA h94 hc;exact⟨cs',h1,fun r hr=>Ps.term h2 hr⟩
 exact⟨head,atom,fun _=>fac,fun _=>term,fun i l cs hA h94 h42 h47 hc=>by
   obtain⟨cs',h1,h3⟩:=term i l cs hA h94 hc;exact⟨cs',h1,fun r hr=>Ps.sum (h3 _ (Ps.termEnd (hA.app.no h42) (hA.app.no h47))) hr⟩⟩
theorem Rd.ofAtom{lev:Int}{K:List (Nat × List Nat)}{t:Tr}(hK:∀l,lL (K++l) [45])(atom:∀i l cs,At ts i (K++l)->okC cs->∃cs',okC cs'/\Ps ts .atom i cs (.ok t (i+K.length) cs')):Rd ts lev K t:=
 Rd.ofFac (fun _=>hK) (fun _=>atom) fun i l cs hA h94 hc=>by
  obtain⟨cs',h1,h2⟩:=atom i l cs hA hc;exact⟨cs',h1,Ps.fac (hA.no (hK l)) h2 (hA.app.no h94)⟩
theorem Rd.all{lev:Int}{K:List (Nat × List Nat)}{t:Tr}(h:Rd ts lev K t){i:Nat}{l:List (Nat × List Nat)}{cs:List Cn}(hA:At ts i (K++l))(h94:lL l [94])(h42:lL l [42])(h47:lL l [47])(h43:lL l [43])(h45:lL l [45])(hc:okC cs):
  ∃cs',okC cs'/\Ps ts .sum i cs (.ok t (i+K.length) cs'):=by
 obtain⟨cs',h1,h2⟩:=h.sum i l cs hA h94 h42 h47 hc;exact⟨cs',h1,h2 _ (Ps.sumEnd (hA.app.no h43) (hA.app.no h45))⟩
theorem zP{s s':List Nat}{l:List (Nat × List Nat)}(h:s'≠s):lL ((0,s')::l) s:=fun e=>by
 injection e with e
 injection e with _ e
 exact h e
theorem aAr{k:Nat}{s s':List Nat}{l:List (Nat × List Nat)}(h:k≠0):lL ((k,s')::l) s:=fun e=>by
 injection e with e
 injection e with e _
 exact h e
theorem aCm{s:List Nat}:lL [] s:=fun e=>by cases e
theorem rJ{s:List Nat}{i:Nat}{cs:List Cn}{l:List (Nat × List Nat)}(h:At ts i ((0,s)::l)):iJ ts s i cs=some (.ok () (i+1) cs):=by
 unfold iJ;rw[if_pos h.is]
theorem Rd.par{lev lev':Int}{K:List (Nat × List Nat)}{t:Tr}(h:Rd ts lev K t):Rd ts lev' ([sgT 40]++K++[sgT 41]) t:=by
 refine Rd.ofAtom (fun l=>by show lL ((0,[40])::_) _;exact zP Ae) fun i l cs hA hc=>?_
 have hA':At ts i ((0,[40])::(K++((0,[41])::l))):=by
  have e:[sgT 40]++K++[sgT 41]++l=(0,[40])::(K++((0,[41])::l)):=by simp[sgT]
  rwa [e] at hA
 obtain⟨⟨tk,e1,e2⟩,hA1⟩:=hA'.head;have hA2:=hA1.app;have q:∀s,s≠[41]->lL ((0,[41])::l) s:=fun s hs=>zP fun e=>hs e.symm
 obtain⟨cs',h1,n,h2⟩:=h.all hA1 (q _ Ae) (q _ Ae) (q _ Ae) (q _ Ae) (q _ Ae) hc;unfold kt at e2
 injection e2 with e3 e4
 refine⟨cs',h1,n+1,?_⟩;rw[pp,e1];show (if tk.kind=2 then _ else _)=_
 rw[e3,e4,if_neg Ae,if_neg Ae,if_neg Ae,if_neg Ae,if_pos rfl,h2];show Pr.bnd (iJ ts [41] (i+1+K.length) cs') _=_;rw[rJ hA2];show some (Pr.ok t (i+1+K.length+1) cs')=_;rw[show i+([sgT 40]++K++[sgT 41]).length=i+1+K.length+1 by simp;omega]
theorem Rd.place{K:List (Nat × List Nat)}{lev low:Int}{t:Tr}(h:Rd ts lev K t)(h5:low<=5):Rd ts low (mL (K,lev) low) t:=by
 unfold mL
 split
 .rename_i hle;have hle':low<=lev:=hle;exact⟨fun x=>h.head Aa,fun x=>h.atom Aa,fun x=>h.fac Aa,fun x=>h.term Aa,h.sum⟩
 .exact h.par
end
end Go.Proofs.Y
/- Simplify, plain, of trees of any depth. -/
namespace Go.Proofs.Y
open Go Go.Vc Go.Dig
end Go.Proofs.Y
/- Derivatives: plain. -/
namespace Go.Proofs.Y
open Go Go.Vc Go.Dig
/-! trees with equal iX -/
theorem tD{us:List Tr}(h:iX []=iX us):us=[]:=by
 match us,h with
 | [],_=>rfl
 | _::_,h=>rw[iX,iX] at h;cases h
theorem qD{t:Tr}{ts us:List Tr}(h:iX (t::ts)=iX us):∃u us',us=u::us'/\key t=key u/\iX ts=iX us':=by
 match us,h with
 | [],h=>rw[iX,iX] at h;cases h
 | u::us,h=>
  rw[iX,iX,List.cons.injEq] at h;exact⟨u,us,rfl,h.1,h.2⟩
mutual
theorem aPf:∀{t u:Tr},key t=key u->szT t=szT u
 | .mk op arg neg l m name ks,.mk op' arg' neg' l' m' name' ks',e=>by
  rw[key,key,Kt.mk.injEq] at e;rw[szT,szT,aJ7 e.2.2.2.2]
theorem aJ7:∀{ts us:List Tr},iX ts=iX us->fO ts=fO us
 | [],us,e=>by rw[tD e]
 | t::ts,us,e=>by
  obtain⟨u,us',rfl,e1,e2⟩:=qD e;rw[fO,fO,aPf e1,aJ7 e2]
end
/-! the derivative: `g` tells how a node stands for itself -/
def bHy(e:Tr)(arg:Int)(a da:Tr):Tr:=if arg=0 then mkL 0 else aG 7 0 [aG 7 0 [mkL (arg:Rat),if -32<arg then aG 9 (arg-1) [a] else aG 8 0 [e,a]],da]
def bGf(e:Tr)(arg:Int)(da:Tr):Tr:=aG 8 0 [da,aG 7 0 [mkL (arg:Rat),aG 9 (arg-1) [e]]]
def bGg(a:Tr):Tr:=aG 10 2 [aG 6 0 [mkL 1,aG 9 2 [a]]]
def bGh(e:Tr)(arg:Int)(a da:Tr):Tr:=
 if arg=1 then aG 7 0 [e,da] else if arg=2 then aG 8 0 [da,a] else if arg=3 then aG 7 0 [aG 11 4 [a],da]
 else if arg=4 then aG 4 0 [aG 7 0 [aG 11 3 [a],da]] else if arg=5 then aG 7 0 [aG 5 0 [mkL 1,aG 9 2 [e]],da]
 else if arg=6 then aG 8 0 [da,bGg a] else if arg=7 then aG 4 0 [aG 8 0 [da,bGg a]] else aG 8 0 [da,aG 5 0 [mkL 1,aG 9 2 [a]]]
def bHz(op:Int)(a b da db:Tr):Tr:=
 if op=5\/op=6 then aG op 0 [da,db] else if op=7 then aG 5 0 [aG 7 0 [da,b],aG 7 0 [a,db]]
 else aG 8 0 [aG 6 0 [aG 7 0 [da,b],aG 7 0 [a,db]],aG 9 2 [b]]
def bGi(e:Tr)(op arg:Int):List Tr->List Tr->Tr
 | [a],[da]=>if op=4 then aG 4 0 [da] else if op=9 then bHy e arg a da else if op=10 then bGf e arg da else bGh e arg a da
 | [a,b],[da,db]=>bHz op a b da db
 | _,_=>bI
mutual
def bDx(g:Tr->Tr)(nm:List Nat):Tr->Tr
 | .mk op arg neg l m name ks=>if op=1\/op=3 then mkL 0 else if op=2 then (if name=nm then mkL 1 else mkL 0) else bGi (g (.mk op arg neg l m name ks)) op arg ks (bCj g nm ks)
def bCj(g:Tr->Tr)(nm:List Nat):List Tr->List Tr
 | []=>[]
 | t::ts=>bDx g nm t::bCj g nm ts
end
def bare:Tr->Tr
 | .mk op arg _ _ _ _ ks=>aG op arg ks
mutual
def smT:Tr->Prop
 | .mk op _ _ _ _ _ ks=>¬aG3 op/\bGj ks
def bGj:List Tr->Prop
 | []=>True
 | t::ts=>smT t/\bGj ts
end
/-! what Derive answers, on both sides -/
def bIk(nm:List Nat)(t:Tr):Tr × Nat:=if ¬bB t then (bI,40) else if ¬fD nm then (bI,41) else if bAy t≠none then (bI,42) else mF (bDq (bDx id nm t))
def bH0(t:Tr):Tr × Nat:=if bB t then (t,0) else (bI,4)
def bIl(nm:List Nat)(t:Tr):Tr × Nat:=if ¬bB t then (bI,40) else if ¬fD nm then (bI,41) else if bAy t≠none then (bI,42) else bH0 (bDq (bDx bare nm t))
end Go.Proofs.Y
/- The text of a tree, parsed: each kind of node; the whole. -/
namespace Go.Proofs.Y
open Go Go.Vc Go.Dig
section
variable {ts:List Tk}
def Rds(ts:List Tk):List (List (Nat × List Nat) × Int)->List Tr->Prop
 | [],[]=>True
 | x::xs,u::us=>Rd ts x.2 x.1 u/\Rds ts xs us
 | _,_=>False
theorem aRq{s:List Nat}{l:List (Nat × List Nat)}(hs:s≠[41]):lL ((0,[41])::l) s:=zP fun e=>hs e.symm
theorem bA7{xs:List (List (Nat × List Nat) × Int)}{l:List (Nat × List Nat)}{s:List Nat}(h1:s≠[41])(h2:s≠[44]):lL (dG false xs++(0,[41])::l) s:=by
 match xs with
 | []=>exact aRq h1
 | x::r=>rw[dG];exact zP fun e=>h2 e.symm
theorem aPg:∀{xs:List (List (Nat × List Nat) × Int)} {us acc:List Tr} {k i:Nat} {l:List (Nat × List Nat)} {cs:List Cn} (b:Bool),Rds ts xs us->acc.length+us.length=k->(b=true↔acc=[])->At ts i (dG b xs++(0,[41])::l)->okC cs->
  ∃cs',okC cs'/\Ps ts (.kidsL k acc.length acc) i cs (.ok (aG 0 0 (acc++us)) (i+(dG b xs).length+1) cs')
 | [],[],acc,k,i,l,cs,b,_,hk,hb,hA,hc=>by
  have e:dG b []=[]:=by cases b<;>rfl
  rw[e] at hA ⊢;refine⟨cs,hc,1,?_⟩;simp at hk;rw[pp,if_neg Aa,rJ hA,bIy]
  rfl
 | x::xs,u::us,acc,k,i,l,cs,b,h,hk,hb,hA,hc=>by
  have hlt:acc.length<k:=by simp at hk;omega
  have hn:∀s,s≠[41]->s≠[44]->lL (dG false xs++(0,[41])::l) s:=fun s a c=>bA7 a c
  have key:∀(i0:Nat) (cs0:List Cn),At ts i0 (x.1++(dG false xs++(0,[41])::l))->okC cs0->∃cs',okC cs'/\∃n,Pr.bnd (pp ts prs n .sum i0 cs0) (fun e i cs=>pp ts prs n (.kidsL k (acc.length+1) (acc++[e])) i cs)=some (.ok (aG 0 0 (acc++u::us)) (i0+x.1.length+(dG false xs).length+1) cs'):=fun i0 cs0 hA0 hc0=>by
   obtain⟨c1,h1,n1,h2⟩:=h.1.all hA0 (hn _ Ae Ae) (hn _ Ae Ae) (hn _ Ae Ae) (hn _ Ae Ae) (hn _ Ae Ae) hc0;obtain⟨c2,h3,n2,h4⟩:=aPg (acc:=acc++[u]) (k:=k) false h.2 (by simp at hk ⊢;omega) ⟨fun e=>(by cases e),fun e=>(by simp at e)⟩ hA0.app h1
   rw[bIo,bJm,bIt] at h4;refine⟨c2,h3,max n1 n2,?_⟩;rw[gR ts prs h2 _ (bLs n1 n2)];exact gR ts prs h4 _ (bLn n1 n2)
  cases b with
  | true=>
   have e0:acc=[]:=hb.1 rfl;subst e0;rw[dG,bIt] at hA;obtain⟨cs',h1,n,h2⟩:=key i cs hA hc;refine⟨cs',h1,n+1,?_⟩;rw[pp,if_pos hlt,if_neg Aq];rw[dG,bIo,<-bKd];exact h2
  | false=>
   have e0:0<acc.length:=List.length_pos_iff.2 fun e=>by have:=hb.2 e;cases this
   rw[dG,bIt,bIt] at hA;have hA':At ts i ((0,[44])::(x.1++(dG false xs++(0,[41])::l))):=hA;obtain⟨cs',h1,n,h2⟩:=key (i+1) cs hA'.head.2 hc;refine⟨cs',h1,n+1,?_⟩;rw[pp,if_pos hlt,if_pos e0,rJ hA'];rw[dG];rw[show i+([sgT 44]++x.1++dG false xs).length+1=i+1+x.1.length+(dG false xs).length+1 by simp;omega]
   exact h2
 | [],_::_,_,_,_,_,_,_,h,_,_,_,_=>h.elim
 | _::_,[],_,_,_,_,_,_,h,_,_,_,_=>h.elim
theorem aPh{xs:List (List (Nat × List Nat) × Int)}{us:List Tr}{k i:Nat}{l:List (Nat × List Nat)}{cs:List Cn}(h:Rds ts xs us)(hk:us.length=k)(hA:At ts i ((0,[40])::(dG true xs++(0,[41])::l)))(hc:okC cs):
  ∃cs',okC cs'/\Ps ts (.kids k) i cs (.ok (aG 0 0 us) (i+1+(dG true xs).length+1) cs'):=by
 obtain⟨cs',h1,n,h2⟩:=aPg (acc:=[]) (k:=k) true h (by simpa using hk) ⟨fun _=>rfl,fun _=>rfl⟩ hA.head.2 hc
 refine⟨cs',h1,n+1,?_⟩;rw[pp,rJ hA];exact h2
theorem uE{ks:List Tr}{n:Int}(h:(ks.length:Int)=n)(hn:n=1):∃k,ks=[k]:=by
 match ks,h with
 | [k],_=>exact⟨k,rfl⟩
 | [],h=>simp at h;omega
 | _::_::r,h=>simp at h;omega
theorem qE{ks:List Tr}{n:Int}(h:(ks.length:Int)=n)(hn:n=2):∃a b,ks=[a,b]:=by
 match ks,h with
 | [a,b],_=>exact⟨a,b,rfl⟩
 | [_],h=>simp at h;omega
 | [],h=>simp at h;omega
 | _::_::_::r,h=>simp at h;omega
theorem bDy{q:Rat}{lev:Int}:Rd ts lev [(1,jB q)] (aI3 (jB q) prs):=by
 refine Rd.ofAtom (fun l=>aAr Ae) fun i l cs hA hc=>?_
 obtain⟨⟨t,e1,e2⟩,-⟩:=At.head (l:=l) hA;unfold kt at e2
 injection e2 with e3 e4
 refine⟨cs,hc,1,?_⟩;rw[pp,e1];show (if t.kind=2 then _ else _)=_
 rw[e3,e4,if_neg Ae,if_neg Ae,if_pos rfl]
 rfl
theorem bDz{n:List Nat}{lev:Int}:Rd ts lev [(2,n)] (gA n):=by
 refine Rd.ofAtom (fun l=>aAr Ae) fun i l cs hA hc=>?_
 obtain⟨⟨t,e1,e2⟩,-⟩:=At.head (l:=l) hA;unfold kt at e2
 injection e2 with e3 e4
 refine⟨cs,hc,1,?_⟩;rw[pp,e1];show (if t.kind=2 then _ else _)=_
 rw[e3,e4,if_pos rfl]
 rfl
theorem bGk{lev:Int}:Rd ts lev [(0,[112,105])] (aG 3 0 []):=by
 refine Rd.ofAtom (fun l=>zP Ae) fun i l cs hA hc=>?_
 obtain⟨⟨t,e1,e2⟩,-⟩:=At.head (l:=l) hA;unfold kt at e2
 injection e2 with e3 e4
 refine⟨cs,hc,1,?_⟩;rw[pp,e1];show (if t.kind=2 then _ else _)=_
 rw[e3,e4,if_neg Ae,if_neg Ae,if_neg Ae,if_pos rfl]
 rfl
theorem bD0{K:List (Nat × List Nat)}{t:Tr}(h:Rd ts 3 K t):Rd ts 3 ([sgT 45]++K) (aG 4 0 [t]):=by
 refine Rd.ofFac (fun h=>absurd h Ae) (fun h=>absurd h Ae) fun i l cs hA h94 hc=>?_
 have hA':At ts i ((0,[45])::(K++l)):=hA;obtain⟨cs',h1,h2⟩:=h.fac Ae (i+1) l cs hA'.head.2 h94 hc;refine⟨cs',h1,?_⟩;have:=Ps.neg hA'.is h2
 rwa [show i+1+K.length=i+([sgT 45]++K).length by simp;omega] at this
theorem aWl{op:Int}{s:List Nat}{l:List (Nat × List Nat)}(h:s≠[opC op]):lL (sgT (opC op)::l) s:=zP fun e=>h e.symm
theorem bD1{op:Int}(ho:op=5\/op=6){K K':List (Nat × List Nat)}{t u:Tr}(h:Rd ts 1 K t)(h':Rd ts 2 K' u):Rd ts 1 (K++[sgT (opC op)]++K') (aG op 0 [t,u]):=by
 refine⟨fun h=>absurd h Ae,fun h=>absurd h Ae,fun h=>absurd h Ae,fun h=>absurd h Ae,fun i l cs hA h94 h42 h47 hc=>?_⟩
 have hA':At ts i (K++(sgT (opC op)::(K'++l))):=by
  have e:K++[sgT (opC op)]++K'++l=K++(sgT (opC op)::(K'++l)):=by simp
  rwa [e] at hA
 have hop:∀s,s≠[43]->s≠[45]->lL (sgT (opC op)::(K'++l)) s:=fun s a b=>aWl (by rcases ho with rfl|rfl<;>assumption)
 obtain⟨c1,g1,g2⟩:=h.sum i _ cs hA' (hop _ Ae Ae) (hop _ Ae Ae) (hop _ Ae Ae) hc;have hA1:=hA'.app;obtain⟨c2,g3,g4⟩:=h'.term Ae _ l c1 hA1.head.2 h94 g1;refine⟨c2,g3,fun r hr=>g2 r ?_⟩
 have e:i+(K++[sgT (opC op)]++K').length=i+K.length+1+K'.length:=by simp;omega
 rw[e] at hr;exact Ps.add ho hA1.is (g4 _ (Ps.termEnd (hA1.head.2.app.no h42) (hA1.head.2.app.no h47))) hr
theorem bD2{op:Int}(ho:op=7\/op=8){K K':List (Nat × List Nat)}{t u:Tr}(h:Rd ts 2 K t)(h':Rd ts 3 K' u):Rd ts 2 (K++[sgT (opC op)]++K') (aG op 0 [t,u]):=by
 refine Rd.ofTerm Ae (fun _ i l cs hA h94 hc=>?_) Ae
 have hA':At ts i (K++(sgT (opC op)::(K'++l))):=by
  have e:K++[sgT (opC op)]++K'++l=K++(sgT (opC op)::(K'++l)):=by simp
  rwa [e] at hA
 have hop:∀s,s≠[42]->s≠[47]->lL (sgT (opC op)::(K'++l)) s:=fun s a b=>aWl (by rcases ho with rfl|rfl<;>assumption)
 obtain⟨c1,g1,g2⟩:=h.term Ae i _ cs hA' (hop _ Ae Ae) hc;have hA1:=hA'.app;obtain⟨c2,g3,g4⟩:=h'.fac Ae _ l c1 hA1.head.2 h94 g1;refine⟨c2,g3,fun r hr=>g2 r ?_⟩
 have e:i+(K++[sgT (opC op)]++K').length=i+K.length+1+K'.length:=by simp;omega
 rw[e] at hr;exact Ps.mul ho hA1.is g4 hr
theorem bD3{arg:Int}(h1:-32<=arg)(h2:arg<=32){K:List (Nat × List Nat)}{t:Tr}(h:Rd ts 5 K t):Rd ts 4 (K++([sgT 94]++itK arg)) (aG 9 arg [t]):=by
 refine Rd.ofFac (fun h=>absurd h Ae) (fun h=>absurd h Ae) fun i l cs hA h94 hc=>?_
 have hm:=hA.no (by rw[bIt];exact h.head Ae _);by_cases hn:arg<0
 .have e:K++([sgT 94]++itK arg)++l=K++((0,[94])::(0,[45])::(1,bN arg.natAbs)::l):=by unfold itK;rw[if_pos hn];simp[sgT]
  rw[e] at hA;obtain⟨c1,g1,g2⟩:=h.atom Ae i _ cs hA hc;have hA1:=hA.app;have hA2:=hA1.head.2;obtain⟨c2,g3,g4⟩:=aM3 (low:=0) (high:=32) hA2.head.2 Aa Aa g1;refine⟨c2,g3,?_⟩;have:=Ps.powN hm g2 hA1.is hA2.is g4;rw[show (-((arg.natAbs:Nat):Int))=arg by omega] at this
  rw[show i+(K++([sgT 94]++itK arg)).length=i+K.length+3 by unfold itK;rw[if_pos hn];simp;omega]
  exact this
 .have e:K++([sgT 94]++itK arg)++l=K++((0,[94])::(1,bN arg.natAbs)::l):=by unfold itK;rw[if_neg hn];simp[sgT]
  rw[e] at hA;obtain⟨c1,g1,g2⟩:=h.atom Ae i _ cs hA hc;have hA1:=hA.app;have hA2:=hA1.head.2;obtain⟨c2,g3,g4⟩:=aM3 (low:=0) (high:=32) hA2 Aa Aa g1;refine⟨c2,g3,?_⟩;have:=Ps.pow hm g2 hA1.is (hA2.no (aAr Ae)) g4;rw[show ((arg.natAbs:Nat):Int)=arg by omega] at this
  rw[show i+(K++([sgT 94]++itK arg)).length=i+K.length+2 by unfold itK;rw[if_neg hn];simp;omega]
  exact this
theorem bA8{arg:Int}(h1:1<=arg)(h2:arg<=8){xs:List (List (Nat × List Nat) × Int)}{u:Tr}{lev:Int}(h:Rds ts xs [u]):Rd ts lev ([(3,aW.getD (arg.toNat-1) []),sgT 40]++dG true xs++[sgT 41]) (aG 11 arg [u]):=by
 refine Rd.ofAtom (fun l=>aAr Ae) fun i l cs hA hc=>?_
 have e:[(3,aW.getD (arg.toNat-1) []),sgT 40]++dG true xs++[sgT 41]++l=(3,aW.getD (arg.toNat-1) [])::((0,[40])::(dG true xs++(0,[41])::l)):=by simp[sgT]
 rw[e] at hA;obtain⟨⟨t,e1,e2⟩,hA1⟩:=hA.head;unfold kt at e2
 injection e2 with e3 e4
 obtain⟨c1,g1,n,g2⟩:=aPh h rfl hA1 hc;refine⟨c1,g1,n+1,?_⟩;have hf:=aI2 (arg.toNat-1) Aa;rw[pp,e1];show (if t.kind=2 then _ else _)=_
 rw[e3,e4,if_neg Ae,if_pos rfl];rw[show ([u]:List Tr).length=1 from rfl] at g2;rw[g2,hf];show some (Pr.ok (aG 11 ((arg.toNat-1+1:Nat):Int) [u]) _ _)=_;rw[show ((arg.toNat-1+1:Nat):Int)=arg by omega]
 rw[show i+([(3,aW.getD (arg.toNat-1) []),sgT 40]++dG true xs++[sgT 41]).length=i+1+1+(dG true xs).length+1 by simp;omega]
theorem xJ{op arg:Int}{w:List Nat}{k:Nat}(hw:(op=12/\arg=0/\w=[97,98,115]/\k=1)\/(op=10/\arg=2/\w=[115,113,114,116]/\k=1)\/(op=13/\arg=0/\w=[109,105,110]/\k=2)\/(op=14/\arg=0/\w=[109,97,120]/\k=2)\/(op=15/\arg=0/\w=[105,102]/\k=3))
  {xs:List (List (Nat × List Nat) × Int)} {us:List Tr} {lev:Int} (h:Rds ts xs us) (hk:us.length=k):Rd ts lev ([(0,w),sgT 40]++dG true xs++[sgT 41]) (aG op arg us):=by
 refine Rd.ofAtom (fun l=>zP (by rcases hw with ⟨-,-,rfl,-⟩|⟨-,-,rfl,-⟩|⟨-,-,rfl,-⟩|⟨-,-,rfl,-⟩|⟨-,-,rfl,-⟩<;>decide)) fun i l cs hA hc=>?_
 have e:[(0,w),sgT 40]++dG true xs++[sgT 41]++l=(0,w)::((0,[40])::(dG true xs++(0,[41])::l)):=by simp[sgT]
 rw[e] at hA;obtain⟨⟨t,e1,e2⟩,hA1⟩:=hA.head;unfold kt at e2
 injection e2 with e3 e4
 obtain⟨c1,g1,n,g2⟩:=aPh h hk hA1 hc;refine⟨c1,g1,n+1,?_⟩;rw[pp,e1];show (if t.kind=2 then _ else _)=_
 rw[e3,e4,if_neg Ae,if_neg Ae,if_neg Ae];rw[show i+([(0,w),sgT 40]++dG true xs++[sgT 41]).length=i+1+1+(dG true xs).length+1 by simp;omega]
 rcases hw with ⟨rfl,rfl,rfl,rfl⟩|⟨rfl,rfl,rfl,rfl⟩|⟨rfl,rfl,rfl,rfl⟩|⟨rfl,rfl,rfl,rfl⟩|⟨rfl,rfl,rfl,rfl⟩
 .rw[if_neg Ae,if_neg Ae,if_pos rfl,g2];rfl
 .rw[if_neg Ae,if_neg Ae,if_neg Ae,if_pos rfl,g2];rfl
 .rw[if_neg Ae,if_neg Ae,if_neg Ae,if_neg Ae,if_pos rfl,g2];rfl
 .rw[if_neg Ae,if_neg Ae,if_neg Ae,if_neg Ae,if_neg Ae,if_pos rfl,g2];rfl
 .rw[if_neg Ae,if_neg Ae,if_neg Ae,if_neg Ae,if_neg Ae,if_neg Ae,if_pos rfl,g2];rfl
theorem bA9{arg:Int}(h1:2<=arg)(h2:arg<=8){x:List (Nat × List Nat) × Int}{u:Tr}{lev:Int}(h:Rd ts x.2 x.1 u):Rd ts lev ([(0,[114,111,111,116]),sgT 40]++itK arg++[sgT 44]++dG true [x]++[sgT 41]) (aG 10 arg [u]):=by
 refine Rd.ofAtom (fun l=>zP Ae) fun i l cs hA hc=>?_
 have hi:itK arg=[(1,bN arg.natAbs)]:=if_neg Aa;have hj:dG true [x]=x.1:=by rw[dG,dG,bIy]
 have e:[(0,[114,111,111,116]),sgT 40]++itK arg++[sgT 44]++dG true [x]++[sgT 41]++l=(0,[114,111,111,116])::((0,[40])::((1,bN arg.natAbs)::((0,[44])::(x.1++(0,[41])::l)))):=by rw[hi,hj];simp[sgT]
 rw[e] at hA;obtain⟨⟨t,e1,e2⟩,hA1⟩:=hA.head;unfold kt at e2
 injection e2 with e3 e4
 have hA2:=hA1.head.2;obtain⟨c1,g1,g2⟩:=aM3 (low:=2) (high:=8) hA2 Aa Aa hc;have hA3:=hA2.head.2;have hA4:=hA3.head.2;obtain⟨c2,g3,n,g4⟩:=h.all hA4 (aRq Ae) (aRq Ae) (aRq Ae) (aRq Ae) (aRq Ae) g1;refine⟨c2,g3,n+1,?_⟩;rw[pp,e1];show (if t.kind=2 then _ else _)=_
 rw[e3,e4,if_neg Ae,if_neg Ae,if_neg Ae,if_neg Ae,if_neg Ae,if_neg Ae,if_neg Ae,if_neg Ae,if_neg Ae,if_neg Ae,if_pos rfl,rJ hA1];show Pr.bnd (some (rC ts 2 8 (i+1+1) cs)) _=_;rw[g2];show Pr.bnd (iJ ts [44] (i+1+1+1) c1) _=_;rw[rJ hA3];show Pr.bnd (pp ts prs n .sum (i+1+1+1+1) c1) _=_;rw[g4];show Pr.bnd (iJ ts [41] (i+1+1+1+1+x.1.length) c2) _=_;rw[rJ hA4.app];show some (Pr.ok (aG 10 (arg.natAbs:Int) [u]) _ _)=_;rw[show ((arg.natAbs:Nat):Int)=arg by omega]
 rw[show i+([(0,[114,111,111,116]),sgT 40]++itK arg++[sgT 44]++dG true [x]++[sgT 41]).length=i+1+1+1+1+x.1.length+1 by rw[hi,hj];simp;omega]
end
theorem Rds.get{ts:List Tk}{ks:List Tr}(h:∀t∈ks,Rd ts (aT t.op) (nQ t) (reT t)):Rds ts (fV ks) (mI ks):=by
 induction ks with
 | nil=>rw[fV,mI];trivial
 | cons t ks ih=>
  rw[fV,mI];exact⟨h t (bIw ..),ih fun u hu=>h u (bIz _ hu)⟩
theorem bBa(ts:List Tk):∀(t:Tr) (d:Nat),okT d t->Rd ts (aT t.op) (nQ t) (reT t):=by
 refine eE fun t ih=>?_
 intro d h;obtain⟨op,arg,neg,l,m,name,ks⟩:=t;rw[okT] at h;obtain⟨-,⟨n1,n2,n3,n4,n5⟩,hk⟩:=h;have kid:∀t∈ks,Rd ts (aT t.op) (nQ t) (reT t):=fun t ht=>by
  obtain⟨i,hi,rfl⟩:=List.mem_iff_getElem.1 ht;have e:=bIq hi;exact ih _ (bD e) (d+1) (iK hk e)
 have kids:=Rds.get kid;rw[nQ,reT];show Rd ts (aT op) _ _;by_cases e:op=1
 .rw[if_pos e];unfold zO;rw[if_pos e];exact bDy
 by_cases e2:op=2
 .rw[if_neg e,if_pos e2];unfold zO;rw[if_neg e,if_pos e2];exact bDz
 rw[if_neg e,if_neg e2];have hl:∀o:Int,op=o->bM o=(ks.length:Int)/\jC o<=arg/\arg<=eZ o:=fun o x=>by subst x;exact⟨n1.symm,n2,n3⟩
 unfold zO;rw[if_neg e,if_neg e2];by_cases e3:op=3
 .subst e3;obtain⟨k1,k2,k3⟩:=hl 3 rfl;rw[show bM 3=0 by decide] at k1
  rw[show jC 3=0 by decide] at k2
  rw[show eZ 3=0 by decide] at k3
  obtain rfl:ks=[]:=bJp.1 Aa;obtain rfl:arg=0:=Aa;rw[if_pos rfl];exact bGk
 rw[if_neg e3];by_cases e4:op=4
 .subst e4;obtain⟨k1,k2,k3⟩:=hl 4 rfl;obtain⟨k,rfl⟩:=uE k1.symm Ae;rw[show jC 4=0 by decide] at k2
  rw[show eZ 4=0 by decide] at k3
  obtain rfl:arg=0:=Aa;rw[if_pos rfl,fV,fV,mI,mI];exact bD0 ((kid k (bIw ..)).place Ae)
 rw[if_neg e4];by_cases e5:op=5\/op=6
 .obtain⟨k1,k2,k3⟩:=hl op rfl;rw[show bM op=2 by rcases e5 with rfl|rfl<;>decide] at k1
  rw[show jC op=0 by rcases e5 with rfl|rfl<;>decide] at k2
  rw[show eZ op=0 by rcases e5 with rfl|rfl<;>decide] at k3
  obtain⟨a,b,rfl⟩:=qE k1.symm rfl;obtain rfl:arg=0:=Aa;rw[if_pos e5,fV,fV,fV,mI,mI,mI];rw[show aT op=1 from if_pos e5];exact bD1 e5 ((kid a (bIw ..)).place Ae) ((kid b (bIz _ (bIw ..))).place Ae)
 rw[if_neg e5];by_cases e7:op=7\/op=8
 .obtain⟨k1,k2,k3⟩:=hl op rfl;rw[show bM op=2 by rcases e7 with rfl|rfl<;>decide] at k1
  rw[show jC op=0 by rcases e7 with rfl|rfl<;>decide] at k2
  rw[show eZ op=0 by rcases e7 with rfl|rfl<;>decide] at k3
  obtain⟨a,b,rfl⟩:=qE k1.symm rfl;obtain rfl:arg=0:=Aa;rw[if_pos e7,fV,fV,fV,mI,mI,mI];rw[show aT op=2 from (if_neg e5).trans (if_pos e7)];exact bD2 e7 ((kid a (bIw ..)).place Ae) ((kid b (bIz _ (bIw ..))).place Ae)
 rw[if_neg e7];by_cases e9:op=9
 .subst e9;obtain⟨k1,k2,k3⟩:=hl 9 rfl;obtain⟨k,rfl⟩:=uE k1.symm Ae;rw[show jC 9=-32 by decide] at k2
  rw[show eZ 9=32 by decide] at k3
  rw[if_pos rfl,fV,fV,mI,mI];exact bD3 k2 k3 ((kid k (bIw ..)).place Ae)
 rw[if_neg e9];have hlev:aT op=5:=by unfold aT;rw[if_neg e5,if_neg e7,if_neg e4,if_neg e9]
 rw[hlev];unfold aJ3;by_cases e10:op=10
 .subst e10;obtain⟨k1,k2,k3⟩:=hl 10 rfl;obtain⟨k,rfl⟩:=uE k1.symm Ae;rw[show jC 10=2 by decide] at k2
  rw[show eZ 10=8 by decide] at k3
  rw[if_pos rfl];by_cases ea:arg=2
  .subst ea;rw[if_pos rfl];exact xJ (.inr (.inl ⟨rfl,rfl,rfl,rfl⟩)) kids (by rw[nR];rfl)
  .rw[if_neg ea,fV,fV,mI,mI];exact bA9 k2 k3 (kid k (bIw ..))
 rw[if_neg e10];by_cases e11:op=11
 .subst e11;obtain⟨k1,k2,k3⟩:=hl 11 rfl;obtain⟨k,rfl⟩:=uE k1.symm Ae;rw[show jC 11=1 by decide] at k2
  rw[show eZ 11=8 by decide] at k3
  rw[if_pos rfl];rw[mI,mI] at kids ⊢;exact bA8 k2 k3 kids
 rw[if_neg e11];have hl0:op=12\/op=13\/op=14\/op=15:=by
  unfold bM at n1
  repeat' split at n1
  all_goals omega
 rcases hl0 with rfl|rfl|rfl|rfl
 .obtain⟨k1,k2,k3⟩:=hl 12 rfl;rw[show bM 12=1 by decide] at k1
  rw[show jC 12=0 by decide] at k2
  rw[show eZ 12=0 by decide] at k3
  obtain rfl:arg=0:=Aa;rw[if_pos rfl];exact xJ (.inl ⟨rfl,rfl,rfl,rfl⟩) kids (by rw[nR];omega)
 .obtain⟨k1,k2,k3⟩:=hl 13 rfl;rw[show bM 13=2 by decide] at k1
  rw[show jC 13=0 by decide] at k2
  rw[show eZ 13=0 by decide] at k3
  obtain rfl:arg=0:=Aa;rw[if_neg Ae,if_pos rfl];exact xJ (.inr (.inr (.inl ⟨rfl,rfl,rfl,rfl⟩))) kids (by rw[nR];omega)
 .obtain⟨k1,k2,k3⟩:=hl 14 rfl;rw[show bM 14=2 by decide] at k1
  rw[show jC 14=0 by decide] at k2
  rw[show eZ 14=0 by decide] at k3
  obtain rfl:arg=0:=Aa;rw[if_neg Ae,if_neg Ae,if_pos rfl];exact xJ (.inr (.inr (.inr (.inl ⟨rfl,rfl,rfl,rfl⟩)))) kids (by rw[nR];omega)
 .obtain⟨k1,k2,k3⟩:=hl 15 rfl;rw[show bM 15=3 by decide] at k1
  rw[show jC 15=0 by decide] at k2
  rw[show eZ 15=0 by decide] at k3
  obtain rfl:arg=0:=Aa;rw[if_neg Ae,if_neg Ae,if_neg Ae,if_pos rfl];exact xJ (.inr (.inr (.inr (.inr ⟨rfl,rfl,rfl,rfl⟩)))) kids (by rw[nR];omega)
end Go.Proofs.Y
/- The text of a tree leads back to the tree; printing again changes nothing: plain. -/
namespace Go.Proofs.Y
open Go Go.Vc Go.Dig
/-! numbers among the tokens -/
def bBb(x:Nat × List Nat):Prop:=x.1=1->∃q,fits q/\0<=q/\x.2=jB q
theorem xK{k:Nat}{s:List Nat}(h:k≠1):bBb (k,s):=fun e=>absurd e h
theorem aJ8{n:Nat}(h:n<=9223372036854775807):bBb (1,bN n):=fun _=>by
 have hf:fits ((n:Int):Rat):=wN n Aa Aa;have h0:(0:Rat)<=((n:Int):Rat):=by
  rw[<-Rat.num_nonneg];show (0:Int)<=n;omega
 refine⟨_,hf,h0,?_⟩;unfold jB;rw[aM2 h0,if_pos (qV n),vD];simp
def cU(l:List (Nat × List Nat)):Prop:=∀x∈l,bBb x
theorem cU.app{a b:List (Nat × List Nat)}(h:cU a)(h':cU b):cU (a++b):=fun x hx=>(bIx.1 hx).elim (h x) (h' x)
theorem cU.one{x:Nat × List Nat}(h:bBb x):cU [x]:=fun y hy=>by rw[bI2.1 hy];exact h
theorem cU.nil:cU []:=fun x hx=>by cases hx
theorem cU.sg(c:Nat):cU [sgT c]:=cU.one (xK Ae)
theorem cU.int{n:Int}(h1:-100<=n)(h2:n<=100):cU (itK n):=by
 unfold itK
 split
 .exact cU.app (a:=[sgT 45]) (cU.sg 45) (cU.one (aJ8 Aa))
 .exact cU.one (aJ8 Aa)
theorem cU.place{x:List (Nat × List Nat) × Int}(h:cU x.1)(low:Int):cU (mL x low):=by
 unfold mL
 split
 .exact h
 .exact cU.app (cU.app (cU.sg 40) h) (cU.sg 41)
theorem cU.join:∀{xs:List (List (Nat × List Nat) × Int)} (b:Bool),(∀x∈xs,cU x.1)->cU (dG b xs)
 | [],b,_=>by cases b<;>exact cU.nil
 | x::xs,true,h=>by
  rw[dG];exact cU.app (h x (bIw ..)) (cU.join false fun y hy=>h y (bIz _ hy))
 | x::xs,false,h=>by
  rw[dG];exact cU.app (cU.app (cU.sg 44) (h x (bIw ..))) (cU.join false fun y hy=>h y (bIz _ hy))
theorem cU.getD{xs:List (List (Nat × List Nat) × Int)}(h:∀x∈xs,cU x.1)(i:Nat):cU (xs.getD i ([],0)).1:=by
 rw[bIp];cases hx:xs[i]? with
 | none=>exact cU.nil
 | some x=>exact h x (bIu hx)
theorem cU.node{op arg:Int}{neg:Bool}{l m name:List Nat}{n:Nat}{xs:List (List (Nat × List Nat) × Int)}(hn:fC op arg neg l m name n)(h:∀x∈xs,cU x.1):cU (zO op arg (aK neg l m) name xs):=by
 obtain⟨n1,n2,n3,n4,n5⟩:=hn;have p:=fun i low=>cU.place (cU.getD h i) low
 have w:∀s:List Nat,cU [(0,s),sgT 40]:=fun s=>cU.app (a:=[(0,s)]) (cU.one (xK Ae)) (cU.sg 40)
 unfold zO;by_cases e:op=1
 .rw[if_pos e];rw[if_pos e] at n5;exact cU.one fun _=>⟨_,n5.1.2.2,n5.2,rfl⟩
 rw[if_neg e];by_cases e:op=2
 .rw[if_pos e];exact cU.one (xK Ae)
 rw[if_neg e];by_cases e:op=3
 .rw[if_pos e];exact cU.one (xK Ae)
 rw[if_neg e];by_cases e:op=4
 .rw[if_pos e];exact cU.app (cU.sg 45) (p 0 3)
 rw[if_neg e];by_cases e:op=5\/op=6
 .rw[if_pos e];exact cU.app (cU.app (p 0 1) (cU.sg _)) (p 1 2)
 rw[if_neg e];by_cases e:op=7\/op=8
 .rw[if_pos e];exact cU.app (cU.app (p 0 2) (cU.sg _)) (p 1 3)
 rw[if_neg e];by_cases e:op=9
 .rw[if_pos e];subst e;rw[show jC 9=-32 by decide] at n2
  rw[show eZ 9=32 by decide] at n3
  exact cU.app (p 0 5) (cU.app (cU.sg 94) (cU.int Aa Aa))
 rw[if_neg e];refine cU.app (cU.app ?_ (cU.join true h)) (cU.sg 41);unfold aJ3;by_cases e:op=10
 .rw[if_pos e];subst e;rw[show jC 10=2 by decide] at n2
  rw[show eZ 10=8 by decide] at n3
  split
  .exact w _
  .exact cU.app (cU.app (w _) (cU.int Aa Aa)) (cU.sg 44)
 rw[if_neg e]
 repeat' split
 .exact cU.app (a:=[(3,_)]) (cU.one (xK Ae)) (cU.sg 40)
 all_goals first
  | exact w _
  | exact cU.nil
mutual
theorem aJ9:∀{d:Nat} {t:Tr},okT d t->cU (nQ t)
 | d,.mk op arg neg l m name ks,h=>by
  rw[okT] at h;rw[nQ];exact cU.node h.2.1 (aEt h.2.2)
theorem aEt:∀{d:Nat} {ts:List Tr},dB d ts->∀x∈fV ts,cU x.1
 | d,[],_=>by rw[fV];intro x hx;cases hx
 | d,t::ts,h=>by
  rw[dB] at h;have h1:=aJ9 h.1;have h2:=aEt h.2;rw[fV];intro x hx;rcases bI7.1 hx with rfl|hx
  .exact h1
  .exact h2 x hx
end
theorem rK:∀{a b:List Nat},(∀x∈a,dgt x=true)->dL (a++b)=a.length+dL b
 | [],b,_=>by simp
 | c::a,b,h=>by
  have h1:=fY.1 (h c (bIw ..));rw[bJ7,dL,if_neg Aa,rK fun x hx=>h x (bIz _ hx),bIs]
  omega
theorem aCn:∀{l:List Nat},(∀c∈l,c=48)->eY l=0
 | [],_=>rfl
 | c::l,h=>by
  rw[aEs,aCn fun x hx=>h x (bIz _ hx),h c (bIw ..)]
  simp
theorem aM4{q:Rat}(h0:0<=q):¬oZ (jB q):=by
 unfold jB oZ;rw[aM2 h0];show ¬(dL (bN (nu q)++_)<(bN (nu q)++_).length/\_);by_cases e:q.den=1
 .rw[if_pos e,rK (fQ _),bIy]
  rintro⟨h,-⟩
  omega
 .rw[if_neg e,rK (fQ _)]
  rintro⟨-,h⟩
  have e2:(bN (nu q)++([47]++bN q.den)).drop ((bN (nu q)).length+dL ([47]++bN q.den)+1)=bN q.den:=by
   rw[show dL ([47]++bN q.den)=0 from if_pos rfl,bJz,<-bMr,bMg]
   rfl
  rw[show (if false=true then [45]++bN (nu q) else bN (nu q))=bN (nu q) from rfl,rK (fQ _),e2] at h
  have:=aCn h;rw[mX] at this;exact q.den_nz this
theorem bD4{ts:List Tk}{cs:List Cn}(h:cU (ts.map kt))(hc:okC cs):pS ts cs=(0,0):=by
 have hq:∀t∈ts,t.kind=1->∃q,fits q/\0<=q/\t.text=jB q:=fun t ht e=>h (kt t) (bJg ht) e
 unfold pS;have h1:ts.find? (fun t=>decide (jD t))=none:=List.find?_eq_none.2 fun t ht=>by
  rw[decide_eq_true_eq]
  rintro⟨a,b⟩
  obtain⟨q,-,h0,e⟩:=hq t ht a;rw[e] at b;exact aM4 h0 b
 have h2:ts.filter (fun t=>decide (gW t))=[]:=List.filter_eq_nil_iff.2 fun t ht=>by
  rw[decide_eq_true_eq]
  rintro⟨a,b⟩
  obtain⟨q,hf,-,e⟩:=hq t ht a;rw[e,aD7 hf] at b;exact b rfl
 have h3:cs.find? (fun c=>decide (vK c))=none:=List.find?_eq_none.2 fun c hm=>by
  rw[decide_eq_true_eq];exact hc c hm
 rw[h1,h2,h3]
/-! the tree that is read back is right -/
mutual
theorem aHe:∀{d:Nat} {t:Tr},okT d t->okT d (reT t)/\key (reT t)=key t
 | d,.mk op arg neg l m name ks,h=>by
  rw[okT] at h;obtain⟨hd,⟨n1,n2,n3,n4,n5⟩,hk⟩:=h;obtain⟨k1,k2⟩:=aPi hk;rw[reT];by_cases e:op=1
  .subst e;rw[if_pos rfl];rw[if_pos rfl] at n5;rw[if_neg Ae] at n4;rw[show jC 1=0 by decide] at n2
   rw[show eZ 1=0 by decide] at n3
   rw[show bM 1=0 by decide] at n1
   obtain rfl:ks=[]:=bJp.1 Aa;obtain rfl:arg=0:=Aa;obtain rfl:=n4;have hf:=n5.1.2.2;unfold aI3 prs;rw[aD7 hf];refine⟨aHa (q:=aK neg l m) hd n5.2 hf,?_⟩;rw[key,key,iX,jO]
  rw[if_neg e];rw[if_neg e] at n5;have hr:aK neg l m=0:=qA n5;have hr0:aK false [] []=0:=qA (show evl 4294967296 []=0 from bH _);by_cases e2:op=2
  .subst e2;rw[if_pos rfl];rw[if_pos rfl] at n4;rw[show jC 2=0 by decide] at n2
   rw[show eZ 2=0 by decide] at n3
   rw[show bM 2=0 by decide] at n1
   obtain rfl:ks=[]:=bJp.1 Aa;obtain rfl:arg=0:=Aa;unfold gA;refine⟨?_,by rw[key,key,iX,hr,hr0]⟩
   rw[okT,dB];exact⟨hd,⟨rfl,Ae,Ae,by rw[if_pos rfl];exact n4,by rw[if_neg Ae];exact bH _⟩,trivial⟩
  .rw[if_neg e2];rw[if_neg e2] at n4;subst n4;unfold aG;refine⟨?_,by rw[key,key,k2,hr,hr0]⟩
   rw[okT];exact⟨hd,⟨by rw[nR];exact n1,n2,n3,by rw[if_neg e2],by rw[if_neg e];exact bH _⟩,k1⟩
theorem aPi:∀{d:Nat} {ts:List Tr},dB d ts->dB d (mI ts)/\iX (mI ts)=iX ts
 | d,[],_=>by rw[mI];exact⟨by rw[dB];trivial,rfl⟩
 | d,t::ts,h=>by
  rw[dB] at h;obtain⟨a1,a2⟩:=aHe h.1;obtain⟨b1,b2⟩:=aPi h.2;rw[mI];exact⟨by rw[dB];exact⟨a1,b1⟩,by rw[iX,iX,a2,b2]⟩
end
theorem aPj{t:Tr}(h:bB t):bB (reT t):=⟨(aHe h.1).1,by rw[aPf (aHe h.1).2];exact h.2⟩
theorem aM5{t:Tr}(h:bB t)(hl:(aE t).length<=4000):jL (aE t)=(lC (reT t),0,0):=by
 obtain⟨ts,h1,h2⟩:=aRp h.1;have hr:=bBa ts t 1 h.1;have hA:At ts 0 (nQ t++[]):=by unfold At;rw[bIy,h2];rfl
 obtain⟨cs,g1,n,g2⟩:=hr.all hA aCm aCm aCm aCm aCm (cs:=[]) (fun c hc=>by cases hc)
 rw[bJc] at g2;have hlen:(nQ t).length=ts.length:=by rw[<-h2,bJb]
 have hp:sP ts prs=.ok (reT t) (nQ t).length cs:=by
  have a:=gR ts prs g2 _ (bLs n (8*(ts.length+1)+4));have b:=gR ts prs (aEd ts prs) _ (bLn n (8*(ts.length+1)+4));rw[a] at b;exact (Option.some.inj b).symm
 have ht:sR ts=.ok (reT t) (nQ t).length cs:=by
  unfold sR;rw[hp];show (if (nQ t).length<ts.length then _ else _)=_
  rw[if_neg Aa]
 have hk:=bD4 (ts:=ts) (cs:=cs) (by rw[h2];exact aJ9 h.1) g1;unfold jL;rw[if_neg Aa,h1];show (if (0:Int)<=-1 then _ else _)=_
 rw[if_neg Ae];show (match sR ts with|.bad j=>_|.ok tr _ cs=>_)=_
 rw[ht];show (if (pS ts cs).1≠0 then _ else _)=_
 rw[hk,if_neg Aq,mF,if_pos (aPj h)]
theorem aWm{t:Tr}(h:bB t):key (lC (reT t))=key t:=by rw[yR (aPj h).1,(aHe h.1).2]
/-! texts depend on iX alone -/
end Go.Proofs.Y
/- Values of trees in which literals stand for variables, of copies, of resolved case distinctions: plain. -/
namespace Go.Proofs.Y
open Go Go.Vc Go.Dig
def dS(vals:List (List Nat × Rat)):List (List Nat × Tr):=vals.map fun b=>(b.1,mkL b.2)
section
variable {vals:List (List Nat × Rat)} (hv:∀b∈vals,fits b.2)
include hv
end
section
variable {vals:List (List Nat × Rat)} (hv:∀b∈vals,fits b.2)
include hv
end
end Go.Proofs.Y