/- Swap: plain. -/
import Derived.Test.YtblecjeceecaaaaGreatDoorE33
import Derived.RangeFuncNested
import Derived.RangeFuncBound
import Derived.RangeFuncCalls
import Derived.RangeFuncLeaves
import Derived.RangeFuncFrom
import Derived.Shelf.Abstract
import Derived.Shelf.RegionOpen
import Derived.OwnWalkIn
import Derived.TacticsInMore
import Derived.LoopNIn
import Derived.LoopIn
import Derived.Test.YtblecjeceecaaaaGreatDoorPW9
set_option linter.all false
set_option maxHeartbeats 2000000
set_option maxRecDepth 100000
namespace Go.Proofs.Y
open Go Go.Vc Go.Dig
def sw(a b n:List Nat):List Nat:=if n=a then b else if n=b then a else n
def byP(a b:List Nat):Tr->Option Tr
 | .mk op arg neg l m name ks=>if op=2 then some (.mk op arg neg l m (sw a b name) ks) else none
def aVt:List (List Nat × Tr)->List Nat->Tr->Tr
 | [],_,t=>t
 | (n,u)::bs,name,t=>if n=name then u else aVt bs name t
def byR(bs:List (List Nat × Tr)):Tr->Option Tr
 | .mk op arg neg l m name ks=>if op=2 then some (aVt bs name (.mk op arg neg l m name ks)) else none
mutual
def swK(a b:List Nat):Kt->Kt
 | .mk op arg q name ks=>if op=2 then .mk op arg q (sw a b name) ks else .mk op arg q name (bF1 a b ks)
def bF1(a b:List Nat):List Kt->List Kt
 | []=>[]
 | t::ts=>swK a b t::bF1 a b ts
end
def swB(a b:List Nat):List (List Nat × Tr):=[(a,gA b),(b,gA a)]
def bIa(a b:List Nat)(t:Tr):Tr × Nat:=if ¬bB t then (bI,40) else if ¬(fD a/\fD b) then (bI,41) else (lC (lK (byP a b) t),0)
def bIb(a b:List Nat)(t:Tr):Tr × Nat:=if ¬bB t then (bI,40) else if ¬(fD a/\fD b) then (bI,41) else (lK (byR (swB a b)) t,0)
def bIc(x y:Tr × Nat):Prop:=x.2=y.2/\(y.2≠0->x.1=bI)/\(y.2=0->okT 1 x.1/\okT 1 y.1/\aVr x.1 y.1=true)
end Go.Proofs.Y
/- Nodes replaced: the program's replaced, Swap; the document's subst, Swap; the law. -/
namespace Go.Vc
open Go Go.Dig
theorem CN.keep0{T:Tab}{f:FuncId}{args:List Value}{h:aA}{k:Value->aA->Vc.Own->Prop}{b:Nat}{p:Obj}{tl:Vc.Own}(hf:T.fn f=true)
  (hk:∀h',h.le h'->h' b=some p->CN T f args h' tl k):CN T f args h ((b,p)::tl) k:=
 CN.keep 0 rfl hf fun h1=>hk _ h1 AE
theorem xF{ws:List Nat}:∀{i:Nat} {ρ:Env} {p q:Env->Prop},(∀ρ',p ρ'->q ρ')->rZ ws i ρ p->rZ ws i ρ q
 | i,[],p,q,f,h=>f _ h
 | i,x::ρ,p,q,f,h=>by
  cases hc:ws.contains i with
  | true=>
   simp only[rZ,hc] at h ⊢;exact fun y=>xF (fun ρ'=>f _) (h y)
  | false=>
   simp only[rZ,hc] at h ⊢;exact xF (fun ρ'=>f _) h
theorem LpN.count{body:iA->Env->aA->Vc.Own->Prop}{ws:List Nat}{Q:iA}{ρ:Env}{h:aA}{L:Vc.Own}(s n:Nat)(P:Nat->Prop)(h0:rd ρ s=.int .i64 ((0:Nat):Int))(p0:P 0)
  (hr:rZ ws 0 ρ fun ρ'=>∀j:Nat,j<=n->rd ρ' s=.int .i64 j->P j->body (fun e ρ'' h'' L''=>match e with|.normal=>ρ''=over ws 0 ρ ρ''/\∃m,m<n-j/\∃j':Nat,m=n-j'/\j'<=n/\rd ρ'' s=.int .i64 j'/\P j'/\h''=h/\L''=L|e=>Q e ρ'' h'' L'') ρ' h L):LpN body ws Q ρ h L:=by
 refine LpN.of (fun r ρ' h' L'=>∃j':Nat,r=n-j'/\j'<=n/\rd ρ' s=.int .i64 j'/\P j'/\h'=h/\L'=L) n ⟨0,rfl,bJe _,h0,p0,rfl,rfl⟩ ?_
 refine xF (fun ρ' x r h' L' hI=>?_) hr
 obtain⟨j,rfl,e2,e3,e4,rfl,rfl⟩:=hI;exact x j e2 e3 e4
theorem LpN.keepL{body:iA->Env->aA->Vc.Own->Prop}{ws:List Nat}{Q:iA}{ρ:Env}{h:aA}{L:Vc.Own}(I:Nat->Env->aA->Prop)(n0:Nat)(h0:I n0 ρ h)
  (hr:rZ ws 0 ρ fun ρ'=>∀r h',h.le h'->I r ρ' h'->body (fun e ρ'' h'' L''=>match e with|.normal=>ρ''=over ws 0 ρ ρ''/\∃m,m<r/\h.le h''/\L''=L/\I m ρ'' h''|e=>Q e ρ'' h'' L'') ρ' h' L):LpN body ws Q ρ h L:=by
 refine LpN.of (fun r ρ' h' L'=>h.le h'/\L'=L/\I r ρ' h') n0 ⟨aA.lr _,rfl,h0⟩ ?_
 refine xF (fun ρ' x r h' L' hI=>?_) hr
 obtain⟨h1,rfl,h3⟩:=hI;exact x r h' h1 h3
theorem Ld.tl3{h:aA}{A F G tl:Vc.Own}{b off:Nat}{k:Value->Prop}{l:List Value}{T:TypeId}{v:Value}(hv:l[off]?=some v)(hk:k v):Ld h (A++(F++(G++(b,.cells l.toArray T (0,0))::tl))) ⟨b,off,none⟩ k:=
 ⟨v,⟨rfl,l.toArray,T,(0,0),.inr Aq,by simpa using hv⟩,hk⟩
theorem LdN.tl3{h:aA}{A F G tl:Vc.Own}{b o m:Nat}{k:Value->Prop}{l:List Value}{T:TypeId}(hl:Nat.ble (o+m) l.length=true)(hk:k (.agg ((l.drop o).take m).toArray)):LdN h (A++(F++(G++(b,.cells l.toArray T (0,0))::tl))) ⟨b,o,none⟩ m k:=
 have hle:=bMv hl
 ⟨(l.drop o).take m,by rw[bI9,bJl];omega,fun i hi=>by
   rw[bQ];refine⟨rfl,l.toArray,T,(0,0),.inr Aq,?_⟩;rw[bJj,bIp,bKn,if_pos hi,bLt,bIq (show o+i<l.length by omega)]
   rfl,hk⟩
theorem Sto.tl3{A F G tl:Vc.Own}{b off:Nat}{vs l:List Value}{T:TypeId}{k:Vc.Own->Prop}(hl:Nat.ble (off+vs.length) l.length=true)(ho:vs.all gT=true)
  (hk:zG vs l off fun l=>k (A++(F++(G++(b,.cells l.toArray T (0,0))::tl)))):Sto (A++(F++(G++(b,.cells l.toArray T (0,0))::tl))) ⟨b,off,none⟩ vs k:=by
 have:=Sto.tl (A:=A) (X:=F++G) (tl:=tl) (b:=b) (off:=off) (vs:=vs) (l:=l) (T:=T) (k:=k) hl ho (by simpa[bIt] using hk)
 simpa[bIt] using this
end Go.Vc
namespace Go.Proofs.Y
open Go Go.Vc Go.Dig
def ByC(fb:FuncId)(cap:List Value)(g:Tr->Option Tr)(h0:aA):Prop:=
 ∀(u:Tr) (d:Nat) (h:aA) (vs:List Value),okT d u->h0.le h->IsE h vs u->Fn0 T fb (.agg vs.toArray::cap) h fun v h'=>∃a b x,v=.tuple #[a,.bool b]/\VE h' a x/\(b=true->g u=some x)/\(b=false->g u=none)
end Go.Proofs.Y
/- Binds in memory; the document's subst; Swap's law. -/
namespace Go.Vc
open Go Go.Dig
theorem Ld.tl{h:aA}{A F tl:Vc.Own}{b off:Nat}{k:Value->Prop}{l:List Value}{T:TypeId}{v:Value}(hv:l[off]?=some v)(hk:k v):Ld h (A++(F++(b,.cells l.toArray T (0,0))::tl)) ⟨b,off,none⟩ k:=
 ⟨v,⟨rfl,l.toArray,T,(0,0),.inr Aq,by simpa using hv⟩,hk⟩
end Go.Vc
namespace Go.Proofs.Y
open Go Go.Vc Go.Dig
def yS(h:aA)(c:Array Value):Nat->List (List Nat × Tr)->Prop
 | _,[]=>True
 | off,(n,t)::bs=>(c[off]?=some (.string (txt n))/\(∀y∈n,y<256)/\∃vs,vs.length=7/\(∀i,i<7->c[off+1+i]?=vs[i]?)/\IsE h vs t)/\yS h c (off+8) bs
structure IsB (h:aA) (s:Sl) (bs:List (List Nat × Tr)):Prop where
 len:s.l=bs.length
 cap:s.l<=s.c
 mem:bs=[]\/∃bl off c T fz,s.a=some ⟨bl,off,none⟩/\h bl=some (.cells c T fz)/\yS h c off bs
attribute [local irreducible] Vc.Fn
theorem RFits_ct(t:Tr)(h:aA)(vs:List Value)(w:IsE h vs t):Fn0 T F.q267 [.agg vs.toArray] h fun v h'=>v=.bool (dec (bB t)):=by
 have hv:=aVq t;have c1:=fun h w=>aVp t h vs 1 300 w Aa Aa
 obtain⟨C,hC⟩:=AH (rV 1 300 t);rw[<-hC] at c1 hv;obtain⟨⟨op,arg,neg,l,m,name,ks⟩,ht⟩:=AH t;obtain⟨a,b,s,hvs,-⟩:=(ht.symm▸w:IsE h vs (.mk op arg neg l m name ks)).isK;subst hvs;refine f0C ok D.q267 rfl ?_;conv=>whnf
 repeat' ((first|(show CN _ _ _ _ _ _;(refine CN.f rfl (c1 _ Ab) (fun v h' hl2 hr=>?_);subst hr))|((first|apply oI.z|apply cI.z))|intro (_:Nat)|refine LdN.o 0 rfl rfl ?_)<;>conv=>whnf)
 refine RN.a ?_
 congr 1
 unfold le;rw[kU];refine decide_eq_decide.2 ?_;rw[<-hv]
theorem Rfits_ct(t:Tr)(h:aA)(vs:List Value)(w:IsE h vs t):Fn0 T F.q202 [.agg vs.toArray] h fun v h'=>v=.bool (dec (bB t)):=by
 have c1:=fun h w=>RFits_ct t h vs w
 obtain⟨⟨op,arg,neg,l,m,name,ks⟩,ht⟩:=AH t;obtain⟨a,b,s,hvs,-⟩:=(ht.symm▸w:IsE h vs (.mk op arg neg l m name ks)).isK;subst hvs;refine f0C ok D.q202 rfl ?_;conv=>whnf
 repeat' ((first|(show CN _ _ _ _ _ _;(refine CN.f rfl (c1 _ Ab) (fun v h' hl2 hr=>?_);subst hr))|((first|apply oI.z|apply cI.z))|intro (_:Nat)|refine LdN.o 0 rfl rfl ?_)<;>conv=>whnf)
 exact RN.a rfl
end Go.Proofs.Y
/- Case distinctions: plain. -/
namespace Go.Proofs.Y
open Go Go.Vc Go.Dig
def aG3(op:Int):Prop:=12<=op/\op<=15
instance (op:Int):Decidable (aG3 op):=by unfold aG3;exact inferInstance
mutual
def bCb:Tr->List (Int × List Nat)
 | .mk op _ _ _ _ name ks=>(op,name)::aVu ks
def aVu:List Tr->List (Int × List Nat)
 | []=>[]
 | t::ts=>bCb t++aVu ts
end
mutual
def bAy:Tr->Option (Tr × Tr × Tr)
 | .mk op arg neg l m name ks=>match bCc (if op=15 then 1 else ks.length) ks with
  | some (i,c,y,z)=>some (c,.mk op arg neg l m name (ks.set i y),.mk op arg neg l m name (ks.set i z))
  | none=>if op=12 then some (ks.getD 0 bI,ks.getD 0 bI,aG 4 0 [ks.getD 0 bI]) else if op=13 then some (aG 6 0 [ks.getD 1 bI,ks.getD 0 bI],ks.getD 0 bI,ks.getD 1 bI)
   else if op=14 then some (aG 6 0 [ks.getD 0 bI,ks.getD 1 bI],ks.getD 0 bI,ks.getD 1 bI) else if op=15 then some (ks.getD 0 bI,ks.getD 1 bI,ks.getD 2 bI) else none
def bCc:Nat->List Tr->Option (Nat × Tr × Tr × Tr)
 | 0,_=>none
 | _+1,[]=>none
 | n+1,t::ts=>match bAy t with
  | some r=>some (0,r)
  | none=>match bCc n ts with
   | some (i,r)=>some (i+1,r)
   | none=>none
end
mutual
def bHo:Tr->Nat
 | .mk op _ _ _ _ _ ks=>(if aG3 op then 1 else 0)+bCd ks
def bCd:List Tr->Nat
 | []=>0
 | t::ts=>bHo t+bCd ts
end
theorem resTs_none:∀{n:Nat} {ts:List Tr},ts.length<=n->(bCc n ts=none↔∀t∈ts,bAy t=none)
 | 0,[],_=>by rw[bCc];simp
 | 0,_::_,h=>by simp at h
 | _+1,[],_=>by rw[bCc];simp
 | n+1,t::ts,h=>by
  have ih:=resTs_none (n:=n) (ts:=ts) (by simpa using h);rw[bCc];cases hr:bAy t with
  | some r=>simp[hr]
  | none=>
   cases hs:bCc n ts with
   | none=>simpa[hr] using ih.1 hs
   | some p=>
    refine⟨fun x=>(by cases x),fun x=>?_⟩
    have:=ih.2 fun u hu=>x u (bIz _ hu)
    rw[hs] at this;cases this
def bIg(op:Int)(ks:List Tr):Option (Tr × Tr × Tr):=
 if op=12 then some (ks.getD 0 bI,ks.getD 0 bI,aG 4 0 [ks.getD 0 bI]) else if op=13 then some (aG 6 0 [ks.getD 1 bI,ks.getD 0 bI],ks.getD 0 bI,ks.getD 1 bI)
   else if op=14 then some (aG 6 0 [ks.getD 0 bI,ks.getD 1 bI],ks.getD 0 bI,ks.getD 1 bI) else if op=15 then some (ks.getD 0 bI,ks.getD 1 bI,ks.getD 2 bI) else none
theorem resT_kid{op arg:Int}{neg:Bool}{l m name:List Nat}{ks:List Tr}{i:Nat}{c y z:Tr}(h:bCc (if op=15 then 1 else ks.length) ks=some (i,c,y,z)):bAy (.mk op arg neg l m name ks)=some (c,.mk op arg neg l m name (ks.set i y),.mk op arg neg l m name (ks.set i z)):=by
 rw[bAy,h]
theorem resT_top{op arg:Int}{neg:Bool}{l m name:List Nat}{ks:List Tr}(h:bCc (if op=15 then 1 else ks.length) ks=none):bAy (.mk op arg neg l m name ks)=bIg op ks:=by
 rw[bAy,h];rfl
theorem topT_none{op:Int}{ks:List Tr}:bIg op ks=none↔¬aG3 op:=by
 unfold bIg aG3;constructor
 .intro h
  repeat' split at h
  all_goals first|(cases h;done)|omega
 .intro h;rw[if_neg Aa,if_neg Aa,if_neg Aa,if_neg Aa]
mutual
theorem resT_none:∀{t:Tr},bAy t=none↔∀x∈bCb t,¬aG3 x.1
 | .mk op arg neg l m name ks=>by
  rw[bCb];by_cases ho:op=15
  .have:bAy (.mk op arg neg l m name ks)≠none:=by
    cases hr:bCc (if op=15 then 1 else ks.length) ks with
    | some p=>obtain⟨i,c,y,z⟩:=p;rw[resT_kid hr];simp
    | none=>rw[resT_top hr];intro x;exact topT_none.1 x (by unfold aG3;omega)
   exact⟨fun x=>absurd x this,fun x=>absurd (show aG3 op by unfold aG3;omega) (x _ (bIw ..))⟩
  .have hk:=resTs_all (ts:=ks);have hn:=resTs_none (n:=if op=15 then 1 else ks.length) (ts:=ks) (by rw[if_neg ho];exact bJf _)
   cases hr:bCc (if op=15 then 1 else ks.length) ks with
   | some p=>
    obtain⟨i,c,y,z⟩:=p;rw[resT_kid hr];refine⟨fun x=>(by cases x),fun x=>?_⟩
    have:=hn.2 (hk.2 fun y hy=>x y (bIz _ hy))
    rw[hr] at this;cases this
   | none=>
    rw[resT_top hr,topT_none];have:=hk.1 (hn.1 hr);exact⟨fun x y hy=>by
      rcases bI7.1 hy with rfl|hy
      .exact x
      .exact this y hy,fun x=>x _ (bIw ..)⟩
theorem resTs_all:∀{ts:List Tr},(∀t∈ts,bAy t=none)↔∀x∈aVu ts,¬aG3 x.1
 | []=>by rw[aVu];simp
 | t::ts=>by
  have h1:=resT_none (t:=t);have h2:=resTs_all (ts:=ts);rw[aVu];constructor
  .intro h x hx;rcases bIx.1 hx with hx|hx
   .exact h1.1 (h t (bIw ..)) x hx
   .exact h2.1 (fun u hu=>h u (bIz _ hu)) x hx
  .intro h u hu;rcases bI7.1 hu with rfl|hu
   .exact h1.2 fun x hx=>h x (bJh _ hx)
   .exact h2.2 (fun x hx=>h x (bJi _ hx)) u hu
end
end Go.Proofs.Y
/- A range over the nodes of a tree: the recursive iterator's contract. -/
namespace Go.Proofs.Y
open Go Go.Vc Go.Dig Go.RowKit Go.Shelf
attribute [local go_sem] Oper.semAt_some
theorem room_of_none{Fe:Fence}(hd:Fe.depth=none)(k:Nat):Fe.room k:=fun d h=>by rw[hd] at h;cases h
theorem roundIn_any{Fe:Fence}(hd:Fe.depth=none){m m':Nat}{P:Program}{l:Nat}{f:FuncId}{tmps:Array Value}{assign body:Code}{w:World}{R:Ending->World->Prop}
  (h:RoundIn Fe m P l f tmps assign body w R):RoundIn Fe m' P l f tmps assign body w R:=⟨h.1,fun c cs _=>h.2 c cs (room_of_none hd _)⟩
theorem yield_any{Fe:Fence}(hd:Fe.depth=none){m:Nat}(m':Nat){P:Program}{l:Nat}{args:Array Value}{W:World}{R:Ending->World->Prop}(h:YieldAt Fe m P l args W R):YieldAt Fe m' P l args W R:=by
 obtain⟨fn,tmps,assign,body,hy,hR⟩:=h;exact⟨fn,tmps,assign,body,hy,roundIn_any hd hR⟩
structure bId (W W':World):Prop where
 os:W'.os=W.os
 tape:W'.tape=W.tape
 output:W'.output=W.output
 size:W.heap.size<=W'.heap.size
 cells:∀(k:Nat) (c:Array Value) (T:TypeId) (fz:Nat × Nat),W.heap[k]?=some (Obj.cells c T fz)->W'.heap[k]?=some (Obj.cells c T fz)
theorem bId.refl(W:World):bId W W:=⟨rfl,rfl,rfl,bJf _,fun _ _ _ _ h=>h⟩
theorem bId.trans{A B C:World}(h:bId A B)(k:bId B C):bId A C:=
 ⟨k.os.trans h.os,k.tape.trans h.tape,k.output.trans h.output,bJd h.size k.size,fun _ _ _ _ x=>k.cells _ _ _ _ (h.cells _ _ _ _ x)⟩
theorem bId.alloc(W:World)(o:Obj):bId W (W.alloc o):=⟨rfl,rfl,rfl,by simp,fun k c T fz h=>by
  have:=(Array.getElem?_eq_some_iff.1 h).1;exact (Below.heap_alloc W o k this).trans h⟩
theorem bId.putObj(W:World)(l:Nat)(o o':Obj)(h:W.heap[l]?=some o)(hc:o.isCells=false):bId W (W.putObj l o'):=
 ⟨rfl,rfl,rfl,by simp[World.putObj],fun k c T fz hk=>by
   have hne:k≠l:=fun e=>by subst e;rw[h] at hk;cases hk;cases hc
   simp only[World.putObj];rw[Array.getElem?_setIfInBounds_ne (Ne.symm hne)];exact hk⟩
theorem bId.cell{W W':World}(k:bId W W'){b i:Nat}{v:Value}{c:Array Value}{T:TypeId}{fz:Nat × Nat}(h:W.heap[b]?=some (Obj.cells c T fz))(hv:c[i]?=some v):W'.cell? ⟨b,i,none⟩=some v:=by
 have:=k.cells _ _ _ _ h;simp[World.cell?,this,hv]
def Him(h:aA)(W:World):Prop:=∀(b:Nat) (c:Array Value) (T:TypeId) (fz:Nat × Nat),h b=some (Obj.cells c T fz)->W.heap[b]?=some (Obj.cells c T fz)
theorem Him.keep{h:aA}{W W':World}(x:Him h W)(k:bId W W'):Him h W':=fun b c T fz e=>k.cells _ _ _ _ (x b c T fz e)
structure aO5 where
 op:Int
 arg:Int
 neg:Bool
 a:Sl
 b:Sl
 name:List Nat
 s:Sl
 lt:(∀y∈name,y<256)/\name.length<=8
def aO5.cells(x:aO5):List Value:=[.int .i64 x.op,.int .i64 x.arg,.bool x.neg,.slice x.a.a x.a.l x.a.c,.slice x.b.a x.b.l x.b.c,.string (txt x.name),.slice x.s.a x.s.l x.s.c]
def aO5.tag(x:aO5):Int × List Nat:=(x.op,x.name)
theorem okT_nm8{d:Nat}{op arg:Int}{neg:Bool}{l m name:List Nat}{ks:List Tr}(hok:okT d (.mk op arg neg l m name ks)):name.length<=8:=by
 rw[okT] at hok;have h:=hok.2.1.2.2.2.1
 split at h
 .exact h.1
 .rw[h];exact bJe _
theorem IsE.nodeV{h:aA}{vs:List Value}{d:Nat}{op arg:Int}{neg:Bool}{l m name:List Nat}{ks:List Tr}(w:IsE h vs (.mk op arg neg l m name ks))(hok:okT d (.mk op arg neg l m name ks)):∃x:aO5,vs=x.cells/\x.tag=(op,name)/\IsK h x.s ks:=by
 obtain⟨a,b,s,rfl,-,-,-,hb,hk⟩:=w.isK;exact⟨⟨op,arg,neg,a,b,name,s,hb,okT_nm8 hok⟩,rfl,rfl,hk⟩
theorem kid_cells{h:aA}{s:Sl}{ks:List Tr}{d:Nat}(hk:IsK h s ks)(hoks:dB d ks)(hne:ks≠[]):∃bl off,s.a=some ⟨bl,off,none⟩/\∀j t,ks[j]?=some t->∃x:aO5,IsE h x.cells t/\∀W,Him h W->∀(i:Nat) v,x.cells[i]?=some v->W.cell? ⟨bl,off+j*7+i,none⟩=some v:=by
 rcases hk.mem with e|⟨bl,off,c,T,fz,e1,e2,e3⟩
 .exact absurd e hne
 .refine⟨bl,off,e1,fun j t ht=>?_⟩
  obtain⟨vs,h1,h2,h3⟩:=kM.get e3 ht;obtain⟨op,arg,neg,l,m,name,ks'⟩:=t;obtain⟨x,rfl,-,-⟩:=h3.nodeV (eF hoks (bIu ht));refine⟨x,h3,fun W hW i v hv=>?_⟩
  have hi7:i<7:=(bIr.1 hv).1;simp[World.cell?,hW _ _ _ _ e2,h2 i hi7,hv]
theorem tagsT_len(t:Tr):(bCb t).length=szT t:=by
 refine eE (P:=fun t=>(bCb t).length=szT t) (fun t ih=>?_) t
 obtain⟨op,arg,neg,l,m,name,ks⟩:=t;have:∀ts:List Tr,(∀u∈ts,(bCb u).length=szT u)->(aVu ts).length=fO ts:=by
  intro ts
  induction ts with
  | nil=>intro _;rw[aVu,fO];rfl
  | cons u us h=>intro g;rw[aVu,fO,bIo,g u (bIw ..),h fun x hx=>g x (bIz _ hx)]
 rw[bCb,szT,bIs,this ks fun u hu=>by
   obtain⟨j,hj,e⟩:=List.mem_iff_getElem.1 hu;exact ih u (bD (j:=j) (by rw[bIq hj,e])),bL5]
theorem tagsTs_append:∀(a b:List Tr),aVu (a++b)=aVu a++aVu b
 | [],b=>by rw[aVu];rfl
 | t::a,b=>by rw[bJ7,aVu,aVu,tagsTs_append a b,bIt]
theorem tagsTs_len(ts:List Tr):(aVu ts).length=fO ts:=by
 induction ts with
 | nil=>rw[aVu,fO];rfl
 | cons u us h=>rw[aVu,fO,bIo,tagsT_len,h]
theorem each_in(Fe:Fence)(hd:Fe.depth=none)(h4:Fe.fn 185)(hro:Fe.round=none)(l N:Nat)(J Jx:List aO5->World->Prop)(h:aA)(hJa:∀pre W o,J pre W->J pre (W.alloc o))
  (hY:∀m pre x W,J pre W->pre.length<N->YieldAt Fe m Tryz.prog l #[.agg x.cells.toArray] W fun e W'=>(e=.returned (.bool true)/\J (pre++[x]) W'/\bId W W')\/(e=.returned (.bool false)/\Jx (pre++[x]) W')):
  ∀(t:Tr) (n d:Nat) (x:aO5) (pre:List aO5) (w:World),IsE h x.cells t->okT d t->Him h w->J pre w->pre.length+szT t<=N->
   CallsIn Fe n Tryz.prog 185 #[.agg x.cells.toArray,.func (.yield l) #[] #[]] w fun e W'=>
    (e=.returned (.bool true)/\(∃xs,xs.map aO5.tag=bCb t/\J (pre++xs) W')/\bId w W')\/(e=.returned (.bool false)/\∃q,q.map aO5.tag <+: bCb t/\Jx (pre++q) W'):=by
 refine eE fun t ih=>?_
 intro n d x pre w wE hok hw hJ hN;obtain⟨op,arg,neg,l',m',name,ks⟩:=t;have hxs:x.tag=(op,name)/\IsK h x.s ks:=by
  obtain⟨a,b,s,e,-,-,-,hb,hk⟩:=wE.isK;unfold aO5.cells at e
  injection e with e1 e
  injection e with e2 e
  injection e with e3 e
  injection e with e4 e
  injection e with e5 e
  injection e with e6 e
  injection e with e7 e
  injection e1 with _ e1
  injection e6 with e6
  have e7:=Sl.val_inj (s:=x.s) (t:=s) e7;exact⟨by unfold aO5.tag;rw[e1,aAg x.lt.1 hb e6],by rw[e7];exact hk⟩
 obtain⟨htg,hk⟩:=hxs;rw[okT] at hok;obtain⟨hd30,hnb,hoks⟩:=hok;have hks:ks.length<=3:=by
  have h1:=hnb.1;have h2:=fS op;omega
 rw[szT] at hN;have hdd:∀k:Nat,(Fe.depth.isSome=true->1<=k):=fun k h=>by rw[hd] at h;cases h
 obtain⟨fn,tmps,assign,body,hy,hR⟩:=hY (n-1) pre x (w.alloc (.cells x.cells.toArray 27)) (hJa _ _ _ hJ) Aa;obtain⟨o1,a1,n1,⟨sa,sl,sc⟩,⟨ta,tl,tc⟩,nm1,⟨ka,kl,kc⟩,lt1⟩:=x;obtain rfl:kl=ks.length:=hk.len;dsimp only[aO5.cells] at hy hR wE ⊢;replace hR:=hR.mono (R':=fun e W2=>(e=.returned (.bool true)/\J (pre++[⟨o1,a1,n1,⟨sa,sl,sc⟩,⟨ta,tl,tc⟩,nm1,⟨ka,ks.length,kc⟩,lt1⟩]) W2/\W2.cell? ⟨w.heap.size,6,none⟩=some (.slice ka ks.length kc)/\bId w W2)\/(e=.returned (.bool false)/\Jx (pre++[⟨o1,a1,n1,⟨sa,sl,sc⟩,⟨ta,tl,tc⟩,nm1,⟨ka,ks.length,kc⟩,lt1⟩]) W2))
  (fun e W2 h=>h.elim (fun ⟨he,hj,hk⟩=>.inl ⟨he,hj,hk.cell (World.alloc_heap_new w _) rfl,(bId.alloc w _).trans hk⟩) .inr)
 have htl:∀xs:List aO5,xs.map aO5.tag=aVu ks->(⟨o1,a1,n1,⟨sa,sl,sc⟩,⟨ta,tl,tc⟩,nm1,⟨ka,ks.length,kc⟩,lt1⟩::xs).map aO5.tag=bCb (.mk op arg neg l' m' name ks):=fun xs e=>by rw[bCb,bJw,e,htg]
 have htp:∀xs:List aO5,xs.map aO5.tag <+: aVu ks->(⟨o1,a1,n1,⟨sa,sl,sc⟩,⟨ta,tl,tc⟩,nm1,⟨ka,ks.length,kc⟩,lt1⟩::xs).map aO5.tag <+: bCb (.mk op arg neg l' m' name ks):=fun xs e=>by
  rw[bCb,bJw,htg];obtain⟨r,hr⟩:=e;exact⟨r,by rw[<-hr];rfl⟩
 obtain⟨X,hX⟩:∃X:aO5,X=⟨o1,a1,n1,⟨sa,sl,sc⟩,⟨ta,tl,tc⟩,nm1,⟨ka,ks.length,kc⟩,lt1⟩:=⟨_,rfl⟩
 rw[<-hX] at hR htl htp;replace hk:IsK h ⟨ka,ks.length,kc⟩ ks:=hk;refine callsIn_of_wp Tryz.func185 rfl h4 ?_ hro;simp only[Tryz.ntmps185,bLp,bIs,bIv,Nat.reduceAdd,Nat.reduceSub,Array.replicate_succ,Array.replicate_zero,List.push_toArray,List.append_toArray,bKc,bJ7]
 gi_wp2_with ((try refine⟨hdd _,?_⟩);refine hR.mono ?_;clear hR;rintro e W2 (⟨rfl,hJ2,hc2,hb2⟩|⟨rfl,hx2⟩))
 .gi_loopw [14] (fun i wr=>∃(k:Nat) (xs:List aO5),k<=ks.length/\i=.int .i64 k/\xs.map aO5.tag=aVu (ks.take k)/\J (pre++X::xs) wr/\bId w wr) (fun i _=>ks.length-(intOf i).toNat)
  case atStart=>exact⟨0,[],bJe _,rfl,by rw[bKq,aVu];rfl,by simpa using hJ2,hb2⟩
  case round=>
   obtain⟨k,xs,hkk,rfl,hxs,hJs,hbs⟩:=hrel;by_cases hlt:k<ks.length
   .obtain⟨t,ht⟩:∃t,ks[k]?=some t:=⟨_,bIq hlt⟩
    obtain⟨bl,off,rfl,hkc⟩:=kid_cells hk hoks (fun e=>by subst e;exact absurd hlt Aq)
    obtain⟨y,hyE,hyc⟩:=hkc k t ht;have hbc:=(congrArg List.length hxs);rw[bJb,tagsTs_len] at hbc;have hsz:fO (ks.take k)+szT t<=fO ks:=by
     have e:=tX ht;have:=congrArg fO e;rw[mD,fO] at this;omega
    have hyw:=hyc wr (hw.keep hbs);obtain⟨o2,a2,n2,⟨sa2,sl2,sc2⟩,⟨ta2,tl2,tc2⟩,nm2,⟨ka2,kl2,kc2⟩,lt2⟩:=y;have k0:wr.cell? ⟨bl,off+k*7,none⟩=_:=hyw 0 _ rfl;have k1:=hyw 1 _ rfl;have k2:=hyw 2 _ rfl;have k3:=hyw 3 _ rfl;have k4:=hyw 4 _ rfl;have k5:=hyw 5 _ rfl;have k6:=hyw 6 _ rfl;dsimp only at k0 k1 k2 k3 k4 k5 k6;have hE':=ih t (bD ht) (n-1) (d+1) ⟨o2,a2,n2,⟨sa2,sl2,sc2⟩,⟨ta2,tl2,tc2⟩,nm2,⟨ka2,kl2,kc2⟩,lt2⟩ (pre++X::xs) (wr.alloc (.cells #[.int .i64 o2,.int .i64 a2,.bool n2,.slice sa2 sl2 sc2,.slice ta2 tl2 tc2,.string (txt nm2),.slice ka2 kl2 kc2] 27)) hyE (eF hoks (bIu ht)) ((hw.keep hbs).keep (bId.alloc _ _)) (hJa _ _ _ hJs) (by rw[bIo,bIs];omega);dsimp only[aO5.cells] at hE';clear hyw hyc
    gi_wp2_with ((try refine⟨hdd _,?_⟩);gi_at_call 185;refine hE'.mono ?_;clear hE';rintro e W3 (⟨rfl,⟨zs,hzs,hJ3⟩,hb3⟩|⟨rfl,q,hq,hx3⟩))
    .go_roundw
     case rel=>exact⟨k+1,xs++zs,Aa,by simp,by rw[bI3,hxs,hzs,aY ht,tagsTs_append,aVu,aVu,bIy],by simpa[bIt] using hJ3,(hbs.trans (bId.alloc _ _)).trans hb3⟩
     case measure=>simp[intOf];omega
    .refine bodyPost_ret (results_tmp rfl _ _ _) rfl ?_;refine .inr ⟨rfl,X::(xs++q),htp _ ?_,by simpa[bIt] using hx3⟩
     obtain⟨r,hr⟩:=hq;have e:=tX ht;refine⟨r++aVu (ks.drop (k+1)),?_⟩;rw[bI3,hxs];conv=>rhs;rw[e,tagsTs_append,aVu,<-hr]
     simp[bIt]
   .obtain rfl:k=ks.length:=Aa;rw[bI4] at hxs
    gi_wp2
    go_ret
    exact .inl ⟨rfl,⟨X::xs,htl _ hxs,hJs⟩,hbs⟩
 .go_ret
  exact .inr ⟨rfl,[X],htp [] (List.nil_prefix),by simpa using hx2⟩
end Go.Proofs.Y
/- Periods: plain. -/
namespace Go.Proofs.Y
open Go Go.Vc Go.Dig
mutual
def bDg(nm:List Nat):Tr->Bool
 | .mk op _ _ _ _ name ks=>decide (op=2/\name=nm) || bCe nm ks
def bCe(nm:List Nat):List Tr->Bool
 | []=>false
 | t::ts=>bDg nm t || bCe nm ts
end
def uN:Tr->Option Rat
 | .mk op _ neg l m _ ks=>if op=1 then some (aK neg l m) else if op=4 then (match ks with
   | .mk op' _ neg' l' m' _ _::_=>if op'=1 then some (-(aK neg' l' m')) else none
   | []=>none) else none
def bF2(t:Tr):Bool:=match uN t with|some q=>decide (q.den=1)|none=>false
def aJm(nm:List Nat):Nat->Tr->Bool
 | 0,_=>false
 | f+1,.mk op _ _ _ _ name ks=>if op=2 then decide (name=nm) else if op=4 then aJm nm f (ks.getD 0 bI) else
   if op=5\/op=6 then (aJm nm f (ks.getD 0 bI) || aJm nm f (ks.getD 1 bI)) && (aJm nm f (ks.getD 0 bI) || !bDg nm (ks.getD 0 bI)) && (aJm nm f (ks.getD 1 bI) || !bDg nm (ks.getD 1 bI)) else
   if op=7 then (bF2 (ks.getD 0 bI) && aJm nm f (ks.getD 1 bI)) || (bF2 (ks.getD 1 bI) && aJm nm f (ks.getD 0 bI)) else false
def bF3(nm:List Nat)(t:Tr):Bool:=aJm nm (szT t) t
mutual
def bHp(nm:List Nat):Tr->Bool
 | .mk op arg _ _ _ name ks=>if op=2 then decide (name≠nm) else if op=11/\3<=arg/\arg<=5/\bF3 nm (ks.getD 0 bI)=true then true else bCf nm ks
def bCf(nm:List Nat):List Tr->Bool
 | []=>true
 | t::ts=>bHp nm t && bCf nm ts
end
mutual
def bHq(nm:List Nat):Bool->Tr->Bool
 | w,.mk op arg _ _ _ name ks=>if op=2/\name=nm then w else bCg nm (if op=11/\3<=arg/\arg<=5 then bF3 nm (ks.getD 0 bI) else w) ks
def bCg(nm:List Nat):Bool->List Tr->Bool
 | _,[]=>true
 | w,t::ts=>bHq nm w t && bCg nm w ts
end
theorem ks_one{op:Int}{ks:List Tr}(h:(ks.length:Int)=bM op)(hk:bM op=1):ks=[ks.getD 0 bI]:=by
 match ks,h with
 | [a],_=>rfl
 | [],h=>simp at h;omega
 | _::_::_,h=>simp at h;omega
end Go.Proofs.Y
/- A range over the nodes of a tree: the iterator's contract; has, smooth. -/
namespace Go.Proofs.Y
open Go Go.Vc Go.Dig Go.RowKit Go.Shelf
attribute [local go_sem] Oper.semAt_some
theorem cells_grown{W W':World}{row:Option Nat}{B:Nat}{c:Array Value}{T:TypeId}{fz:Nat × Nat}(h:W.heap[B]?=some (Obj.cells c T fz))(hg:W.grownBy W' row)(hr:∀r,row=some r->∃o:Obj,W.heap[r]?=some o/\o.isCells=false):W'.heap[B]?=some (Obj.cells c T fz):=
 (hg.block B (Array.getElem?_eq_some_iff.1 h).1 (fun e=>by obtain⟨o,ho,hc⟩:=hr B e.symm;rw[h] at ho;cases ho;cases hc)).trans h
theorem sat_him{h:aA}{L:Vc.Own}{w:World}(s:Sat h L w):Him h w:=fun b c T fz e=>s.imm _ _ e
theorem nodes1_in(Fe:Fence)(hd:Fe.depth=none)(n:Nat)(h1:Fe.fn 184)(h4:Fe.fn 185)(hro:Fe.round=none)(l Bt N d:Nat)(J Jx:List aO5->World->Prop)(h:aA)(t:Tr)(x:aO5)(hJa:∀pre W o,J pre W->J pre (W.alloc o))
  (hY:∀m pre x W,J pre W->pre.length<N->YieldAt Fe m Tryz.prog l #[.agg x.cells.toArray] W fun e W'=>(e=.returned (.bool true)/\J (pre++[x]) W'/\bId W W')\/(e=.returned (.bool false)/\Jx (pre++[x]) W'))
  (w:World) (hB:w.heap[Bt]?=some (Obj.cells x.cells.toArray 27 (0,0))) (wE:IsE h x.cells t) (hok:okT d t) (hw:Him h w) (hN:szT t<=N) (h0:J [] w):
  CallsIn Fe n Tryz.prog 184 #[.func (.yield l) #[] #[],.pointer (some ⟨Bt,0,none⟩)] w fun e W'=>(∃v,e=.returned v)/\((∃xs,xs.map aO5.tag=bCb t/\J xs W')\/(∃q,q.map aO5.tag <+: bCb t/\Jx q W')):=by
 have hdd:∀k:Nat,(Fe.depth.isSome=true->1<=k):=fun k h=>by rw[hd] at h;cases h
 have hp:=each_in Fe hd h4 hro l N J Jx h hJa hY t (n-1) d x [] w wE hok hw h0 (by simpa using hN);have hc:∀(i:Nat) v,x.cells[i]?=some v->w.cell? ⟨Bt,i,none⟩=some v:=fun i v hv=>by simp[World.cell?,hB,hv]
 obtain⟨o1,a1,n1,⟨sa,sl,sc⟩,⟨ta,tl,tc⟩,nm1,⟨ka,kl,kc⟩,lt1⟩:=x;have k0:=hc 0 _ rfl;have k1:=hc 1 _ rfl;have k2:=hc 2 _ rfl;have k3:=hc 3 _ rfl;have k4:=hc 4 _ rfl;have k5:=hc 5 _ rfl;have k6:=hc 6 _ rfl;dsimp only at k0 k1 k2 k3 k4 k5 k6;dsimp only[aO5.cells] at hp;simp only[bKc] at hp;refine callsIn_of_wp Tryz.func184 rfl h1 ?_ hro;simp only[Tryz.ntmps184,bLp,bIs,bIv,Nat.reduceAdd,Nat.reduceSub,Array.replicate_succ,Array.replicate_zero,List.push_toArray,List.append_toArray,bKc,bJ7]
 gi_wp2_with ((try refine⟨hdd _,?_⟩);gi_at_call 185;refine hp.mono ?_;clear hp;rintro e W1 (⟨rfl,⟨xs,hxs,hJ1⟩,-⟩|⟨rfl,q,hq,hx⟩))
 .go_end0
  exact⟨⟨_,rfl⟩,.inl ⟨_,hxs,hJ1⟩⟩
 .go_end0
  exact⟨⟨_,rfl⟩,.inr ⟨_,hq,hx⟩⟩
theorem nodes_in(Fe:Fence)(n:Nat)(h4:Fe.fn 113)(hro:Fe.round=none)(c0 c1 c2 c3 c4 c5 c6:Value)(w:World):
  CallsIn Fe n Tryz.prog 113 #[.agg #[c0,c1,c2,c3,c4,c5,c6]] w fun e w'=>e=.returned (.func (.func 184) #[] #[.pointer (some ⟨w.heap.size,0,none⟩)])/\w'=w.alloc (.cells #[c0,c1,c2,c3,c4,c5,c6] 27):=by
 refine callsIn_of_wp Tryz.func113 rfl h4 ?_ hro;simp only[Tryz.ntmps113,bLp,bIs,bIv,Nat.reduceAdd,Nat.reduceSub,Array.replicate_succ,Array.replicate_zero,List.push_toArray,List.append_toArray,bKc,bJ7]
 gi_wp2
 go_ret
 exact⟨rfl,rfl⟩
theorem nodes_stops(Fe:Fence)(hd:Fe.depth=none)(n:Nat)(h1:Fe.fn 184)(h4:Fe.fn 185)(hro:Fe.round=none)(Bt d:Nat)(h:aA)(t:Tr)(x:aO5)(w:World)
  (hB:w.heap[Bt]?=some (Obj.cells x.cells.toArray 27 (0,0))) (wE:IsE h x.cells t) (hok:okT d t) (hw:Him h w):
  SeqStopsK Fe n Tryz.prog 184 #[.pointer (some ⟨Bt,0,none⟩)] (fun x:aO5=>#[.agg x.cells.toArray]) bId (fun xs=>xs.map aO5.tag=bCb t) (fun pre=>pre.map aO5.tag <+: bCb t) (szT t) w:=fun l J Jx W hW hJ hJx hY h0=>by
 have hlt:=(Array.getElem?_eq_some_iff.1 hB).1;exact nodes1_in Fe hd n h1 h4 hro l Bt (szT t) d J Jx h t x (fun pre W1 o hj=>hJ pre W1 (W1.alloc o) none hj (World.grownBy_alloc W1 o none) (fun r e=>by cases e))
  (fun m pre x W1 hj hl=>yield_any hd m (hY pre x W1 hj hl)) W ((hW.block _ hlt).trans hB) wE hok (fun b c T fz e=>(hW.block _ (Array.getElem?_eq_some_iff.1 (hw b c T fz e)).1).trans (hw b c T fz e)) (bJf _) h0
theorem keepC_t{A B C:World}(h:bId A B)(k:bId B C):bId A C:=h.trans k
theorem rough_in(Fe:Fence)(n:Nat)(h4:Fe.fn 114)(hro:Fe.round=none)(op:Int)(w:World):
  CallsIn Fe n Tryz.prog 114 #[.int .i64 op] w fun e w'=>(aG3 op/\e=.returned (.bool true)\/¬aG3 op/\e=.returned (.bool false))/\w'=w:=by
 refine callsIn_of_wp Tryz.func114 rfl h4 ?_ hro;simp only[Tryz.ntmps114,bLp,bIs,bIv,Nat.reduceAdd,Nat.reduceSub,Array.replicate_succ,Array.replicate_zero,List.push_toArray,List.append_toArray,bKc,bJ7]
 gi_wp2
 all_goals go_ret
 .rename_i h1;by_cases h2:op<=15
  .exact⟨.inl ⟨⟨h1,h2⟩,by rw[decide_eq_true h2];rfl⟩,rfl⟩
  .exact⟨.inr ⟨fun x=>h2 x.2,by rw[decide_eq_false h2];rfl⟩,rfl⟩
 .rename_i h1;exact⟨.inr ⟨fun x=>absurd x.1 Aa,rfl⟩,rfl⟩
theorem smooth_in(Fe:Fence)(hd:Fe.depth=none)(hro:Fe.round=none)(hf:∀f,Fe.fn f)(t:Tr)(x:aO5)(h:aA)(w:World)(wE:IsE h x.cells t)(hok:okT 1 t)(hw:Him h w):
  CallsIn Fe 3 Tryz.prog 63 #[.agg x.cells.toArray] w fun e W'=>((∀y∈bCb t,¬aG3 y.1)/\e=.returned (.bool true)\/¬(∀y∈bCb t,¬aG3 y.1)/\e=.returned (.bool false))/\Below w.heap.size w W':=by
 have hdd:∀k:Nat,(Fe.depth.isSome=true->1<=k):=fun k h=>by rw[hd] at h;cases h
 have hst:=nodes_stops Fe hd 2 (hf _) (hf _) hro (w.heap.size+1+1) 1 h t x;have hop:=fun (pre:List aO5) (e:pre.map aO5.tag <+: bCb t) (z:∃y∈pre,aG3 y.op)=>(show ¬∀y∈bCb t,¬aG3 y.1 from fun g=>by
   obtain⟨y,hy,h1⟩:=z;obtain⟨r,hr⟩:=e;exact g y.tag (by rw[<-hr];exact bJh _ (bJg hy)) h1)
 have hon:=fun (pre:List aO5) (e:pre.map aO5.tag=bCb t) (z:∀y∈pre,¬aG3 y.op)=>(show ∀y∈bCb t,¬aG3 y.1 from fun y hy=>by
   rw[<-e] at hy;obtain⟨y',hy',rfl⟩:=List.mem_map.1 hy;exact z y' hy')
 obtain⟨o1,a1,n1,⟨sa,sl,sc⟩,⟨ta,tl,tc⟩,nm1,⟨ka,kl,kc⟩,lt1⟩:=x;dsimp only[aO5.cells] at hst ⊢;refine callsIn_of_wp_marks Tryz.func63 rfl (hf _) ?_ hro;simp only[Tryz.ntmps63,bLp,bIs,bIv,Nat.reduceAdd,Nat.reduceSub,Array.replicate_succ,Array.replicate_zero,List.push_toArray,List.append_toArray,bKc,bJ7]
 gi_wp2_with ((try refine⟨hdd _,?_⟩);gi_at_call 113;refine (nodes_in Fe _ (hf _) hro _ _ _ _ _ _ _ _).mono ?_;rintro e w' ⟨rfl,rfl⟩)
 generalize hCE:Obj.cells #[Value.int IntKind.i64 o1,Value.int IntKind.i64 a1,Value.bool n1,Value.slice sa sl sc,Value.slice ta tl tc,Value.string (txt nm1),Value.slice ka kl kc] 27=CE at *
 have bR:=(Boxed.new (w.alloc CE) 4 (.bool false)).alloc CE;have bE:=World.alloc_heap_new ((w.alloc CE).alloc (.cells #[.bool false] 4)) CE;have hB0:Below w.heap.size w (((w.alloc CE).alloc (.cells #[.bool false] 4)).alloc CE):=(((Below.refl _ w).alloc (bJf _) _).alloc Aq _).alloc Ar _;have hK0:bId w (((w.alloc CE).alloc (.cells #[.bool false] 4)).alloc CE):=((bId.alloc w _).trans (bId.alloc _ _)).trans (bId.alloc _ _);have hsz:(((w.alloc CE).alloc (.cells #[.bool false] 4)).alloc CE).heap.size=w.heap.size+3:=by simp
 simp only[World.size_alloc] at bR bE;obtain⟨W0,hW0⟩:∃W0,(((w.alloc CE).alloc (.cells #[.bool false] 4)).alloc CE)=W0:=⟨_,rfl⟩
 rw[hW0] at bR bE hB0 hK0 hsz ⊢;clear hW0;subst hCE;refine wpIn_rangeFunc_ownH hro Ae (gf:=184) (lb:=#[.pointer (some ⟨w.heap.size+1+1,0,none⟩)]) rfl (hf _) (enters_of Tryz.func184 (by kernel_rfl) rfl)
  (hst W0 bE wE hok (hw.keep hK0)) keepC_t (fun W l o o' hl hob hc _=>bId.putObj W l o o' hob hc) (Below.refl _ _) (fun _=>rfl)
  (fun pre W=>(Boxed W (w.heap.size+1) 4 (.bool false)/\Below w.heap.size w W)/\∀y∈pre,¬aG3 y.op)
  (fun c pre W=>(Boxed W (w.heap.size+1) 4 (.bool false)/\Below w.heap.size w W)/\(c=.ret/\∃y∈pre,aG3 y.op))
  (OwnFrom.and (OwnFrom.and (Own.from (boxed_own _ _ (fun _=>_)) _) (ownFrom_below (bJf _) Aa)) (fun s W W' row hs _ _=>hs))
  (fun c=>OwnFrom.and (OwnFrom.and (Own.from (boxed_own _ _ (fun _=>_)) _) (ownFrom_below (bJf _) Aa)) (fun s W W' row hs _ _=>hs))
  ⟨⟨bR,hB0⟩,by simp⟩
  (fun x a' W=>∃Bx,w.heap.size+1<Bx/\W.heap[Bx]?=some (Obj.cells x.cells.toArray 27 (0,0))/\a'={ tmps:=#[.agg #[Value.int IntKind.i64 o1,Value.int IntKind.i64 a1,Value.bool n1,Value.slice sa sl sc,Value.slice ta tl tc,Value.string (txt nm1),Value.slice ka kl kc],.pointer (some ⟨w.heap.size,0,none⟩),.pointer (some ⟨w.heap.size+1,0,none⟩),.pointer (some ⟨Bx,0,none⟩),.agg #[Value.int IntKind.i64 o1,Value.int IntKind.i64 a1,Value.bool n1,Value.slice sa sl sc,Value.slice ta tl tc,Value.string (txt nm1),Value.slice ka kl kc],.func (.func 184) #[] #[.pointer (some ⟨w.heap.size+1+1,0,none⟩)],.agg x.cells.toArray,undef,undef,undef],defers:=[] })
  (fun x a' _ X Y row hs hg hr=>by obtain⟨Bx,h1,h2,h3⟩:=hs;exact⟨Bx,h1,cells_grown h2 hg (fun r e=>(hr r e).2),h3⟩)
  ?assign ?body ?done ?stop
 case assign=>
  rintro l pre ⟨o2,a2,n2,⟨sa2,sl2,sc2⟩,⟨ta2,tl2,tc2⟩,nm2,⟨ka2,kl2,kc2⟩,lt2⟩ W K ⟨⟨b2,hB1⟩,hp⟩ hK
  dsimp only[aO5.cells] at hK ⊢
  gi_wp2
  exact hK _ _ ((KeepsOthers.alloc _ _).from _) (bId.alloc _ _) ⟨⟨b2.alloc _,hB1.alloc hB1.size _⟩,hp⟩ ⟨W.heap.size,b2.lt,World.alloc_heap_new W _,rfl⟩
 case body=>
  rintro l pre ⟨o2,a2,n2,⟨sa2,sl2,sc2⟩,⟨ta2,tl2,tc2⟩,nm2,⟨ka2,kl2,kc2⟩,lt2⟩ a' W hl ⟨r,hr⟩ ⟨⟨b2,hB1⟩,hp⟩ ⟨Bx,hBx,bX,rfl⟩ hlt
  have c2:=b2.cell;have f2:=b2.frozen;have hc:∀(i:Nat) v,(aO5.cells ⟨o2,a2,n2,⟨sa2,sl2,sc2⟩,⟨ta2,tl2,tc2⟩,nm2,⟨ka2,kl2,kc2⟩,lt2⟩)[i]?=some v->W.cell? ⟨Bx,i,none⟩=some v:=fun i v hv=>by simp[World.cell?,bX,hv]
  have k0:=hc 0 _ rfl;dsimp only at k0;dsimp only[aO5.cells]
  gi_wp2_with ((try refine⟨hdd _,?_⟩);gi_at_call 114;refine (CallsIn.inRound l (rough_in Fe _ (hf _) hro _ _)).mono ?_;rintro e w' ⟨⟨h1,rfl⟩|⟨h1,rfl⟩,rfl⟩)
  .exact⟨(KeepsOthers.setCell _ _ _).from _,⟨b2.set _,(Below.refl w.heap.size w').setCell (p:=⟨w.heap.size+1,0,none⟩) (by show w.heap.size<=w.heap.size+1;omega) _ |> hB1.trans⟩,rfl,_,bJi _ (bI2.2 rfl),h1⟩
  .refine⟨(KeepsOthers.refl _).from _,bId.refl _,⟨b2,hB1⟩,fun y hy z=>?_⟩
   rcases bIx.1 hy with hy|hy
   .exact hp y hy z
   .obtain rfl:=bI2.1 hy;exact h1 z
 case done=>
  rintro D xs W hD hxs ⟨⟨b2,hB1⟩,hp⟩ hK
  have c2:=b2.cell;have f2:=b2.frozen
  gi_wp2
  have hK':=(KeepsOthers.setCell W ⟨w.heap.size+1,0,none⟩ (.bool true)).same D _ hK rfl;refine⟨by simp,.inl ⟨_,_,rfl,run_takeDeferred hK',?_⟩⟩
  have hc5:=((b2.set (.bool true)).kept (grownBy_putObj' _ D (.deferred none)) (fun e=>by injection e with e;omega)).cell
  refine⟨.bool true,?_,.inl ⟨hon xs hxs hp,rfl⟩,?_⟩
  .simp[results,Tryz.f63,go_sem,hc5]
  .exact (hB1.trans ((Below.refl w.heap.size W).setCell (p:=⟨w.heap.size+1,0,none⟩) (by show w.heap.size<=w.heap.size+1;omega) _)).trans (belowK_b (w:=w) (bJf _) _ D _ _ Aa hK' rfl rfl)
 case stop=>
  rintro D c pre W hD hpre ⟨⟨b2,hB1⟩,rfl,hin⟩ hK
  gi_wp2
  refine⟨by simp,.inl ⟨_,_,rfl,run_takeDeferred hK,?_⟩⟩
  have hc5:=(b2.kept (grownBy_putObj' _ D (.deferred none)) (fun e=>by injection e with e;omega)).cell
  refine⟨.bool false,?_,.inr ⟨hop pre hpre hin,rfl⟩,?_⟩
  .simp[results,Tryz.f63,go_sem,hc5]
  .exact hB1.trans (belowK_b (w:=w) (bJf _) _ D _ _ Aa hK rfl rfl)
theorem smooth_ct(t:Tr)(h:aA)(vs:List Value)(w:IsE h vs t)(hok:okT 1 t):Fn0 T F.q63 [.agg vs.toArray] h fun v h'=>h'=h/\v=.bool (dec (bAy t=none)):=by
 refine Fn0.make fun w0 s=>?_
 have hr:=resT_none (t:=t);obtain⟨op,arg,neg,l,m,name,ks⟩:=t;obtain⟨x,rfl,-,-⟩:=w.nodeV hok;refine ((callsIn_wide (n:=3)).1 (smooth_in Fence.wide rfl rfl (fun _=>trivial) _ x h w0 w hok (sat_him s))).mono fun e w' he=>?_
 obtain⟨⟨h1,rfl⟩|⟨h1,rfl⟩,hb⟩:=he
 .exact⟨h,[],Inv.below s hb,rfl,rfl,by rw[aX (hr.2 h1)]⟩
 .exact⟨h,[],Inv.below s hb,rfl,rfl,by rw[aH fun z=>h1 (hr.1 z)]⟩
end Go.Proofs.Y
/- Size and Smooth on both sides. -/
namespace Go.Proofs.Y
open Go Go.Vc Go.Dig
def bIh(t:Tr):Nat × Nat:=if bB t then (szT t,0) else (0,40)
def smX(t:Tr):Bool × Nat:=if bB t then (dec (bAy t=none),0) else (false,40)
end Go.Proofs.Y
/- Rows of kids copied, cut and turned; with, replaced (one kid). -/
namespace Go.Vc
open Go Go.Dig
theorem App.zero{T:Tab}{e:TypeId}{size bytes:Nat}{s:Value}{h:aA}{L:Vc.Own}{k:Value->aA->Vc.Own->Prop}{z:List Value}{n:Nat}{xs:List Value}
  {c:Nat} {ad:Addr} (hi:T.inf e=some (z,bytes)) (g:aF e size s n xs L) (hk:k s h L):App T e size bytes s (.slice (some ad) 0 c) h L k:=by
 refine⟨fun ok o ρ K Q w0 h0 L0 w ty cc hop hty hca hargs ht hsz2 hd inv hout hK=>?_⟩
 obtain⟨d,hd1,hd2⟩:=hd;obtain⟨i,zv,h1,h2,h3,h4,h5⟩:=ok.inf _ _ _ hi;have hexec:∀r,(Builtin.append_ #[cc.argTypes.getD 0 0,cc.argTypes.getD 0 0] o.type #[s,.slice (some ad) 0 c]).run T.prog w=r->(execOp ρ.eval o).run T.prog w=r.andThen fun v w=>.ok (.value v) w:=by
  intro r hr;have he:cc.argTypes=#[cc.argTypes.getD 0 0,cc.argTypes.getD 1 0]:=by
   apply Array.ext
   .simp[hsz2]
   .intro j hj1 hj2;rw[hsz2] at hj1
    match j,hj1 with
    | 0,_=>simp[Array.getD,hsz2]
    | 1,_=>simp[Array.getD,hsz2]
  rw[<-hr,<-jH ht hd1 hd2,<-he];simp only[execOp,hop,resolve,hca,invoke,builtin,bJy,bJ2,bJx,hargs]
 refine .inl (bU (hexec (.ok s w) ?_) (hK _ _ _ _ inv hk))
 generalize cc.argTypes.getD 0 0=t at ht ⊢
 obtain⟨gl,⟨rfl,rfl⟩|⟨j,b,cap,zs,rfl,hj,hnc,hlen⟩⟩:=g
 .simp[Builtin.append_,run_underlying ht,sizeOf,typeInfo,h1,Builtin.lenOf,Builtin.firstCells,loadCells,loadCellsFrom]
 .simp[Builtin.append_,run_underlying ht,sizeOf,typeInfo,h1,Builtin.lenOf,Builtin.firstCells,loadCells,loadCellsFrom,hnc,storeCells]
theorem aF.up{e:TypeId}{size:Nat}{v:Value}{n:Nat}{xs:List Value}{F:Vc.Own}(g:aF e size v n xs F)(A tl:Vc.Own):aF e size v n xs (A++(F++tl)):=by
 obtain⟨g1,⟨rfl,rfl⟩|⟨i,b,cap,zs,rfl,h2,h3,h4⟩⟩:=g
 .exact⟨g1,.inl ⟨rfl,rfl⟩⟩
 .have hlt:=(bIr.1 h2).1;exact⟨g1,.inr ⟨A.length+i,b,cap,zs,rfl,by rw[bJa Aa,bKf,bI0 hlt];exact h2,h3,h4⟩⟩
end Go.Vc
namespace Go.Proofs.Y
open Go Go.Vc Go.Dig
theorem kM.kc{h:aA}{c:Array Value}:∀{ts:List Tr} {off:Nat},kM h c off ts->∃xs,KC h xs ts/\∀(j:Nat) v,xs[j]?=some v->c[off+j]?=some v
 | [],_,_=>⟨[],rfl,fun j v h=>by simp at h⟩
 | t::ts,off,w=>by
  rw[kM] at w;obtain⟨⟨vs,h1,h2,h3⟩,r⟩:=w;obtain⟨ys,k,hy⟩:=kM.kc r;refine⟨vs++ys,⟨vs,ys,rfl,h1,h3,k⟩,fun j v hv=>?_⟩
  by_cases hj:j<7
  .rw[bI0 Aa] at hv;rw[h2 j hj,hv]
  .rw[bJa Aa,h1] at hv;have:=hy _ _ hv;rw[show off+7+(j-7)=off+j by omega] at this
   exact this
theorem KC.one{h:aA}:∀{ts:List Tr} {xs:List Value},KC h xs ts->xs.all gT=true
 | [],xs,k=>by obtain rfl:xs=[]:=k;rfl
 | .mk op arg neg l m name ks::ts,xs,⟨vs,ys,e,l1,w,r⟩=>by
  obtain⟨a,b,s,rfl,-⟩:=w.isK;rw[e,List.all_append,KC.one r];rfl
theorem KC.app{h:aA}:∀{ts us:List Tr} {xs ys:List Value},KC h xs ts->KC h ys us->KC h (xs++ys) (ts++us)
 | [],us,xs,ys,k,k'=>by obtain rfl:xs=[]:=k;exact k'
 | t::ts,us,xs,ys,⟨vs,zs,e,l1,w,r⟩,k'=>⟨vs,zs++ys,by rw[e,bIt],l1,w,KC.app r k'⟩
theorem App.kids{h0 h:aA}{s:Value}{n:Nat}{xs:List Value}{A F tl:Vc.Own}{t:Sl}{ks:List Tr}{k:Value->aA->Vc.Own->Prop}{z:List Value}{e:TypeId}(hi:T.inf e=some (z,112))(hz:z.length=7)(g:aF e 7 s n xs F)(w:IsK h0 t ks)(hle:h0.le h)(hn:n+ks.length<=1048576)
  (hk:∀v' F' ys,aF e 7 v' (n+ks.length) (xs++ys) F'->KC h ys ks->k v' h (A++(F'++tl))):App T e 7 112 s t.val h (A++(F++tl)) k:=by
 obtain⟨ta,tl',tc⟩:=t;have hl:tl'=ks.length:=w.len;subst hl;by_cases hne:ks=[]
 .subst hne;have:=hk s F [] (by simpa using g) rfl;cases ta with
  | none=>exact App.nil hi (g.up A tl) this
  | some ad=>exact App.zero hi (g.up A tl) this
 .rcases w.mem with e0|⟨bl,off,c,T0,fz,e1,e2,e3⟩
  .exact absurd e0 hne
  .obtain⟨ys,kc,hy⟩:=e3.kc;have e1':ta=some ⟨bl,off,none⟩:=e1;subst e1';refine App.growK hi hz g ⟨bl,off,none⟩ ks.length tc ys kc.len (fun j hj=>?_) kc.one (List.length_pos_iff.2 hne) Aa Aa Ae (fun v' F' g'=>hk v' F' ys g' (kc.mono hle))
   rw[bQ];refine Has.imm (hle _ _ e2) (hy j _ ?_);rw[bIp,bIq hj];rfl
end Go.Proofs.Y
/- The names of a tree's variables in ascending order: plain words, and the document's side. -/
namespace Go.Dig
open Go
def b8(n:List Nat):List UInt8:=n.map UInt8.ofNat
def bF4:List (List UInt8)->List UInt8->List (List UInt8)
 | [],x=>[x]
 | y::ys,x=>if y<x then y::bF4 ys x else if y=x then y::ys else x::y::ys
abbrev Srt (xs:List (List UInt8)):Prop:=xs.Pairwise (· < ·)
def bF5(l:List (Int × List Nat)):List (List UInt8):=(l.filter fun x=>decide (x.1=2)).map fun x=>b8 x.2
end Go.Dig
namespace Go.Vc
open Go Go.Dig
def sv(x:List UInt8):Value:=.string ⟨x.toArray⟩
end Go.Vc
namespace Go.Proofs.Y
open Go Go.Vc Go.Dig
def bHr(t:Tr):List (List UInt8):=(bF5 (bCb t)).foldl bF4 []
end Go.Proofs.Y
/- 'clear' of a slice of one's own row; terms like zero taken out of a row: IndexFunc, DeleteFunc. -/
namespace Go.Vc
open Go Go.Dig
theorem Ext.clear{T:Tab}{c:Call}{h:aA}{L:Own}{k:Value->aA->Own->Prop}{t e:TypeId}{z:List Value}{bytes b off n cap:Nat}{X M Y:List Value}{ET:TypeId}(i:Nat)(hc:c.callee=.builtin .clear)(hat:c.argTypes=#[t])(ht:T.und t=some (.slice e))(hi:T.inf e=some (z,bytes))(hz:z.all gT=true)
  (hn:L[i]?=some (b,.cells (X++M++Y).toArray ET (0,0))) (hoff:off=X.length) (hM:M.length=n*z.length) (hk:∀Z:List Value,Z.length=M.length->k (.tuple #[]) h (L.set i (b,.cells (X++Z++Y).toArray ET (0,0)))):Ext T (.call c) c.args.toList [.slice (some ⟨b,off,none⟩) n cap] h L k:=by
 refine⟨fun ok o ρ K Q w0 h0' L0 w hop hargs inv hout hP hK=>.inl ?_⟩
 have ea:c.args.map ρ.eval=#[.slice (some ⟨b,off,none⟩) n cap]:=by apply Array.ext';simpa using hargs
 have hexec:∀r,(Builtin.clear_ #[t] o.type #[.slice (some ⟨b,off,none⟩) n cap]).run T.prog w=r->(execOp ρ.eval o).run T.prog w=r.andThen fun v w=>.ok (.value v) w:=by
  intro r hr;rw[<-hr,<-hat];simp only[execOp,hop,resolve,hc,invoke,builtin,bJy,bJ2,bJx,ea]
 have hht:=ok.und _ _ ht;have hown:=inv.own _ (bIu hn);obtain⟨hlt,hget⟩:=bIr.1 hn;cases n with
 | zero=>
  have hM0:M=[]:=bI5 (by rw[hM,bKi]);have hr:(Builtin.clear_ #[t] o.type #[.slice (some ⟨b,off,none⟩) 0 cap]).run T.prog w=.ok (.tuple #[]) w:=by
   simp[Builtin.clear_,run_underlying hht]
  subst hM0;have:=hk [] rfl;rw[<-hget,bL0] at this;exact bU (hexec _ hr) (hK _ _ _ _ inv this)
 | succ n=>
  obtain⟨zv,hzv,hzc⟩:=nC (T:=T) ok (w:=w) hi;have hzl:(Builtin.zeroCells zv.cells (n+1)).toList=(List.replicate (n+1) z).flatten:=by
   unfold Builtin.zeroCells;rw[hzc,bLp];show (Array.map (fun i=>z.toArray[i%z.toArray.size]!) (Array.range ((n+1)*z.length))).toList=_
   rw[qM]
  have hfl:((List.replicate (n+1) z).flatten).length=M.length:=by rw[hM,List.length_flatten,List.map_replicate,List.sum_replicate_nat]
  have hone:((List.replicate (n+1) z).flatten).all gT=true:=by
   refine List.all_eq_true.2 fun x hx=>?_
   obtain⟨l,hl,hx⟩:=List.mem_flatten.1 hx;rw[List.eq_of_mem_replicate hl] at hx;exact List.all_eq_true.1 hz x hx
  obtain⟨w',hs,hu⟩:=nD (P:=T.prog) ((List.replicate (n+1) z).flatten) w off 0 _ hown (by rw[bLp,hfl,hoff];simp only[bIo];omega) hone;have hr:(Builtin.clear_ #[t] o.type #[.slice (some ⟨b,off,none⟩) (n+1) cap]).run T.prog w=.ok (.tuple #[]) w':=by
   simp[Builtin.clear_,run_underlying hht,hzv,hzl,hs]
  have hset:lU (X++M++Y).toArray (off+0) ((List.replicate (n+1) z).flatten)=(X++(List.replicate (n+1) z).flatten++Y).toArray:=by
   have h0:off+0=X.length:=Aa;rw[kC,h0,lE _ _ _ (by rw[hfl];simp only[bIo];omega),hfl]
   congr 1
   rw[bIt X M,bLq,<-bIt X M,<-bIo,bMg]
  refine bU (hexec _ hr) ?_;rcases hu with ⟨e0,rfl⟩|hu
  .have:=hk _ hfl;rw[e0] at hfl this;have hM0:M=[]:=bI5 hfl.symm;subst hM0;rw[<-hget,bL0] at this;exact hK _ _ _ _ inv this
  .rw[hset] at hu;exact hK _ _ _ _ (inv.upd hn hu) (hk _ hfl)
end Go.Vc
namespace Go.Vc
open Go Go.Dig
theorem aVv(K Mi R:List El)(m x:El):(K++(m::Mi)++x::R).set K.length x=(K++[x])++(Mi++[x])++R:=by
 rw[bIt,bJ5 _ _ (bJf _),bK7];simp[bIt]
theorem bAz(K Mi R:List El)(x:El){j:Nat}(hj:j=K.length+Mi.length):(K++Mi++x::R)[j]?=some x:=by
 rw[hj,<-bIo];exact oT _ _ _
end Go.Vc
namespace Go.Proofs.Y
open Go Go.Vc Go.Dig
attribute [local irreducible] Vc.Fn FnP
structure TmW (h:aA) (x:El):Prop where
 fr:eJ h x.n x.d x.q
 sg:x.neg=sg x.q
 fac:lQ h x
theorem TmW.mono{h h':aA}{x:El}(w:TmW h x)(hl:h.le h'):TmW h' x:=⟨w.fr.mono hl,w.sg,w.fac.mono hl⟩
def nz(x:El):Bool:=!decide (x.q=0)
theorem aJn(h:aA)(x:El)(w:TmW h x)(hs:Sz 1099511627776 x.q):Fn0 T F.q300 [.agg x.cells.toArray] h fun v h'=>h'=h/\v=.bool (dec (x.q=0)):=by
 have c1:=aAc h x.n x.d x.q w.fr hs;have e1:Vc.eq (dH x.q) 0=dec (x.q=0):=by
  rw[lF];have h1:dH x.q=0↔x.q=0:=eL.trans cE;by_cases h0:x.q=0
  .rw[aX h0,aX (h1.2 h0)]
  .rw[aH h0,aH (fun e=>h0 (h1.1 e))]
 obtain⟨neg,n,d,f,m,q⟩:=x;obtain rfl:neg=sg q:=w.sg;refine f0C ok D.q300 rfl ?_;conv=>whnf
 repeat' ((first|(show LdN _ _ _ _ _;refine LdN.oA 0 rfl rfl ?_)|(show CN _ _ _ _ _ _;refine CN.quiet rfl c1 ?_)|((first|apply oI.z|apply cI.z))|intro (_:Nat))<;>conv=>whnf)
 rw[e1];exact RN.a ⟨rfl,rfl⟩
end Go.Proofs.Y
/- The library's IndexFunc and DeleteFunc, at terms. -/
namespace Go.Vc
open Go Go.Dig
theorem xG(G:Own)(x y:Nat × Obj):(G++[x]).set G.length y=G++[y]:=by
 rw[bJ5 _ _ (bJf _),bK7];rfl
theorem Sto.elT{G:Own}{bp:Nat}{l:List El}{zs:List Value}{i:Nat}{x:El}{T:TypeId}{k:Own->Prop}(hi:i<l.length)(hk:k (G++[(bp,.cells (fl (l.set i x)++zs).toArray T (0,0))])):Sto (G++[(bp,.cells (fl l++zs).toArray T (0,0))]) ⟨bp,0+i*4,none⟩ x.cells k:=
 Sto.el G.length (nH _ _ _) hi (by rw[xG];exact hk)
theorem kL.own4{b c n:Nat}{l h:Int}{k:Option Addr->Nat->Nat->Prop}(j e:Nat)(hl:l=j)(hh:h=e)(h1:j<=e)(h2:e<=c)(h3:j<c)(hk:k (some ⟨b,j*n,none⟩) (e-j) (c-j)):kL (some ⟨b,0,none⟩) l h c n k:=
 ⟨j,e,some ⟨b,j*n,none⟩,e-j,c-j,hl,hh,h1,h2,by rw[if_neg Aa];simp[bQ],rfl,rfl,hk⟩
theorem FzN.dropJ{P:aA->Own->Prop}{h:aA}{L:Own}:∀{J:Own},FzN P h L->FzN P h (J++L)
 | [],r=>r
 | _::J,r=>.drop 0 (FzN.dropJ (J:=J) r)
theorem RN.dropJ{v:Value}{h:aA}{J L:Own}{R:Value->aA->Own->Prop}(r:RN v h L R):RN v h (J++L) R:=⟨FzN.dropJ r.ex⟩
theorem bDh(K Mi:List El)(zs:List Value):fl (K++Mi)++zs=fl K++fl Mi++zs:=by rw[aGx]
end Go.Vc
namespace Go.Proofs.Y
open Go Go.Vc Go.Dig
attribute [local irreducible] Vc.Fn FnP
theorem aG4(h:aA)(bp cap:Nat)(zs:List Value)(l:List El)(hb:l.length<=1099511627776)(w:∀x∈l,TmW h x/\Sz 1099511627776 x.q):
  Vc.Fn T F.q334 [.slice (some ⟨bp,0,none⟩) l.length cap,.func (.func F.q300) #[] #[]] h [dY bp zs l] fun v h' L'=>h'=h/\L'=[dY bp zs l]/\
   ((v=.int .i64 (-1)/\∀x∈l,x.q≠0)\/∃(i:Nat) (x:El),v=.int .i64 i/\l[i]?=some x/\x.q=0/\∀y∈l.take i,y.q≠0):=by
 refine f1C ok D.q334 rfl ?_;conv=>whnf
 repeat ((first|apply oI.z|apply cI.z);conv=>whnf)
 skip
 refine LpN.of (fun r ρ hx L=>∃j:Nat,r=l.length-j/\hx=h/\L=[dY bp zs l]/\j<=l.length/\rd ρ 8=.int .i64 j/\∀y∈l.take j,y.q≠0) l.length
  ⟨0,rfl,rfl,rfl,bJe _,rfl,fun y hy=>by simp at hy⟩ ?_
 conv=>whnf
 repeat intro _
 rename_i r hx L2 hI;obtain⟨j,rfl,rfl,rfl,hj,e8,hq⟩:=hI;conv at e8=>lhs;whnf
 subst e8;by_cases hjl:j=l.length
 .rw[hjl,bI4] at hq;obtain⟨N,hN⟩:=AH l.length;rw[<-hN] at hjl ⊢;conv=>whnf
  repeat' ((first|((first|apply oI.z|apply cI.z))|(apply aB<;>intro _<;>try (exfalso;omega)))<;>conv=>whnf)
  exact RN.done ⟨rfl,rfl,.inl ⟨rfl,hq⟩⟩
 .obtain⟨x,hx'⟩:∃t,l[j]?=some t:=⟨_,bIq Aa⟩
  have hx2:=bIu hx';have c1:=aJn hx x (w x hx2).1 (w x hx2).2;have ht:=aY hx';obtain⟨N,hN⟩:=AH l.length;rw[<-hN] at hjl hj hb ⊢;conv=>whnf
  repeat' first|((first|(show Idx _ _ _ _ _;refine Idx.of j rfl Aa Aa ?_)|(show LdN _ _ _ _ _;refine LdN.el 0 rfl hx' ?_)|(show CN _ _ _ _ _ _;refine CN.quiet rfl c1 ?_)|((first|apply oI.z|apply cI.z))|refine WN.i64 Aa Aa ?_)<;>conv=>whnf)|(show cnd _ _ _;first|((first|apply aB|apply aU)<;>intro _<;>first|(exfalso;omega)|conv=>whnf))
  .exact RN.done ⟨rfl,rfl,.inr ⟨j,x,rfl,hx',Ab,hq⟩⟩
  .exact⟨rfl,N-(j+1),Aa,j+1,rfl,rfl,rfl,Aa,vi Aa,fun y hy=>by
     rw[ht] at hy;rcases bIx.1 hy with hy|hy
     .exact hq y hy
     .rw[bI2.1 hy];assumption⟩
theorem aDh(h:aA)(bp cap:Nat)(zs:List Value)(l:List El)(hb:l.length<=1099511627776)(hc:l.length<=cap)(w:∀x∈l,TmW h x/\Sz 1099511627776 x.q):
  Vc.Fn T F.q299 [.slice (some ⟨bp,0,none⟩) l.length cap,.func (.func F.q300) #[] #[]] h [dY bp zs l] fun v h' L'=>∃zs',v=.slice (some ⟨bp,0,none⟩) (l.filter nz).length cap/\L'=[dY bp zs' (l.filter nz)]:=by
 have c1:=aG4 h bp cap zs l hb w;have c2:∀x∈l,Fn0 T F.q300 [.agg x.cells.toArray] h fun v h'=>h'=h/\v=.bool (dec (x.q=0)):=fun x hx=>aJn h x (w x hx).1 (w x hx).2
 obtain⟨N,hN⟩:=AH l.length;rw[<-hN] at c1 hb hc ⊢;obtain⟨l0,hl0⟩:=AH l;rw[<-hl0] at c1;have row0:dY bp zs l=dY bp zs l0:=by rw[hl0]
 rw[row0];refine f1C ok D.q299 rfl ?_;conv=>whnf
 repeat' first|((first|((first|apply oI.z|apply cI.z)))<;>conv=>whnf)|(show CN _ _ _ _ _ _;first|(refine CN.own 0 rfl rfl c1 (fun v h' La hl hr=>?_);obtain⟨rfl,rfl,⟨rfl,q1⟩|⟨i,x,rfl,q1,q2,q3⟩⟩:=hr<;>refine⟨_,rfl,?_⟩<;>(conv=>whnf)))|(apply aD<;>intro _<;>first|(exfalso;omega)|conv=>whnf)
 .have e1:l.filter nz=l:=List.filter_eq_self.2 fun y hy=>by
   rw[hl0] at q1;unfold nz;rw[decide_eq_false (q1 y hy)];rfl
  rw[e1,<-hN];exact RN.done ⟨zs,rfl,by rw[hl0];rfl⟩
 have hi:i<N:=by rw[hN,<-hl0];exact (bIr.1 q1).1
 subst hl0;have hx:l0=l0.take i++[x]++l0.drop (i+1):=by rw[<-aY q1,bI6]
 have htl:(l0.take i).length=i:=by rw[bI9];omega
 have hfl:(l0.take i).filter nz=l0.take i:=List.filter_eq_self.2 fun y hy=>by
  unfold nz;rw[decide_eq_false (q3 y hy)];rfl
 have hxn:nz x=false:=by unfold nz;rw[decide_eq_true q2];rfl
 have hmid:l0.filter nz=l0.take i++(l0.drop (i+1)).filter nz:=by
  conv=>lhs;rw[hx]
  rw[bLj,bLj,hfl,bNp,if_neg (by rw[hxn];decide),List.filter_nil,bIy]
 clear c1 row0;conv=>whnf
 repeat' ((first|((first|apply oI.z|apply cI.z))|refine WN.i64 Aa Aa ?_)<;>conv=>whnf)
 refine LpN.of (fun r ρ h2 L=>∃(J:Vc.Own) (K Mi P R:List El),r=R.length/\h2=h'/\L=J++[dY bp zs (K++Mi++R)]/\rd ρ 5=.int .i64 (K.length:Nat)/\rd ρ 6=.int .i64 (K.length+Mi.length:Nat)/\0<Mi.length/\l0=P++R/\K=P.filter nz/\K.length+Mi.length=P.length) (l0.drop (i+1)).length
  ⟨[],l0.take i,[x],l0.take i++[x],l0.drop (i+1),rfl,rfl,by rw[<-hx];rfl,vi Aa,vi (by rw[htl];rfl),Nat.succ_pos _,hx,by rw[bLj,hfl,bNp,if_neg (by rw[hxn];decide),List.filter_nil,bIy],by simp⟩ ?_
 conv=>whnf
 repeat intro _
 rename_i r h2 L2 hI;obtain⟨J,K,Mi,P,R,rfl,rfl,rfl,e5,e6,hM,hP,hK,hPl⟩:=hI;conv at e5=>lhs;whnf
 subst e5;conv at e6=>lhs;whnf
 subst e6;have hlen:N=P.length+R.length:=by rw[hN,hP,bIo]
 match R,hP,hlen with
 | [],hP,hlen=>
  rw[bIy] at hP;rw[bIv] at hlen;have hK2:l0.filter nz=K:=by rw[hP,hK]
  rw[hK2,bIy];have eT:(dY bp zs (K++Mi))=(bp,.cells (fl K++fl Mi++zs).toArray 98 (0,0)):=by rw[<-bDh]
  rw[eT];obtain⟨k,hk⟩:=AH K.length;rw[<-hk] at hPl ⊢;conv=>whnf
  repeat' ((first|(show kL _ _ _ _ _ _;first|refine kL.own4 k N rfl Aa Aa Aa Aa ?_|(refine kL.front (s:=⟨some ⟨bp,0,none⟩,N,cap⟩) k rfl (by show k<=cap;omega) ?_))|(show Ext _ _ _ _ _ _ _;(refine Ext.clear (X:=fl K) (M:=fl Mi) (Y:=zs) J.length rfl rfl rfl rfl rfl (nH J _ []) (by rw[bK,hk];rfl) (by rw[bK];show _=(N-k)*4;omega) (fun Z hZ=>?_);rw[xG]))|((first|apply oI.z|apply cI.z))|(apply aB<;>intro _<;>try (exfalso;omega)))<;>conv=>whnf)
  rw[bIt,hk];exact RN.dropJ (RN.done ⟨Z++zs,rfl,rfl⟩)
 | y::R,hP,hlen=>
  rw[bIs] at hlen
  match Mi,hM,hPl with
  | m::Mi,hM,hPl=>
   have hgy:=bAz K (m::Mi) R y rfl;have hy:y∈l0:=by rw[hP];simp
   have cy:=c2 y hy;have hset:=aVv K Mi R m y;obtain⟨l1,hl1⟩:=AH (K++(m::Mi)++y::R);have hl1l:l1.length=N:=by rw[hl1,hlen];simp only[bIo,bIs] at hPl ⊢;omega
   rw[<-hl1] at hgy hset ⊢;have hml:(m::Mi).length=Mi.length+1:=rfl;rw[hml] at hgy hPl ⊢;obtain⟨k,hk⟩:=AH K.length;rw[<-hk] at hPl hgy hset ⊢;conv=>whnf
   repeat' first|((first|(apply bJ.go)|(show Idx _ _ _ _ _;first|refine Idx.of (k+(Mi.length+1)) rfl Aa Aa ?_|refine Idx.of k rfl Aa Aa ?_)|(show LdN _ _ _ _ _;first|refine LdN.el J.length (nH J _ []) hgy ?_|refine LdN.o 0 rfl rfl ?_)|(show CN _ _ _ _ _ _;refine CN.quiet rfl cy ?_)|(show Sto _ _ _ _;first|(refine Sto.elT (G:=_::J) (x:=y) Aa ?_;rw[hset])|refine Sto.l 0 rfl rfl rfl ?_)|((first|apply oI.z|apply cI.z))|intro (_:Nat)|refine WN.i64 Aa Aa ?_)<;>conv=>whnf)|(show cnd _ _ _;first|(apply aB<;>intro _<;>first|(exfalso;omega)|conv=>whnf)|(refine aI ?_)|(apply aU<;>intro _<;>first|(exfalso;omega)|conv=>whnf))
   .have hyn:nz y=false:=by unfold nz;rw[decide_eq_true Ab];rfl
    exact⟨rfl,R.length,by simp,_::J,K,m::Mi++[y],P++[y],R,rfl,rfl,by
      rw[show K++(m::Mi++[y])++R=l1 by rw[hl1];simp];rfl,vi Aa,vi (by rw[bIo,hml,bJm];omega),by simp,by rw[hP];simp,by rw[bLj,bNp,if_neg (by rw[hyn];decide),List.filter_nil,bIy,hK],by rw[bIo,bIo,hml,bJm];omega⟩
   .have hyn:nz y=true:=by unfold nz;rw[decide_eq_false Ab];rfl
    exact⟨rfl,R.length,by simp,_::J,K++[y],Mi++[y],P++[y],R,rfl,rfl,rfl,vi (by rw[bIo,bJm];omega),vi (by rw[bIo,bIo,bJm];omega),by simp,by rw[hP];simp,by rw[bLj,bNp,if_pos hyn,List.filter_nil,hK],by rw[bIo,bIo,bIo,bJm];omega⟩
end Go.Proofs.Y
/- Sorting and deleting where there is no row; rules for rows of terms. -/
namespace Go.Vc
open Go Go.Dig
def pq(x:El):Mon × Rat:=(x.m,x.q)
theorem LpN.keepOnly{body:iA->Env->aA->Own->Prop}{ws:List Nat}{Q:iA}{ρ:Env}{h:aA}{L:Own}{b:Nat}{o:Obj}(n:Nat)(hn:L[n]?=some (b,o))(hk:∀h',h.le h'->h' b=some o->LpN body ws Q ρ h' []):LpN body ws Q ρ h L:=by
 refine⟨.keep n hn fun hle=>?_⟩
 obtain⟨x⟩:=hk _ hle AE;have:∀(L:Own),FzN (fun h1 L1=>∃(I:Nat->Env->aA->Own->Prop),(∃n,I n ρ h1 L1)/\
   ∀n ρ' h' L',ρ'=over ws 0 ρ ρ'->I n ρ' h' L'->
     body (fun e ρ'' h'' L''=>match e with|.normal=>ρ''=over ws 0 ρ ρ''/\∃m,m<n/\I m ρ'' h'' L''|e=>Q e ρ'' h'' L'') ρ' h' L') (h.put b o) L:=fun L=>by
  induction L with
  | nil=>exact x
  | cons y L ih=>exact .drop 0 ih
 exact this _
theorem LdN.elI{h:aA}{L:Own}{bp:Nat}{l:List El}{zs:List Value}{i:Nat}{x:El}{T:TypeId}{fz:Nat × Nat}{k:Value->Prop}(hb:h bp=some (.cells (fl l++zs).toArray T fz))(hx:l[i]?=some x)(hk:k (.agg x.cells.toArray)):LdN h L ⟨bp,0+i*4,none⟩ 4 k:=
 ⟨x.cells,rfl,fun j hj=>by
   rw[bQ,bJc];refine Has.imm hb ?_;have hj4:j<4:=hj;have hi:=(bIr.1 hx).1;rw[bJj,bI0 (by rw[bK];omega),aGy hx j hj4,bIp,bIq hj];rfl,hk⟩
theorem gD{l:List El}{zs:List Value}{i k:Nat}{x:El}{v:Value}(hx:l[i]?=some x)(hk:k<4)(hv:x.cells[k]?=some v):(fl l++zs).toArray[0+i*4+k]?=some v:=by
 have hi:=(bIr.1 hx).1;rw[bJc,bJj,bI0 (by rw[bK];omega),aGy hx k hk,hv]
theorem Has.elF{h:aA}{L:Own}{bp:Nat}{l:List El}{zs:List Value}{i k:Nat}{x:El}{v:Value}{T:TypeId}{fz:Nat × Nat}(n:Nat)(hb:L[n]?=some (bp,.cells (fl l++zs).toArray T fz))(hx:l[i]?=some x)(hk:k<4)(hv:x.cells[k]?=some v):Has h L ⟨bp,0+i*4+k,none⟩ v:=
 Has.own n hb (gD hx hk hv)
theorem LdN.el3{h:aA}{L:Own}{bp:Nat}{l:List El}{zs:List Value}{i:Nat}{x:El}{T:TypeId}{fz:Nat × Nat}{k:Value->Prop}(n:Nat)(hb:L[n]?=some (bp,.cells (fl l++zs).toArray T fz))(hx:l[i]?=some x)(hk:k (.agg #[.bool x.neg,x.n.val,x.d.val])):LdN h L ⟨bp,0+i*4+0,none⟩ 3 k:=
 LdN.three (l:=fl l++zs) (.inr (bIu hb)) (by have:=gD (zs:=zs) (k:=0) (v:=.bool x.neg) hx Ae rfl;rw[bJj] at this;exact this) (by have:=gD (zs:=zs) (k:=1) (v:=x.n.val) hx Ae rfl;rw[bJj] at this;exact this) (by have:=gD (zs:=zs) (k:=2) (v:=x.d.val) hx Ae rfl;rw[bJj] at this;exact this) hk
theorem Sto.el3{L:Own}{bp:Nat}{l:List El}{zs:List Value}{i:Nat}{x y:El}{T:TypeId}{k:Own->Prop}(n:Nat)(hb:L[n]?=some (bp,.cells (fl l++zs).toArray T (0,0)))(hx:l[i]?=some x)(hf:y.f=x.f)(hk:k (L.set n (bp,.cells (fl (l.set i y)++zs).toArray T (0,0)))):Sto L ⟨bp,0+i*4+0,none⟩ [.bool y.neg,y.n.val,y.d.val] k:=by
 have hi:=(bIr.1 hx).1;refine⟨rfl,n,(fl l++zs).toArray,T,hb,?_,rfl,?_⟩
 .rw[bLp,bIo,bK];show 0+i*4+0+3<=_;omega
 .rw[kC];have e:nB [.bool y.neg,y.n.val,y.d.val] (fl l++zs) (0+i*4+0)=fl (l.set i y)++zs:=by
   have hle:i*4+4<=(fl l++zs).length:=by rw[bIo,bK];omega
   rw[<-aOx y hi,bJc,bJz,lE _ _ _ (by show i*4+3<=_;omega),lE _ _ _ (by rw[y.cells_len];exact hle)];have h3:(fl l++zs)[i*4+3]?=some y.f.val:=by
    have:=gD (zs:=zs) (k:=3) (v:=x.f.val) hx Ae rfl;rw[bJj,bJc] at this;rw[this,hf]
   have h4:=(bIr.1 h3);show List.take (i*4) (fl l++zs)++[.bool y.neg,y.n.val,y.d.val]++List.drop (i*4+3) (fl l++zs)=List.take (i*4) (fl l++zs)++y.cells++List.drop (i*4+4) (fl l++zs);rw[bJo h4.1,h4.2];simp only[bIt]
   rfl
  rw[e];exact hk
end Go.Vc
namespace Go.Proofs.Y
open Go Go.Vc Go.Dig
attribute [local irreducible] Vc.Fn FnP
theorem aJo(h:aA):Fn0 T F.q349 [.slice none 0 0,.int .i64 0,.int .i64 0,.func (.func F.q297) #[] #[]] h fun v h'=>h'=h:=by
 refine f0C ok D.q349 rfl ?_;conv=>whnf
 repeat' ((first|((first|apply oI.z|apply cI.z))|refine WN.i64 Aa Aa ?_)<;>conv=>whnf)
 refine LpN.of (fun r ρ hx L=>hx=h/\rd ρ 8=.int .i64 1) 0 ⟨rfl,rfl⟩ ?_
 conv=>whnf
 repeat intro _
 rename_i r hx L2 hI;obtain⟨rfl,e8⟩:=hI;conv at e8=>lhs;whnf
 subst e8;conv=>whnf
 repeat' ((first|((first|apply oI.z|apply cI.z))|(apply aB<;>intro _<;>try (exfalso;omega)))<;>conv=>whnf)
 exact RN.a rfl
theorem aMu(h:aA):Fn0 T F.q329 [.slice none 0 0,.int .i64 0,.func (.func F.q297) #[] #[]] h fun v h'=>h'=h:=by
 have c1:=aJo;refine f0C ok D.q329 rfl ?_;conv=>whnf
 repeat ((first|apply oI.z|apply cI.z);conv=>whnf)
 skip
 refine LpN.of (fun r ρ hx L=>hx=h/\rd ρ 7=.int .i64 0/\rd ρ 8=.int .i64 20) 0 ⟨rfl,rfl,rfl⟩ ?_
 conv=>whnf
 repeat intro _
 rename_i r hx L2 hI;obtain⟨rfl,e7,e8⟩:=hI;conv at e7=>lhs;whnf
 subst e7;conv at e8=>lhs;whnf
 subst e8;conv=>whnf
 repeat' ((first|(show CN _ _ _ _ _ _;(refine CN.f rfl (c1 _) (fun v h' hl hr=>?_);subst hr))|((first|apply oI.z|apply cI.z))|(apply bX<;>intro _<;>try (exfalso;omega)))<;>conv=>whnf)
 refine LpN.of (fun r ρ hx L=>hx=h'/\rd ρ 6=.int .i64 20) 0 ⟨rfl,rfl⟩ ?_
 conv=>whnf
 repeat intro _
 rename_i r hx L2 hI;obtain⟨rfl,e6⟩:=hI;conv at e6=>lhs;whnf
 subst e6;conv=>whnf
 repeat' ((first|((first|apply oI.z|apply cI.z))|(apply aB<;>intro _<;>try (exfalso;omega)))<;>conv=>whnf)
 exact RN.a rfl
theorem aCa(h:aA):Fn0 T F.q296 [.slice none 0 0,.func (.func F.q297) #[] #[]] h fun v h'=>h'=h:=by
 have c1:=aMu;refine f0C ok D.q296 rfl ?_;conv=>whnf
 repeat' ((first|(show CN _ _ _ _ _ _;(refine CN.f rfl (c1 _) (fun v h' hl hr=>?_);subst hr))|((first|apply oI.z|apply cI.z)))<;>conv=>whnf)
 exact RN.a rfl
theorem aDi(h:aA):Fn0 T F.q334 [.slice none 0 0,.func (.func F.q300) #[] #[]] h fun v h'=>h'=h/\v=.int .i64 (-1):=by
 refine f0C ok D.q334 rfl ?_;conv=>whnf
 repeat ((first|apply oI.z|apply cI.z);conv=>whnf)
 skip
 refine LpN.of (fun r ρ hx L=>hx=h/\rd ρ 8=.int .i64 0) 0 ⟨rfl,rfl⟩ ?_
 conv=>whnf
 repeat intro _
 rename_i r hx L2 hI;obtain⟨rfl,e8⟩:=hI;conv at e8=>lhs;whnf
 subst e8;conv=>whnf
 repeat' ((first|((first|apply oI.z|apply cI.z))|(apply aB<;>intro _<;>try (exfalso;omega)))<;>conv=>whnf)
 exact RN.a ⟨rfl,rfl⟩
theorem tA(h:aA):Fn0 T F.q299 [.slice none 0 0,.func (.func F.q300) #[] #[]] h fun v h'=>h'=h/\v=.slice none 0 0:=by
 have c1:=aDi h;refine f0C ok D.q299 rfl ?_;conv=>whnf
 repeat' ((first|(show CN _ _ _ _ _ _;refine CN.quiet rfl c1 ?_)|((first|apply oI.z|apply cI.z))|(apply aD<;>intro _<;>try (exfalso;omega)))<;>conv=>whnf)
 exact RN.a ⟨rfl,rfl⟩
end Go.Proofs.Y