/- Swap: plain. -/
import Derived.Test.YtdccpmlhflpeaaaGreatDoorE33
import Derived.RangeFuncNested
import Derived.RangeFuncBound
import Derived.RangeFuncCalls
import Derived.RangeFuncLeaves
import Derived.RangeFuncFrom
import Derived.Shelf.Abstract
import Derived.Shelf.RegionOpen
import Derived.OwnWalkIn
import Derived.TacticsInMore
import Derived.LoopNIn
import Derived.LoopIn
import Derived.Test.YtdccpmlhflpeaaaGreatDoorPW9
set_option linter.all false
set_option maxHeartbeats 2000000
set_option maxRecDepth 100000
namespace Go.Proofs.Y
open Go Go.Vc Go.Dig
end Go.Proofs.Y
/- Nodes replaced: the program's replaced, Swap; the document's subst, Swap; the law. -/
namespace Go.Vc
open Go Go.Dig
theorem CN.keep0{T:Tab}{f:FuncId}{args:List Value}{h:aA}{k:Value->aA->Vc.Own->Prop}{b:Nat}{p:Obj}{tl:Vc.Own}(hf:T.fn f=true)
  (hk:∀h',h.le h'->h' b=some p->CN T f args h' tl k):CN T f args h ((b,p)::tl) k:=
 CN.keep 0 rfl hf fun h1=>hk _ h1 (by simp[aA.put])
theorem uR{ws:List Nat}:∀{i:Nat} {ρ:Env} {p q:Env->Prop},(∀ρ',p ρ'->q ρ')->vP ws i ρ p->vP ws i ρ q
 | i,[],p,q,f,h=>f _ h
 | i,x::ρ,p,q,f,h=>by
  cases hc:ws.contains i with
  | true=>
   simp only[vP,hc] at h ⊢;exact fun y=>uR (fun ρ'=>f _) (h y)
  | false=>
   simp only[vP,hc] at h ⊢;exact uR (fun ρ'=>f _) h
theorem LpN.count{body:fN->Env->aA->Vc.Own->Prop}{ws:List Nat}{Q:fN}{ρ:Env}{h:aA}{L:Vc.Own}(s n:Nat)(P:Nat->Prop)(h0:rd ρ s=.int .i64 ((0:Nat):Int))(p0:P 0)
  (hr:vP ws 0 ρ fun ρ'=>∀j:Nat,j<=n->rd ρ' s=.int .i64 j->P j->body (fun e ρ'' h'' L''=>match e with|.normal=>ρ''=over ws 0 ρ ρ''/\∃m,m<n-j/\∃j':Nat,m=n-j'/\j'<=n/\rd ρ'' s=.int .i64 j'/\P j'/\h''=h/\L''=L|e=>Q e ρ'' h'' L'') ρ' h L):LpN body ws Q ρ h L:=by
 refine LpN.of (fun r ρ' h' L'=>∃j':Nat,r=n-j'/\j'<=n/\rd ρ' s=.int .i64 j'/\P j'/\h'=h/\L'=L) n ⟨0,rfl,bDw _,h0,p0,rfl,rfl⟩ ?_
 refine uR (fun ρ' x r h' L' hI=>?_) hr
 obtain⟨j,rfl,e2,e3,e4,rfl,rfl⟩:=hI;exact x j e2 e3 e4
theorem LpN.keepL{body:fN->Env->aA->Vc.Own->Prop}{ws:List Nat}{Q:fN}{ρ:Env}{h:aA}{L:Vc.Own}(I:Nat->Env->aA->Prop)(n0:Nat)(h0:I n0 ρ h)
  (hr:vP ws 0 ρ fun ρ'=>∀r h',h.le h'->I r ρ' h'->body (fun e ρ'' h'' L''=>match e with|.normal=>ρ''=over ws 0 ρ ρ''/\∃m,m<r/\h.le h''/\L''=L/\I m ρ'' h''|e=>Q e ρ'' h'' L'') ρ' h' L):LpN body ws Q ρ h L:=by
 refine LpN.of (fun r ρ' h' L'=>h.le h'/\L'=L/\I r ρ' h') n0 ⟨aA.lr _,rfl,h0⟩ ?_
 refine uR (fun ρ' x r h' L' hI=>?_) hr
 obtain⟨h1,rfl,h3⟩:=hI;exact x r h' h1 h3
theorem Ld.tl3{h:aA}{A F G tl:Vc.Own}{b off:Nat}{k:Value->Prop}{l:List Value}{T:TypeId}{v:Value}(hv:l[off]?=some v)(hk:k v):Ld h (A++(F++(G++(b,.cells l.toArray T (0,0))::tl))) ⟨b,off,none⟩ k:=
 ⟨v,⟨rfl,l.toArray,T,(0,0),.inr Ao,by simpa using hv⟩,hk⟩
theorem LdN.tl3{h:aA}{A F G tl:Vc.Own}{b o m:Nat}{k:Value->Prop}{l:List Value}{T:TypeId}(hl:Nat.ble (o+m) l.length=true)(hk:k (.agg ((l.drop o).take m).toArray)):LdN h (A++(F++(G++(b,.cells l.toArray T (0,0))::tl))) ⟨b,o,none⟩ m k:=
 have hle:=bG7 hl
 ⟨(l.drop o).take m,by rw[bDr,bD3];omega,fun i hi=>by
   rw[bB];refine⟨rfl,l.toArray,T,(0,0),.inr Ao,?_⟩;rw[bD1,bC7,bFb,if_pos hi,bF5,bC8 (show o+i<l.length by omega)]
   rfl,hk⟩
theorem Sto.tl3{A F G tl:Vc.Own}{b off:Nat}{vs l:List Value}{T:TypeId}{k:Vc.Own->Prop}(hl:Nat.ble (off+vs.length) l.length=true)(ho:vs.all gC=true)
  (hk:yF vs l off fun l=>k (A++(F++(G++(b,.cells l.toArray T (0,0))::tl)))):Sto (A++(F++(G++(b,.cells l.toArray T (0,0))::tl))) ⟨b,off,none⟩ vs k:=by
 have:=Sto.tl (A:=A) (X:=F++G) (tl:=tl) (b:=b) (off:=off) (vs:=vs) (l:=l) (T:=T) (k:=k) hl ho (by simpa[bDb] using hk)
 simpa[bDb] using this
end Go.Vc
namespace Go.Proofs.Y
open Go Go.Vc Go.Dig
end Go.Proofs.Y
/- Binds in memory; the document's subst; Swap's law. -/
namespace Go.Vc
open Go Go.Dig
theorem Ld.tl{h:aA}{A F tl:Vc.Own}{b off:Nat}{k:Value->Prop}{l:List Value}{T:TypeId}{v:Value}(hv:l[off]?=some v)(hk:k v):Ld h (A++(F++(b,.cells l.toArray T (0,0))::tl)) ⟨b,off,none⟩ k:=
 ⟨v,⟨rfl,l.toArray,T,(0,0),.inr Ao,by simpa using hv⟩,hk⟩
end Go.Vc
namespace Go.Proofs.Y
open Go Go.Vc Go.Dig
attribute [local irreducible] Vc.Fn
end Go.Proofs.Y
/- Case distinctions: plain. -/
namespace Go.Proofs.Y
open Go Go.Vc Go.Dig
def dY(op:Int):Prop:=12<=op/\op<=15
instance (op:Int):Decidable (dY op):=by unfold dY;exact inferInstance
mutual
def gJ:Tr->List (Int × List Nat)
 | .mk op _ _ _ _ name ks=>(op,name)::dG ks
def dG:List Tr->List (Int × List Nat)
 | []=>[]
 | t::ts=>gJ t++dG ts
end
mutual
def qJ:Tr->Option (Tr × Tr × Tr)
 | .mk op arg neg l m name ks=>match mS (if op=15 then 1 else ks.length) ks with
  | some (i,c,y,z)=>some (c,.mk op arg neg l m name (ks.set i y),.mk op arg neg l m name (ks.set i z))
  | none=>if op=12 then some (ks.getD 0 bZ,ks.getD 0 bZ,aF 4 0 [ks.getD 0 bZ]) else if op=13 then some (aF 6 0 [ks.getD 1 bZ,ks.getD 0 bZ],ks.getD 0 bZ,ks.getD 1 bZ)
   else if op=14 then some (aF 6 0 [ks.getD 0 bZ,ks.getD 1 bZ],ks.getD 0 bZ,ks.getD 1 bZ) else if op=15 then some (ks.getD 0 bZ,ks.getD 1 bZ,ks.getD 2 bZ) else none
def mS:Nat->List Tr->Option (Nat × Tr × Tr × Tr)
 | 0,_=>none
 | _+1,[]=>none
 | n+1,t::ts=>match qJ t with
  | some r=>some (0,r)
  | none=>match mS n ts with
   | some (i,r)=>some (i+1,r)
   | none=>none
end
theorem aAc:∀{n:Nat} {ts:List Tr},ts.length<=n->(mS n ts=none↔∀t∈ts,qJ t=none)
 | 0,[],_=>by rw[mS];simp
 | 0,_::_,h=>by simp at h
 | _+1,[],_=>by rw[mS];simp
 | n+1,t::ts,h=>by
  have ih:=aAc (n:=n) (ts:=ts) (by simpa using h);rw[mS];cases hr:qJ t with
  | some r=>simp[hr]
  | none=>
   cases hs:mS n ts with
   | none=>simpa[hr] using ih.1 hs
   | some p=>
    refine⟨fun x=>(by cases x),fun x=>?_⟩
    have:=ih.2 fun u hu=>x u (bDh _ hu)
    rw[hs] at this;cases this
def aZg(op:Int)(ks:List Tr):Option (Tr × Tr × Tr):=
 if op=12 then some (ks.getD 0 bZ,ks.getD 0 bZ,aF 4 0 [ks.getD 0 bZ]) else if op=13 then some (aF 6 0 [ks.getD 1 bZ,ks.getD 0 bZ],ks.getD 0 bZ,ks.getD 1 bZ)
   else if op=14 then some (aF 6 0 [ks.getD 0 bZ,ks.getD 1 bZ],ks.getD 0 bZ,ks.getD 1 bZ) else if op=15 then some (ks.getD 0 bZ,ks.getD 1 bZ,ks.getD 2 bZ) else none
theorem aGm{op arg:Int}{neg:Bool}{l m name:List Nat}{ks:List Tr}{i:Nat}{c y z:Tr}(h:mS (if op=15 then 1 else ks.length) ks=some (i,c,y,z)):qJ (.mk op arg neg l m name ks)=some (c,.mk op arg neg l m name (ks.set i y),.mk op arg neg l m name (ks.set i z)):=by
 rw[qJ,h]
theorem aGn{op arg:Int}{neg:Bool}{l m name:List Nat}{ks:List Tr}(h:mS (if op=15 then 1 else ks.length) ks=none):qJ (.mk op arg neg l m name ks)=aZg op ks:=by
 rw[qJ,h];rfl
theorem aCe{op:Int}{ks:List Tr}:aZg op ks=none↔¬dY op:=by
 unfold aZg dY;constructor
 .intro h
  repeat' split at h
  all_goals first|(cases h;done)|omega
 .intro h;rw[if_neg Aa,if_neg Aa,if_neg Aa,if_neg Aa]
mutual
theorem wI:∀{t:Tr},qJ t=none↔∀x∈gJ t,¬dY x.1
 | .mk op arg neg l m name ks=>by
  rw[gJ];by_cases ho:op=15
  .have:qJ (.mk op arg neg l m name ks)≠none:=by
    cases hr:mS (if op=15 then 1 else ks.length) ks with
    | some p=>obtain⟨i,c,y,z⟩:=p;rw[aGm hr];simp
    | none=>rw[aGn hr];intro x;exact aCe.1 x (by unfold dY;omega)
   exact⟨fun x=>absurd x this,fun x=>absurd (show dY op by unfold dY;omega) (x _ (bDe ..))⟩
  .have hk:=aCf (ts:=ks);have hn:=aAc (n:=if op=15 then 1 else ks.length) (ts:=ks) (by rw[if_neg ho];exact bDx _)
   cases hr:mS (if op=15 then 1 else ks.length) ks with
   | some p=>
    obtain⟨i,c,y,z⟩:=p;rw[aGm hr];refine⟨fun x=>(by cases x),fun x=>?_⟩
    have:=hn.2 (hk.2 fun y hy=>x y (bDh _ hy))
    rw[hr] at this;cases this
   | none=>
    rw[aGn hr,aCe];have:=hk.1 (hn.1 hr);exact⟨fun x y hy=>by
      rcases bDp.1 hy with rfl|hy
      .exact x
      .exact this y hy,fun x=>x _ (bDe ..)⟩
theorem aCf:∀{ts:List Tr},(∀t∈ts,qJ t=none)↔∀x∈dG ts,¬dY x.1
 | []=>by rw[dG];simp
 | t::ts=>by
  have h1:=wI (t:=t);have h2:=aCf (ts:=ts);rw[dG];constructor
  .intro h x hx;rcases bDf.1 hx with hx|hx
   .exact h1.1 (h t (bDe ..)) x hx
   .exact h2.1 (fun u hu=>h u (bDh _ hu)) x hx
  .intro h u hu;rcases bDp.1 hu with rfl|hu
   .exact h1.2 fun x hx=>h x (bDz _ hx)
   .exact h2.2 (fun x hx=>h x (bD0 _ hx)) u hu
end
end Go.Proofs.Y
/- A range over the nodes of a tree: the recursive iterator's contract. -/
namespace Go.Proofs.Y
open Go Go.Vc Go.Dig Go.RowKit Go.Shelf
attribute [local go_sem] Oper.semAt_some
theorem aEg{Fe:Fence}(hd:Fe.depth=none)(k:Nat):Fe.room k:=fun d h=>by rw[hd] at h;cases h
theorem aGo{Fe:Fence}(hd:Fe.depth=none){m m':Nat}{P:Program}{l:Nat}{f:FuncId}{tmps:Array Value}{assign body:Code}{w:World}{R:Ending->World->Prop}
  (h:RoundIn Fe m P l f tmps assign body w R):RoundIn Fe m' P l f tmps assign body w R:=⟨h.1,fun c cs _=>h.2 c cs (aEg hd _)⟩
theorem aN5{Fe:Fence}(hd:Fe.depth=none){m:Nat}(m':Nat){P:Program}{l:Nat}{args:Array Value}{W:World}{R:Ending->World->Prop}(h:YieldAt Fe m P l args W R):YieldAt Fe m' P l args W R:=by
 obtain⟨fn,tmps,assign,body,hy,hR⟩:=h;exact⟨fn,tmps,assign,body,hy,aGo hd hR⟩
structure dZ (W W':World):Prop where
 os:W'.os=W.os
 tape:W'.tape=W.tape
 output:W'.output=W.output
 size:W.heap.size<=W'.heap.size
 cells:∀(k:Nat) (c:Array Value) (T:TypeId) (fz:Nat × Nat),W.heap[k]?=some (Obj.cells c T fz)->W'.heap[k]?=some (Obj.cells c T fz)
theorem dZ.refl(W:World):dZ W W:=⟨rfl,rfl,rfl,bDx _,fun _ _ _ _ h=>h⟩
theorem dZ.trans{A B C:World}(h:dZ A B)(k:dZ B C):dZ A C:=
 ⟨k.os.trans h.os,k.tape.trans h.tape,k.output.trans h.output,bDv h.size k.size,fun _ _ _ _ x=>k.cells _ _ _ _ (h.cells _ _ _ _ x)⟩
theorem dZ.alloc(W:World)(o:Obj):dZ W (W.alloc o):=⟨rfl,rfl,rfl,by simp,fun k c T fz h=>by
  have:=(Array.getElem?_eq_some_iff.1 h).1;exact (Below.heap_alloc W o k this).trans h⟩
theorem dZ.putObj(W:World)(l:Nat)(o o':Obj)(h:W.heap[l]?=some o)(hc:o.isCells=false):dZ W (W.putObj l o'):=
 ⟨rfl,rfl,rfl,by simp[World.putObj],fun k c T fz hk=>by
   have hne:k≠l:=fun e=>by subst e;rw[h] at hk;cases hk;cases hc
   simp only[World.putObj];rw[Array.getElem?_setIfInBounds_ne (Ne.symm hne)];exact hk⟩
theorem dZ.cell{W W':World}(k:dZ W W'){b i:Nat}{v:Value}{c:Array Value}{T:TypeId}{fz:Nat × Nat}(h:W.heap[b]?=some (Obj.cells c T fz))(hv:c[i]?=some v):W'.cell? ⟨b,i,none⟩=some v:=by
 have:=k.cells _ _ _ _ h;simp[World.cell?,this,hv]
def Him(h:aA)(W:World):Prop:=∀(b:Nat) (c:Array Value) (T:TypeId) (fz:Nat × Nat),h b=some (Obj.cells c T fz)->W.heap[b]?=some (Obj.cells c T fz)
theorem Him.keep{h:aA}{W W':World}(x:Him h W)(k:dZ W W'):Him h W':=fun b c T fz e=>k.cells _ _ _ _ (x b c T fz e)
structure cJ where
 op:Int
 arg:Int
 neg:Bool
 a:Sl
 b:Sl
 name:List Nat
 s:Sl
 lt:(∀y∈name,y<256)/\name.length<=8
def cJ.cells(x:cJ):List Value:=[.int .i64 x.op,.int .i64 x.arg,.bool x.neg,.slice x.a.a x.a.l x.a.c,.slice x.b.a x.b.l x.b.c,.string (txt x.name),.slice x.s.a x.s.l x.s.c]
def cJ.tag(x:cJ):Int × List Nat:=(x.op,x.name)
theorem aWm{d:Nat}{op arg:Int}{neg:Bool}{l m name:List Nat}{ks:List Tr}(hok:okT d (.mk op arg neg l m name ks)):name.length<=8:=by
 rw[okT] at hok;have h:=hok.2.1.2.2.2.1
 split at h
 .exact h.1
 .rw[h];exact bDw _
theorem IsE.nodeV{h:aA}{vs:List Value}{d:Nat}{op arg:Int}{neg:Bool}{l m name:List Nat}{ks:List Tr}(w:IsE h vs (.mk op arg neg l m name ks))(hok:okT d (.mk op arg neg l m name ks)):∃x:cJ,vs=x.cells/\x.tag=(op,name)/\IsK h x.s ks:=by
 obtain⟨a,b,s,rfl,-,-,-,hb,hk⟩:=w.isK;exact⟨⟨op,arg,neg,a,b,name,s,hb,aWm hok⟩,rfl,rfl,hk⟩
theorem aN6{h:aA}{s:Sl}{ks:List Tr}{d:Nat}(hk:IsK h s ks)(hoks:dJ d ks)(hne:ks≠[]):∃bl off,s.a=some ⟨bl,off,none⟩/\∀j t,ks[j]?=some t->∃x:cJ,IsE h x.cells t/\∀W,Him h W->∀(i:Nat) v,x.cells[i]?=some v->W.cell? ⟨bl,off+j*7+i,none⟩=some v:=by
 rcases hk.mem with e|⟨bl,off,c,T,fz,e1,e2,e3⟩
 .exact absurd e hne
 .refine⟨bl,off,e1,fun j t ht=>?_⟩
  obtain⟨vs,h1,h2,h3⟩:=iU.get e3 ht;obtain⟨op,arg,neg,l,m,name,ks'⟩:=t;obtain⟨x,rfl,-,-⟩:=h3.nodeV (fC hoks (bDc ht));refine⟨x,h3,fun W hW i v hv=>?_⟩
  have hi7:i<7:=(bC9.1 hv).1;simp[World.cell?,hW _ _ _ _ e2,h2 i hi7,hv]
theorem aN7(t:Tr):(gJ t).length=szT t:=by
 refine bN (P:=fun t=>(gJ t).length=szT t) (fun t ih=>?_) t
 obtain⟨op,arg,neg,l,m,name,ks⟩:=t;have:∀ts:List Tr,(∀u∈ts,(gJ u).length=szT u)->(dG ts).length=eF ts:=by
  intro ts
  induction ts with
  | nil=>intro _;rw[dG,eF];rfl
  | cons u us h=>intro g;rw[dG,eF,bC6,g u (bDe ..),h fun x hx=>g x (bDh _ hx)]
 rw[gJ,szT,bDa,this ks fun u hu=>by
   obtain⟨j,hj,e⟩:=List.mem_iff_getElem.1 hu;exact ih u (aP (j:=j) (by rw[bC8 hj,e])),bGj]
theorem nT:∀(a b:List Tr),dG (a++b)=dG a++dG b
 | [],b=>by rw[dG];rfl
 | t::a,b=>by rw[bEn,dG,dG,nT a b,bDb]
theorem aJj(ts:List Tr):(dG ts).length=eF ts:=by
 induction ts with
 | nil=>rw[dG,eF];rfl
 | cons u us h=>rw[dG,eF,bC6,aN7,h]
theorem aWn(Fe:Fence)(hd:Fe.depth=none)(h4:Fe.fn 153)(hro:Fe.round=none)(l N:Nat)(J Jx:List cJ->World->Prop)(h:aA)(hJa:∀pre W o,J pre W->J pre (W.alloc o))
  (hY:∀m pre x W,J pre W->pre.length<N->YieldAt Fe m Tryz.prog l #[.agg x.cells.toArray] W fun e W'=>(e=.returned (.bool true)/\J (pre++[x]) W'/\dZ W W')\/(e=.returned (.bool false)/\Jx (pre++[x]) W')):
  ∀(t:Tr) (n d:Nat) (x:cJ) (pre:List cJ) (w:World),IsE h x.cells t->okT d t->Him h w->J pre w->pre.length+szT t<=N->
   CallsIn Fe n Tryz.prog 153 #[.agg x.cells.toArray,.func (.yield l) #[] #[]] w fun e W'=>
    (e=.returned (.bool true)/\(∃xs,xs.map cJ.tag=gJ t/\J (pre++xs) W')/\dZ w W')\/(e=.returned (.bool false)/\∃q,q.map cJ.tag <+: gJ t/\Jx (pre++q) W'):=by
 refine bN fun t ih=>?_
 intro n d x pre w wE hok hw hJ hN;obtain⟨op,arg,neg,l',m',name,ks⟩:=t;have hxs:x.tag=(op,name)/\IsK h x.s ks:=by
  obtain⟨a,b,s,e,-,-,-,hb,hk⟩:=wE.isK;unfold cJ.cells at e
  injection e with e1 e
  injection e with e2 e
  injection e with e3 e
  injection e with e4 e
  injection e with e5 e
  injection e with e6 e
  injection e with e7 e
  injection e1 with _ e1
  injection e6 with e6
  have e7:=Sl.val_inj (s:=x.s) (t:=s) e7;exact⟨by unfold cJ.tag;rw[e1,uH x.lt.1 hb e6],by rw[e7];exact hk⟩
 obtain⟨htg,hk⟩:=hxs;rw[okT] at hok;obtain⟨hd30,hnb,hoks⟩:=hok;have hks:ks.length<=3:=by
  have h1:=hnb.1;have h2:=mN op;omega
 rw[szT] at hN;have hdd:∀k:Nat,(Fe.depth.isSome=true->1<=k):=fun k h=>by rw[hd] at h;cases h
 obtain⟨fn,tmps,assign,body,hy,hR⟩:=hY (n-1) pre x (w.alloc (.cells x.cells.toArray 27)) (hJa _ _ _ hJ) Aa;obtain⟨o1,a1,n1,⟨sa,sl,sc⟩,⟨ta,tl,tc⟩,nm1,⟨ka,kl,kc⟩,lt1⟩:=x;obtain rfl:kl=ks.length:=hk.len;dsimp only[cJ.cells] at hy hR wE ⊢;replace hR:=hR.mono (R':=fun e W2=>(e=.returned (.bool true)/\J (pre++[⟨o1,a1,n1,⟨sa,sl,sc⟩,⟨ta,tl,tc⟩,nm1,⟨ka,ks.length,kc⟩,lt1⟩]) W2/\W2.cell? ⟨w.heap.size,6,none⟩=some (.slice ka ks.length kc)/\dZ w W2)\/(e=.returned (.bool false)/\Jx (pre++[⟨o1,a1,n1,⟨sa,sl,sc⟩,⟨ta,tl,tc⟩,nm1,⟨ka,ks.length,kc⟩,lt1⟩]) W2))
  (fun e W2 h=>h.elim (fun ⟨he,hj,hk⟩=>.inl ⟨he,hj,hk.cell (World.alloc_heap_new w _) rfl,(dZ.alloc w _).trans hk⟩) .inr)
 have htl:∀xs:List cJ,xs.map cJ.tag=dG ks->(⟨o1,a1,n1,⟨sa,sl,sc⟩,⟨ta,tl,tc⟩,nm1,⟨ka,ks.length,kc⟩,lt1⟩::xs).map cJ.tag=gJ (.mk op arg neg l' m' name ks):=fun xs e=>by rw[gJ,bEe,e,htg]
 have htp:∀xs:List cJ,xs.map cJ.tag <+: dG ks->(⟨o1,a1,n1,⟨sa,sl,sc⟩,⟨ta,tl,tc⟩,nm1,⟨ka,ks.length,kc⟩,lt1⟩::xs).map cJ.tag <+: gJ (.mk op arg neg l' m' name ks):=fun xs e=>by
  rw[gJ,bEe,htg];obtain⟨r,hr⟩:=e;exact⟨r,by rw[<-hr];rfl⟩
 obtain⟨X,hX⟩:∃X:cJ,X=⟨o1,a1,n1,⟨sa,sl,sc⟩,⟨ta,tl,tc⟩,nm1,⟨ka,ks.length,kc⟩,lt1⟩:=⟨_,rfl⟩
 rw[<-hX] at hR htl htp;replace hk:IsK h ⟨ka,ks.length,kc⟩ ks:=hk;refine callsIn_of_wp Tryz.func153 rfl h4 ?_ hro;simp only[Tryz.ntmps153,bE6,bDa,bDd,Nat.reduceAdd,Nat.reduceSub,Array.replicate_succ,Array.replicate_zero,bHb,bGz,bEm,bEn]
 gi_wp2_with ((try refine⟨hdd _,?_⟩);refine hR.mono ?_;clear hR;rintro e W2 (⟨rfl,hJ2,hc2,hb2⟩|⟨rfl,hx2⟩))
 .gi_loopw [14] (fun i wr=>∃(k:Nat) (xs:List cJ),k<=ks.length/\i=.int .i64 k/\xs.map cJ.tag=dG (ks.take k)/\J (pre++X::xs) wr/\dZ w wr) (fun i _=>ks.length-(intOf i).toNat)
  case atStart=>exact⟨0,[],bDw _,rfl,by rw[bFa,dG];rfl,by simpa using hJ2,hb2⟩
  case round=>
   obtain⟨k,xs,hkk,rfl,hxs,hJs,hbs⟩:=hrel;by_cases hlt:k<ks.length
   .obtain⟨t,ht⟩:∃t,ks[k]?=some t:=⟨_,bC8 hlt⟩
    obtain⟨bl,off,rfl,hkc⟩:=aN6 hk hoks (fun e=>by subst e;exact absurd hlt Ao)
    obtain⟨y,hyE,hyc⟩:=hkc k t ht;have hbc:=(congrArg List.length hxs);rw[bDt,aJj] at hbc;have hsz:eF (ks.take k)+szT t<=eF ks:=by
     have e:=mF ht;have:=congrArg eF e;rw[iY,eF] at this;omega
    have hyw:=hyc wr (hw.keep hbs);obtain⟨o2,a2,n2,⟨sa2,sl2,sc2⟩,⟨ta2,tl2,tc2⟩,nm2,⟨ka2,kl2,kc2⟩,lt2⟩:=y;have k0:wr.cell? ⟨bl,off+k*7,none⟩=_:=hyw 0 _ rfl;have k1:=hyw 1 _ rfl;have k2:=hyw 2 _ rfl;have k3:=hyw 3 _ rfl;have k4:=hyw 4 _ rfl;have k5:=hyw 5 _ rfl;have k6:=hyw 6 _ rfl;dsimp only at k0 k1 k2 k3 k4 k5 k6;have hE':=ih t (aP ht) (n-1) (d+1) ⟨o2,a2,n2,⟨sa2,sl2,sc2⟩,⟨ta2,tl2,tc2⟩,nm2,⟨ka2,kl2,kc2⟩,lt2⟩ (pre++X::xs) (wr.alloc (.cells #[.int .i64 o2,.int .i64 a2,.bool n2,.slice sa2 sl2 sc2,.slice ta2 tl2 tc2,.string (txt nm2),.slice ka2 kl2 kc2] 27)) hyE (fC hoks (bDc ht)) ((hw.keep hbs).keep (dZ.alloc _ _)) (hJa _ _ _ hJs) (by rw[bC6,bDa];omega);dsimp only[cJ.cells] at hE';clear hyw hyc
    gi_wp2_with ((try refine⟨hdd _,?_⟩);gi_at_call 153;refine hE'.mono ?_;clear hE';rintro e W3 (⟨rfl,⟨zs,hzs,hJ3⟩,hb3⟩|⟨rfl,q,hq,hx3⟩))
    .go_roundw
     case rel=>exact⟨k+1,xs++zs,Aa,by simp,by rw[bDl,hxs,hzs,bD ht,nT,dG,dG,bDg],by simpa[bDb] using hJ3,(hbs.trans (dZ.alloc _ _)).trans hb3⟩
     case measure=>simp[intOf];omega
    .refine bodyPost_ret (results_tmp rfl _ _ _) rfl ?_;refine .inr ⟨rfl,X::(xs++q),htp _ ?_,by simpa[bDb] using hx3⟩
     obtain⟨r,hr⟩:=hq;have e:=mF ht;refine⟨r++dG (ks.drop (k+1)),?_⟩;rw[bDl,hxs];conv=>rhs;rw[e,nT,dG,<-hr]
     simp[bDb]
   .obtain rfl:k=ks.length:=Aa;rw[bDm] at hxs
    gi_wp2
    go_ret
    exact .inl ⟨rfl,⟨X::xs,htl _ hxs,hJs⟩,hbs⟩
 .go_ret
  exact .inr ⟨rfl,[X],htp [] (List.nil_prefix),by simpa using hx2⟩
end Go.Proofs.Y
/- Periods: plain. -/
namespace Go.Proofs.Y
open Go Go.Vc Go.Dig
def bW:Tr->Option Rat
 | .mk op _ neg l m _ ks=>if op=1 then some (aN neg l m) else if op=4 then (match ks with
   | .mk op' _ neg' l' m' _ _::_=>if op'=1 then some (-(aN neg' l' m')) else none
   | []=>none) else none
theorem aZh{op:Int}{ks:List Tr}(h:(ks.length:Int)=aR op)(hk:aR op=1):ks=[ks.getD 0 bZ]:=by
 match ks,h with
 | [a],_=>rfl
 | [],h=>simp at h;omega
 | _::_::_,h=>simp at h;omega
end Go.Proofs.Y
/- A range over the nodes of a tree: the iterator's contract; has, smooth. -/
namespace Go.Proofs.Y
open Go Go.Vc Go.Dig Go.RowKit Go.Shelf
attribute [local go_sem] Oper.semAt_some
theorem aGp{W W':World}{row:Option Nat}{B:Nat}{c:Array Value}{T:TypeId}{fz:Nat × Nat}(h:W.heap[B]?=some (Obj.cells c T fz))(hg:W.grownBy W' row)(hr:∀r,row=some r->∃o:Obj,W.heap[r]?=some o/\o.isCells=false):W'.heap[B]?=some (Obj.cells c T fz):=
 (hg.block B (Array.getElem?_eq_some_iff.1 h).1 (fun e=>by obtain⟨o,ho,hc⟩:=hr B e.symm;rw[h] at ho;cases ho;cases hc)).trans h
theorem aWo{h:aA}{L:Vc.Own}{w:World}(s:Sat h L w):Him h w:=fun b c T fz e=>s.imm _ _ e
theorem aN8(Fe:Fence)(hd:Fe.depth=none)(n:Nat)(h1:Fe.fn 152)(h4:Fe.fn 153)(hro:Fe.round=none)(l Bt N d:Nat)(J Jx:List cJ->World->Prop)(h:aA)(t:Tr)(x:cJ)(hJa:∀pre W o,J pre W->J pre (W.alloc o))
  (hY:∀m pre x W,J pre W->pre.length<N->YieldAt Fe m Tryz.prog l #[.agg x.cells.toArray] W fun e W'=>(e=.returned (.bool true)/\J (pre++[x]) W'/\dZ W W')\/(e=.returned (.bool false)/\Jx (pre++[x]) W'))
  (w:World) (hB:w.heap[Bt]?=some (Obj.cells x.cells.toArray 27 (0,0))) (wE:IsE h x.cells t) (hok:okT d t) (hw:Him h w) (hN:szT t<=N) (h0:J [] w):
  CallsIn Fe n Tryz.prog 152 #[.func (.yield l) #[] #[],.pointer (some ⟨Bt,0,none⟩)] w fun e W'=>(∃v,e=.returned v)/\((∃xs,xs.map cJ.tag=gJ t/\J xs W')\/(∃q,q.map cJ.tag <+: gJ t/\Jx q W')):=by
 have hdd:∀k:Nat,(Fe.depth.isSome=true->1<=k):=fun k h=>by rw[hd] at h;cases h
 have hp:=aWn Fe hd h4 hro l N J Jx h hJa hY t (n-1) d x [] w wE hok hw h0 (by simpa using hN);have hc:∀(i:Nat) v,x.cells[i]?=some v->w.cell? ⟨Bt,i,none⟩=some v:=fun i v hv=>by simp[World.cell?,hB,hv]
 obtain⟨o1,a1,n1,⟨sa,sl,sc⟩,⟨ta,tl,tc⟩,nm1,⟨ka,kl,kc⟩,lt1⟩:=x;have k0:=hc 0 _ rfl;have k1:=hc 1 _ rfl;have k2:=hc 2 _ rfl;have k3:=hc 3 _ rfl;have k4:=hc 4 _ rfl;have k5:=hc 5 _ rfl;have k6:=hc 6 _ rfl;dsimp only at k0 k1 k2 k3 k4 k5 k6;dsimp only[cJ.cells] at hp;simp only[bEm] at hp;refine callsIn_of_wp Tryz.func152 rfl h1 ?_ hro;simp only[Tryz.ntmps152,bE6,bDa,bDd,Nat.reduceAdd,Nat.reduceSub,Array.replicate_succ,Array.replicate_zero,bHb,bGz,bEm,bEn]
 gi_wp2_with ((try refine⟨hdd _,?_⟩);gi_at_call 153;refine hp.mono ?_;clear hp;rintro e W1 (⟨rfl,⟨xs,hxs,hJ1⟩,-⟩|⟨rfl,q,hq,hx⟩))
 .go_end0
  exact⟨⟨_,rfl⟩,.inl ⟨_,hxs,hJ1⟩⟩
 .go_end0
  exact⟨⟨_,rfl⟩,.inr ⟨_,hq,hx⟩⟩
theorem aSe(Fe:Fence)(n:Nat)(h4:Fe.fn 88)(hro:Fe.round=none)(c0 c1 c2 c3 c4 c5 c6:Value)(w:World):
  CallsIn Fe n Tryz.prog 88 #[.agg #[c0,c1,c2,c3,c4,c5,c6]] w fun e w'=>e=.returned (.func (.func 152) #[] #[.pointer (some ⟨w.heap.size,0,none⟩)])/\w'=w.alloc (.cells #[c0,c1,c2,c3,c4,c5,c6] 27):=by
 refine callsIn_of_wp Tryz.func88 rfl h4 ?_ hro;simp only[Tryz.ntmps88,bE6,bDa,bDd,Nat.reduceAdd,Nat.reduceSub,Array.replicate_succ,Array.replicate_zero,bHb,bGz,bEm,bEn]
 gi_wp2
 go_ret
 exact⟨rfl,rfl⟩
theorem aGq(Fe:Fence)(hd:Fe.depth=none)(n:Nat)(h1:Fe.fn 152)(h4:Fe.fn 153)(hro:Fe.round=none)(Bt d:Nat)(h:aA)(t:Tr)(x:cJ)(w:World)
  (hB:w.heap[Bt]?=some (Obj.cells x.cells.toArray 27 (0,0))) (wE:IsE h x.cells t) (hok:okT d t) (hw:Him h w):
  SeqStopsK Fe n Tryz.prog 152 #[.pointer (some ⟨Bt,0,none⟩)] (fun x:cJ=>#[.agg x.cells.toArray]) dZ (fun xs=>xs.map cJ.tag=gJ t) (fun pre=>pre.map cJ.tag <+: gJ t) (szT t) w:=fun l J Jx W hW hJ hJx hY h0=>by
 have hlt:=(Array.getElem?_eq_some_iff.1 hB).1;exact aN8 Fe hd n h1 h4 hro l Bt (szT t) d J Jx h t x (fun pre W1 o hj=>hJ pre W1 (W1.alloc o) none hj (World.grownBy_alloc W1 o none) (fun r e=>by cases e))
  (fun m pre x W1 hj hl=>aN5 hd m (hY pre x W1 hj hl)) W ((hW.block _ hlt).trans hB) wE hok (fun b c T fz e=>(hW.block _ (Array.getElem?_eq_some_iff.1 (hw b c T fz e)).1).trans (hw b c T fz e)) (bDx _) h0
theorem aWp{A B C:World}(h:dZ A B)(k:dZ B C):dZ A C:=h.trans k
theorem aSf(Fe:Fence)(n:Nat)(h4:Fe.fn 89)(hro:Fe.round=none)(op:Int)(w:World):
  CallsIn Fe n Tryz.prog 89 #[.int .i64 op] w fun e w'=>(dY op/\e=.returned (.bool true)\/¬dY op/\e=.returned (.bool false))/\w'=w:=by
 refine callsIn_of_wp Tryz.func89 rfl h4 ?_ hro;simp only[Tryz.ntmps89,bE6,bDa,bDd,Nat.reduceAdd,Nat.reduceSub,Array.replicate_succ,Array.replicate_zero,bHb,bGz,bEm,bEn]
 gi_wp2
 all_goals go_ret
 .rename_i h1;by_cases h2:op<=15
  .exact⟨.inl ⟨⟨h1,h2⟩,by rw[decide_eq_true h2];rfl⟩,rfl⟩
  .exact⟨.inr ⟨fun x=>h2 x.2,by rw[decide_eq_false h2];rfl⟩,rfl⟩
 .rename_i h1;exact⟨.inr ⟨fun x=>absurd x.1 Aa,rfl⟩,rfl⟩
theorem aN9(Fe:Fence)(hd:Fe.depth=none)(hro:Fe.round=none)(hf:∀f,Fe.fn f)(t:Tr)(x:cJ)(h:aA)(w:World)(wE:IsE h x.cells t)(hok:okT 1 t)(hw:Him h w):
  CallsIn Fe 3 Tryz.prog 50 #[.agg x.cells.toArray] w fun e W'=>((∀y∈gJ t,¬dY y.1)/\e=.returned (.bool true)\/¬(∀y∈gJ t,¬dY y.1)/\e=.returned (.bool false))/\Below w.heap.size w W':=by
 have hdd:∀k:Nat,(Fe.depth.isSome=true->1<=k):=fun k h=>by rw[hd] at h;cases h
 have hst:=aGq Fe hd 2 (hf _) (hf _) hro (w.heap.size+1+1) 1 h t x;have hop:=fun (pre:List cJ) (e:pre.map cJ.tag <+: gJ t) (z:∃y∈pre,dY y.op)=>(show ¬∀y∈gJ t,¬dY y.1 from fun g=>by
   obtain⟨y,hy,h1⟩:=z;obtain⟨r,hr⟩:=e;exact g y.tag (by rw[<-hr];exact bDz _ (bDy hy)) h1)
 have hon:=fun (pre:List cJ) (e:pre.map cJ.tag=gJ t) (z:∀y∈pre,¬dY y.op)=>(show ∀y∈gJ t,¬dY y.1 from fun y hy=>by
   rw[<-e] at hy;obtain⟨y',hy',rfl⟩:=List.mem_map.1 hy;exact z y' hy')
 obtain⟨o1,a1,n1,⟨sa,sl,sc⟩,⟨ta,tl,tc⟩,nm1,⟨ka,kl,kc⟩,lt1⟩:=x;dsimp only[cJ.cells] at hst ⊢;refine callsIn_of_wp_marks Tryz.func50 rfl (hf _) ?_ hro;simp only[Tryz.ntmps50,bE6,bDa,bDd,Nat.reduceAdd,Nat.reduceSub,Array.replicate_succ,Array.replicate_zero,bHb,bGz,bEm,bEn]
 gi_wp2_with ((try refine⟨hdd _,?_⟩);gi_at_call 88;refine (aSe Fe _ (hf _) hro _ _ _ _ _ _ _ _).mono ?_;rintro e w' ⟨rfl,rfl⟩)
 generalize hCE:Obj.cells #[Value.int IntKind.i64 o1,Value.int IntKind.i64 a1,Value.bool n1,Value.slice sa sl sc,Value.slice ta tl tc,Value.string (txt nm1),Value.slice ka kl kc] 27=CE at *
 have bR:=(Boxed.new (w.alloc CE) 4 (.bool false)).alloc CE;have bE:=World.alloc_heap_new ((w.alloc CE).alloc (.cells #[.bool false] 4)) CE;have hB0:Below w.heap.size w (((w.alloc CE).alloc (.cells #[.bool false] 4)).alloc CE):=(((Below.refl _ w).alloc (bDx _) _).alloc Ao _).alloc Aq _;have hK0:dZ w (((w.alloc CE).alloc (.cells #[.bool false] 4)).alloc CE):=((dZ.alloc w _).trans (dZ.alloc _ _)).trans (dZ.alloc _ _);have hsz:(((w.alloc CE).alloc (.cells #[.bool false] 4)).alloc CE).heap.size=w.heap.size+3:=by simp
 simp only[World.size_alloc] at bR bE;obtain⟨W0,hW0⟩:∃W0,(((w.alloc CE).alloc (.cells #[.bool false] 4)).alloc CE)=W0:=⟨_,rfl⟩
 rw[hW0] at bR bE hB0 hK0 hsz ⊢;clear hW0;subst hCE;refine wpIn_rangeFunc_ownH hro Ad (gf:=152) (lb:=#[.pointer (some ⟨w.heap.size+1+1,0,none⟩)]) rfl (hf _) (enters_of Tryz.func152 (by kernel_rfl) rfl)
  (hst W0 bE wE hok (hw.keep hK0)) aWp (fun W l o o' hl hob hc _=>dZ.putObj W l o o' hob hc) (Below.refl _ _) (fun _=>rfl)
  (fun pre W=>(Boxed W (w.heap.size+1) 4 (.bool false)/\Below w.heap.size w W)/\∀y∈pre,¬dY y.op)
  (fun c pre W=>(Boxed W (w.heap.size+1) 4 (.bool false)/\Below w.heap.size w W)/\(c=.ret/\∃y∈pre,dY y.op))
  (OwnFrom.and (OwnFrom.and (Own.from (boxed_own _ _ (fun _=>_)) _) (ownFrom_below (bDx _) Aa)) (fun s W W' row hs _ _=>hs))
  (fun c=>OwnFrom.and (OwnFrom.and (Own.from (boxed_own _ _ (fun _=>_)) _) (ownFrom_below (bDx _) Aa)) (fun s W W' row hs _ _=>hs))
  ⟨⟨bR,hB0⟩,by simp⟩
  (fun x a' W=>∃Bx,w.heap.size+1<Bx/\W.heap[Bx]?=some (Obj.cells x.cells.toArray 27 (0,0))/\a'={ tmps:=#[.agg #[Value.int IntKind.i64 o1,Value.int IntKind.i64 a1,Value.bool n1,Value.slice sa sl sc,Value.slice ta tl tc,Value.string (txt nm1),Value.slice ka kl kc],.pointer (some ⟨w.heap.size,0,none⟩),.pointer (some ⟨w.heap.size+1,0,none⟩),.pointer (some ⟨Bx,0,none⟩),.agg #[Value.int IntKind.i64 o1,Value.int IntKind.i64 a1,Value.bool n1,Value.slice sa sl sc,Value.slice ta tl tc,Value.string (txt nm1),Value.slice ka kl kc],.func (.func 152) #[] #[.pointer (some ⟨w.heap.size+1+1,0,none⟩)],.agg x.cells.toArray,undef,undef,undef],defers:=[] })
  (fun x a' _ X Y row hs hg hr=>by obtain⟨Bx,h1,h2,h3⟩:=hs;exact⟨Bx,h1,aGp h2 hg (fun r e=>(hr r e).2),h3⟩)
  ?assign ?body ?done ?stop
 case assign=>
  rintro l pre ⟨o2,a2,n2,⟨sa2,sl2,sc2⟩,⟨ta2,tl2,tc2⟩,nm2,⟨ka2,kl2,kc2⟩,lt2⟩ W K ⟨⟨b2,hB1⟩,hp⟩ hK
  dsimp only[cJ.cells] at hK ⊢
  gi_wp2
  exact hK _ _ ((KeepsOthers.alloc _ _).from _) (dZ.alloc _ _) ⟨⟨b2.alloc _,hB1.alloc hB1.size _⟩,hp⟩ ⟨W.heap.size,b2.lt,World.alloc_heap_new W _,rfl⟩
 case body=>
  rintro l pre ⟨o2,a2,n2,⟨sa2,sl2,sc2⟩,⟨ta2,tl2,tc2⟩,nm2,⟨ka2,kl2,kc2⟩,lt2⟩ a' W hl ⟨r,hr⟩ ⟨⟨b2,hB1⟩,hp⟩ ⟨Bx,hBx,bX,rfl⟩ hlt
  have c2:=b2.cell;have f2:=b2.frozen;have hc:∀(i:Nat) v,(cJ.cells ⟨o2,a2,n2,⟨sa2,sl2,sc2⟩,⟨ta2,tl2,tc2⟩,nm2,⟨ka2,kl2,kc2⟩,lt2⟩)[i]?=some v->W.cell? ⟨Bx,i,none⟩=some v:=fun i v hv=>by simp[World.cell?,bX,hv]
  have k0:=hc 0 _ rfl;dsimp only at k0;dsimp only[cJ.cells]
  gi_wp2_with ((try refine⟨hdd _,?_⟩);gi_at_call 89;refine (CallsIn.inRound l (aSf Fe _ (hf _) hro _ _)).mono ?_;rintro e w' ⟨⟨h1,rfl⟩|⟨h1,rfl⟩,rfl⟩)
  .exact⟨(KeepsOthers.setCell _ _ _).from _,⟨b2.set _,(Below.refl w.heap.size w').setCell (p:=⟨w.heap.size+1,0,none⟩) (by show w.heap.size<=w.heap.size+1;omega) _ |> hB1.trans⟩,rfl,_,bD0 _ (bDk.2 rfl),h1⟩
  .refine⟨(KeepsOthers.refl _).from _,dZ.refl _,⟨b2,hB1⟩,fun y hy z=>?_⟩
   rcases bDf.1 hy with hy|hy
   .exact hp y hy z
   .obtain rfl:=bDk.1 hy;exact h1 z
 case done=>
  rintro D xs W hD hxs ⟨⟨b2,hB1⟩,hp⟩ hK
  have c2:=b2.cell;have f2:=b2.frozen
  gi_wp2
  have hK':=(KeepsOthers.setCell W ⟨w.heap.size+1,0,none⟩ (.bool true)).same D _ hK rfl;refine⟨by simp,.inl ⟨_,_,rfl,run_takeDeferred hK',?_⟩⟩
  have hc5:=((b2.set (.bool true)).kept (grownBy_putObj' _ D (.deferred none)) (fun e=>by injection e with e;omega)).cell
  refine⟨.bool true,?_,.inl ⟨hon xs hxs hp,rfl⟩,?_⟩
  .simp[results,Tryz.f50,go_sem,hc5]
  .exact (hB1.trans ((Below.refl w.heap.size W).setCell (p:=⟨w.heap.size+1,0,none⟩) (by show w.heap.size<=w.heap.size+1;omega) _)).trans (belowK_b (w:=w) (bDx _) _ D _ _ Aa hK' rfl rfl)
 case stop=>
  rintro D c pre W hD hpre ⟨⟨b2,hB1⟩,rfl,hin⟩ hK
  gi_wp2
  refine⟨by simp,.inl ⟨_,_,rfl,run_takeDeferred hK,?_⟩⟩
  have hc5:=(b2.kept (grownBy_putObj' _ D (.deferred none)) (fun e=>by injection e with e;omega)).cell
  refine⟨.bool false,?_,.inr ⟨hop pre hpre hin,rfl⟩,?_⟩
  .simp[results,Tryz.f50,go_sem,hc5]
  .exact hB1.trans (belowK_b (w:=w) (bDx _) _ D _ _ Aa hK rfl rfl)
theorem aOa(t:Tr)(h:aA)(vs:List Value)(w:IsE h vs t)(hok:okT 1 t):Fn0 T F.q50 [.agg vs.toArray] h fun v h'=>h'=h/\v=.bool (dec (qJ t=none)):=by
 refine Fn0.make fun w0 s=>?_
 have hr:=wI (t:=t);obtain⟨op,arg,neg,l,m,name,ks⟩:=t;obtain⟨x,rfl,-,-⟩:=w.nodeV hok;refine ((callsIn_wide (n:=3)).1 (aN9 Fence.wide rfl rfl (fun _=>trivial) _ x h w0 w hok (aWo s))).mono fun e w' he=>?_
 obtain⟨⟨h1,rfl⟩|⟨h1,rfl⟩,hb⟩:=he
 .exact⟨h,[],Inv.below s hb,rfl,rfl,by rw[bA (hr.2 h1)]⟩
 .exact⟨h,[],Inv.below s hb,rfl,rfl,by rw[aG fun z=>h1 (hr.1 z)]⟩
end Go.Proofs.Y
/- Size and Smooth on both sides. -/
namespace Go.Proofs.Y
open Go Go.Vc Go.Dig
end Go.Proofs.Y
/- Rows of kids copied, cut and turned; with, replaced (one kid). -/
namespace Go.Vc
open Go Go.Dig
end Go.Vc
namespace Go.Proofs.Y
open Go Go.Vc Go.Dig
end Go.Proofs.Y
/- The names of a tree's variables in ascending order: plain words, and the document's side. -/
namespace Go.Dig
open Go
def b8(n:List Nat):List UInt8:=n.map UInt8.ofNat
end Go.Dig
namespace Go.Vc
open Go Go.Dig
def sv(x:List UInt8):Value:=.string ⟨x.toArray⟩
end Go.Vc
namespace Go.Proofs.Y
open Go Go.Vc Go.Dig
end Go.Proofs.Y
/- 'clear' of a slice of one's own row; terms like zero taken out of a row: IndexFunc, DeleteFunc. -/
namespace Go.Vc
open Go Go.Dig
theorem Ext.clear{T:Tab}{c:Call}{h:aA}{L:Own}{k:Value->aA->Own->Prop}{t e:TypeId}{z:List Value}{bytes b off n cap:Nat}{X M Y:List Value}{ET:TypeId}(i:Nat)(hc:c.callee=.builtin .clear)(hat:c.argTypes=#[t])(ht:T.und t=some (.slice e))(hi:T.inf e=some (z,bytes))(hz:z.all gC=true)
  (hn:L[i]?=some (b,.cells (X++M++Y).toArray ET (0,0))) (hoff:off=X.length) (hM:M.length=n*z.length) (hk:∀Z:List Value,Z.length=M.length->k (.tuple #[]) h (L.set i (b,.cells (X++Z++Y).toArray ET (0,0)))):Ext T (.call c) c.args.toList [.slice (some ⟨b,off,none⟩) n cap] h L k:=by
 refine⟨fun ok o ρ K Q w0 h0' L0 w hop hargs inv hout hP hK=>.inl ?_⟩
 have ea:c.args.map ρ.eval=#[.slice (some ⟨b,off,none⟩) n cap]:=by apply Array.ext';simpa using hargs
 have hexec:∀r,(Builtin.clear_ #[t] o.type #[.slice (some ⟨b,off,none⟩) n cap]).run T.prog w=r->(execOp ρ.eval o).run T.prog w=r.andThen fun v w=>.ok (.value v) w:=by
  intro r hr;rw[<-hr,<-hat];simp only[execOp,hop,resolve,hc,invoke,builtin,bEg,bEj,bEf,ea]
 have hht:=ok.und _ _ ht;have hown:=inv.own _ (bDc hn);obtain⟨hlt,hget⟩:=bC9.1 hn;cases n with
 | zero=>
  have hM0:M=[]:=bDn (by rw[hM,bEv]);have hr:(Builtin.clear_ #[t] o.type #[.slice (some ⟨b,off,none⟩) 0 cap]).run T.prog w=.ok (.tuple #[]) w:=by
   simp[Builtin.clear_,run_underlying hht]
  subst hM0;have:=hk [] rfl;rw[<-hget,bGa] at this;exact aX (hexec _ hr) (hK _ _ _ _ inv this)
 | succ n=>
  obtain⟨zv,hzv,hzc⟩:=mH (T:=T) ok (w:=w) hi;have hzl:(Builtin.zeroCells zv.cells (n+1)).toList=(List.replicate (n+1) z).flatten:=by
   unfold Builtin.zeroCells;rw[hzc,bE6];show (Array.map (fun i=>z.toArray[i%z.toArray.size]!) (Array.range ((n+1)*z.length))).toList=_
   rw[pE]
  have hfl:((List.replicate (n+1) z).flatten).length=M.length:=by rw[hM,List.length_flatten,List.map_replicate,List.sum_replicate_nat]
  have hone:((List.replicate (n+1) z).flatten).all gC=true:=by
   refine List.all_eq_true.2 fun x hx=>?_
   obtain⟨l,hl,hx⟩:=List.mem_flatten.1 hx;rw[List.eq_of_mem_replicate hl] at hx;exact List.all_eq_true.1 hz x hx
  obtain⟨w',hs,hu⟩:=mI (P:=T.prog) ((List.replicate (n+1) z).flatten) w off 0 _ hown (by rw[bE6,hfl,hoff];simp only[bC6];omega) hone;have hr:(Builtin.clear_ #[t] o.type #[.slice (some ⟨b,off,none⟩) (n+1) cap]).run T.prog w=.ok (.tuple #[]) w':=by
   simp[Builtin.clear_,run_underlying hht,hzv,hzl,hs]
  have hset:kE (X++M++Y).toArray (off+0) ((List.replicate (n+1) z).flatten)=(X++(List.replicate (n+1) z).flatten++Y).toArray:=by
   have h0:off+0=X.length:=Aa;rw[iR,h0,jJ _ _ _ (by rw[hfl];simp only[bC6];omega),hfl]
   congr 1
   rw[bDb X M,bF3,<-bDb X M,<-bC6,bGn]
  refine aX (hexec _ hr) ?_;rcases hu with ⟨e0,rfl⟩|hu
  .have:=hk _ hfl;rw[e0] at hfl this;have hM0:M=[]:=bDn hfl.symm;subst hM0;rw[<-hget,bGa] at this;exact hK _ _ _ _ inv this
  .rw[hset] at hu;exact hK _ _ _ _ (inv.upd hn hu) (hk _ hfl)
end Go.Vc
namespace Go.Vc
open Go Go.Dig
theorem aSg(K Mi R:List El)(m x:El):(K++(m::Mi)++x::R).set K.length x=(K++[x])++(Mi++[x])++R:=by
 rw[bDb,bEo _ _ (bDx _),bFr];simp[bDb]
theorem aWq(K Mi R:List El)(x:El){j:Nat}(hj:j=K.length+Mi.length):(K++Mi++x::R)[j]?=some x:=by
 rw[hj,<-bC6];exact nJ _ _ _
end Go.Vc
namespace Go.Proofs.Y
open Go Go.Vc Go.Dig
attribute [local irreducible] Vc.Fn FnP
structure TmW (h:aA) (x:El):Prop where
 fr:cS h x.n x.d x.q
 sg:x.neg=sg x.q
 fac:mV h x
theorem TmW.mono{h h':aA}{x:El}(w:TmW h x)(hl:h.le h'):TmW h' x:=⟨w.fr.mono hl,w.sg,w.fac.mono hl⟩
def nz(x:El):Bool:=!decide (x.q=0)
theorem aGr(h:aA)(x:El)(w:TmW h x)(hs:Sz 1099511627776 x.q):Fn0 T F.q228 [.agg x.cells.toArray] h fun v h'=>h'=h/\v=.bool (dec (x.q=0)):=by
 have c1:=uB h x.n x.d x.q w.fr hs;have e1:Vc.eq (dS x.q) 0=dec (x.q=0):=by
  rw[pO];have h1:dS x.q=0↔x.q=0:=jZ.trans gU;by_cases h0:x.q=0
  .rw[bA h0,bA (h1.2 h0)]
  .rw[aG h0,aG (fun e=>h0 (h1.1 e))]
 obtain⟨neg,n,d,f,m,q⟩:=x;obtain rfl:neg=sg q:=w.sg;refine f0C ok D.q228 rfl ?_;conv=>whnf
 repeat' ((first|(show LdN _ _ _ _ _;refine LdN.oA 0 rfl rfl ?_)|(show CN _ _ _ _ _ _;refine CN.quiet rfl c1 ?_)|((first|apply oI.z|apply cI.z))|intro (_:Nat))<;>conv=>whnf)
 rw[e1];exact RN.a ⟨rfl,rfl⟩
end Go.Proofs.Y
/- The library's IndexFunc and DeleteFunc, at terms. -/
namespace Go.Vc
open Go Go.Dig
theorem uS(G:Own)(x y:Nat × Obj):(G++[x]).set G.length y=G++[y]:=by
 rw[bEo _ _ (bDx _),bFr];rfl
theorem Sto.elT{G:Own}{bp:Nat}{l:List El}{zs:List Value}{i:Nat}{x:El}{T:TypeId}{k:Own->Prop}(hi:i<l.length)(hk:k (G++[(bp,.cells (fl (l.set i x)++zs).toArray T (0,0))])):Sto (G++[(bp,.cells (fl l++zs).toArray T (0,0))]) ⟨bp,0+i*4,none⟩ x.cells k:=
 Sto.el G.length (mL _ _ _) hi (by rw[uS];exact hk)
theorem lH.own4{b c n:Nat}{l h:Int}{k:Option Addr->Nat->Nat->Prop}(j e:Nat)(hl:l=j)(hh:h=e)(h1:j<=e)(h2:e<=c)(h3:j<c)(hk:k (some ⟨b,j*n,none⟩) (e-j) (c-j)):lH (some ⟨b,0,none⟩) l h c n k:=
 ⟨j,e,some ⟨b,j*n,none⟩,e-j,c-j,hl,hh,h1,h2,by rw[if_neg Aa];simp[bB],rfl,rfl,hk⟩
theorem FzN.dropJ{P:aA->Own->Prop}{h:aA}{L:Own}:∀{J:Own},FzN P h L->FzN P h (J++L)
 | [],r=>r
 | _::J,r=>.drop 0 (FzN.dropJ (J:=J) r)
theorem RN.dropJ{v:Value}{h:aA}{J L:Own}{R:Value->aA->Own->Prop}(r:RN v h L R):RN v h (J++L) R:=⟨FzN.dropJ r.ex⟩
theorem aZi(K Mi:List El)(zs:List Value):fl (K++Mi)++zs=fl K++fl Mi++zs:=by rw[aR1]
end Go.Vc
namespace Go.Proofs.Y
open Go Go.Vc Go.Dig
attribute [local irreducible] Vc.Fn FnP
theorem aEh(h:aA)(bp cap:Nat)(zs:List Value)(l:List El)(hb:l.length<=1099511627776)(w:∀x∈l,TmW h x/\Sz 1099511627776 x.q):
  Vc.Fn T F.q245 [.slice (some ⟨bp,0,none⟩) l.length cap,.func (.func F.q228) #[] #[]] h [cQ bp zs l] fun v h' L'=>h'=h/\L'=[cQ bp zs l]/\
   ((v=.int .i64 (-1)/\∀x∈l,x.q≠0)\/∃(i:Nat) (x:El),v=.int .i64 i/\l[i]?=some x/\x.q=0/\∀y∈l.take i,y.q≠0):=by
 refine f1C ok D.q245 rfl ?_;conv=>whnf
 repeat ((first|apply oI.z|apply cI.z);conv=>whnf)
 skip
 refine LpN.of (fun r ρ hx L=>∃j:Nat,r=l.length-j/\hx=h/\L=[cQ bp zs l]/\j<=l.length/\rd ρ 8=.int .i64 j/\∀y∈l.take j,y.q≠0) l.length
  ⟨0,rfl,rfl,rfl,bDw _,rfl,fun y hy=>by simp at hy⟩ ?_
 conv=>whnf
 repeat intro _
 rename_i r hx L2 hI;obtain⟨j,rfl,rfl,rfl,hj,e8,hq⟩:=hI;conv at e8=>lhs;whnf
 subst e8;by_cases hjl:j=l.length
 .rw[hjl,bDm] at hq;obtain⟨N,hN⟩:=AB l.length;rw[<-hN] at hjl ⊢;conv=>whnf
  repeat' ((first|((first|apply oI.z|apply cI.z))|(apply aB<;>intro _<;>try (exfalso;omega)))<;>conv=>whnf)
  exact RN.done ⟨rfl,rfl,.inl ⟨rfl,hq⟩⟩
 .obtain⟨x,hx'⟩:∃t,l[j]?=some t:=⟨_,bC8 Aa⟩
  have hx2:=bDc hx';have c1:=aGr hx x (w x hx2).1 (w x hx2).2;have ht:=bD hx';obtain⟨N,hN⟩:=AB l.length;rw[<-hN] at hjl hj hb ⊢;conv=>whnf
  repeat' first|((first|(show Idx _ _ _ _ _;refine Idx.of j rfl Aa Aa ?_)|(show LdN _ _ _ _ _;refine LdN.el 0 rfl hx' ?_)|(show CN _ _ _ _ _ _;refine CN.quiet rfl c1 ?_)|((first|apply oI.z|apply cI.z))|refine WN.i64 Aa Aa ?_)<;>conv=>whnf)|(show cnd _ _ _;first|((first|apply aB|apply aW)<;>intro _<;>first|(exfalso;omega)|conv=>whnf))
  .exact RN.done ⟨rfl,rfl,.inr ⟨j,x,rfl,hx',Ab,hq⟩⟩
  .exact⟨rfl,N-(j+1),Aa,j+1,rfl,rfl,rfl,Aa,vi Aa,fun y hy=>by
     rw[ht] at hy;rcases bDf.1 hy with hy|hy
     .exact hq y hy
     .rw[bDk.1 hy];assumption⟩
theorem aBg(h:aA)(bp cap:Nat)(zs:List Value)(l:List El)(hb:l.length<=1099511627776)(hc:l.length<=cap)(w:∀x∈l,TmW h x/\Sz 1099511627776 x.q):
  Vc.Fn T F.q227 [.slice (some ⟨bp,0,none⟩) l.length cap,.func (.func F.q228) #[] #[]] h [cQ bp zs l] fun v h' L'=>∃zs',v=.slice (some ⟨bp,0,none⟩) (l.filter nz).length cap/\L'=[cQ bp zs' (l.filter nz)]:=by
 have c1:=aEh h bp cap zs l hb w;have c2:∀x∈l,Fn0 T F.q228 [.agg x.cells.toArray] h fun v h'=>h'=h/\v=.bool (dec (x.q=0)):=fun x hx=>aGr h x (w x hx).1 (w x hx).2
 obtain⟨N,hN⟩:=AB l.length;rw[<-hN] at c1 hb hc ⊢;obtain⟨l0,hl0⟩:=AB l;rw[<-hl0] at c1;have row0:cQ bp zs l=cQ bp zs l0:=by rw[hl0]
 rw[row0];refine f1C ok D.q227 rfl ?_;conv=>whnf
 repeat' first|((first|((first|apply oI.z|apply cI.z)))<;>conv=>whnf)|(show CN _ _ _ _ _ _;first|(refine CN.own 0 rfl rfl c1 (fun v h' La hl hr=>?_);obtain⟨rfl,rfl,⟨rfl,q1⟩|⟨i,x,rfl,q1,q2,q3⟩⟩:=hr<;>refine⟨_,rfl,?_⟩<;>(conv=>whnf)))|(apply aD<;>intro _<;>first|(exfalso;omega)|conv=>whnf)
 .have e1:l.filter nz=l:=List.filter_eq_self.2 fun y hy=>by
   rw[hl0] at q1;unfold nz;rw[decide_eq_false (q1 y hy)];rfl
  rw[e1,<-hN];exact RN.done ⟨zs,rfl,by rw[hl0];rfl⟩
 have hi:i<N:=by rw[hN,<-hl0];exact (bC9.1 q1).1
 subst hl0;have hx:l0=l0.take i++[x]++l0.drop (i+1):=by rw[<-bD q1,bDo]
 have htl:(l0.take i).length=i:=by rw[bDr];omega
 have hfl:(l0.take i).filter nz=l0.take i:=List.filter_eq_self.2 fun y hy=>by
  unfold nz;rw[decide_eq_false (q3 y hy)];rfl
 have hxn:nz x=false:=by unfold nz;rw[decide_eq_true q2];rfl
 have hmid:l0.filter nz=l0.take i++(l0.drop (i+1)).filter nz:=by
  conv=>lhs;rw[hx]
  rw[bF6,bF6,hfl,bH3,if_neg (by rw[hxn];decide),List.filter_nil,bDg]
 clear c1 row0;conv=>whnf
 repeat' ((first|((first|apply oI.z|apply cI.z))|refine WN.i64 Aa Aa ?_)<;>conv=>whnf)
 refine LpN.of (fun r ρ h2 L=>∃(J:Vc.Own) (K Mi P R:List El),r=R.length/\h2=h'/\L=J++[cQ bp zs (K++Mi++R)]/\rd ρ 5=.int .i64 (K.length:Nat)/\rd ρ 6=.int .i64 (K.length+Mi.length:Nat)/\0<Mi.length/\l0=P++R/\K=P.filter nz/\K.length+Mi.length=P.length) (l0.drop (i+1)).length
  ⟨[],l0.take i,[x],l0.take i++[x],l0.drop (i+1),rfl,rfl,by rw[<-hx];rfl,vi Aa,vi (by rw[htl];rfl),Nat.succ_pos _,hx,by rw[bF6,hfl,bH3,if_neg (by rw[hxn];decide),List.filter_nil,bDg],by simp⟩ ?_
 conv=>whnf
 repeat intro _
 rename_i r h2 L2 hI;obtain⟨J,K,Mi,P,R,rfl,rfl,rfl,e5,e6,hM,hP,hK,hPl⟩:=hI;conv at e5=>lhs;whnf
 subst e5;conv at e6=>lhs;whnf
 subst e6;have hlen:N=P.length+R.length:=by rw[hN,hP,bC6]
 match R,hP,hlen with
 | [],hP,hlen=>
  rw[bDg] at hP;rw[bDd] at hlen;have hK2:l0.filter nz=K:=by rw[hP,hK]
  rw[hK2,bDg];have eT:(cQ bp zs (K++Mi))=(bp,.cells (fl K++fl Mi++zs).toArray 92 (0,0)):=by rw[<-aZi]
  rw[eT];obtain⟨k,hk⟩:=AB K.length;rw[<-hk] at hPl ⊢;conv=>whnf
  repeat' ((first|(show lH _ _ _ _ _ _;first|refine lH.own4 k N rfl Aa Aa Aa Aa ?_|(refine lH.front (s:=⟨some ⟨bp,0,none⟩,N,cap⟩) k rfl (by show k<=cap;omega) ?_))|(show Ext _ _ _ _ _ _ _;(refine Ext.clear (X:=fl K) (M:=fl Mi) (Y:=zs) J.length rfl rfl rfl rfl rfl (mL J _ []) (by rw[cU,hk];rfl) (by rw[cU];show _=(N-k)*4;omega) (fun Z hZ=>?_);rw[uS]))|((first|apply oI.z|apply cI.z))|(apply aB<;>intro _<;>try (exfalso;omega)))<;>conv=>whnf)
  rw[bDb,hk];exact RN.dropJ (RN.done ⟨Z++zs,rfl,rfl⟩)
 | y::R,hP,hlen=>
  rw[bDa] at hlen
  match Mi,hM,hPl with
  | m::Mi,hM,hPl=>
   have hgy:=aWq K (m::Mi) R y rfl;have hy:y∈l0:=by rw[hP];simp
   have cy:=c2 y hy;have hset:=aSg K Mi R m y;obtain⟨l1,hl1⟩:=AB (K++(m::Mi)++y::R);have hl1l:l1.length=N:=by rw[hl1,hlen];simp only[bC6,bDa] at hPl ⊢;omega
   rw[<-hl1] at hgy hset ⊢;have hml:(m::Mi).length=Mi.length+1:=rfl;rw[hml] at hgy hPl ⊢;obtain⟨k,hk⟩:=AB K.length;rw[<-hk] at hPl hgy hset ⊢;conv=>whnf
   repeat' first|((first|(apply aQ.go)|(show Idx _ _ _ _ _;first|refine Idx.of (k+(Mi.length+1)) rfl Aa Aa ?_|refine Idx.of k rfl Aa Aa ?_)|(show LdN _ _ _ _ _;first|refine LdN.el J.length (mL J _ []) hgy ?_|refine LdN.o 0 rfl rfl ?_)|(show CN _ _ _ _ _ _;refine CN.quiet rfl cy ?_)|(show Sto _ _ _ _;first|(refine Sto.elT (G:=_::J) (x:=y) Aa ?_;rw[hset])|refine Sto.l 0 rfl rfl rfl ?_)|((first|apply oI.z|apply cI.z))|intro (_:Nat)|refine WN.i64 Aa Aa ?_)<;>conv=>whnf)|(show cnd _ _ _;first|(apply aB<;>intro _<;>first|(exfalso;omega)|conv=>whnf)|(refine aJ ?_)|(apply aW<;>intro _<;>first|(exfalso;omega)|conv=>whnf))
   .have hyn:nz y=false:=by unfold nz;rw[decide_eq_true Ab];rfl
    exact⟨rfl,R.length,by simp,_::J,K,m::Mi++[y],P++[y],R,rfl,rfl,by
      rw[show K++(m::Mi++[y])++R=l1 by rw[hl1];simp];rfl,vi Aa,vi (by rw[bC6,hml,bD4];omega),by simp,by rw[hP];simp,by rw[bF6,bH3,if_neg (by rw[hyn];decide),List.filter_nil,bDg,hK],by rw[bC6,bC6,hml,bD4];omega⟩
   .have hyn:nz y=true:=by unfold nz;rw[decide_eq_false Ab];rfl
    exact⟨rfl,R.length,by simp,_::J,K++[y],Mi++[y],P++[y],R,rfl,rfl,rfl,vi (by rw[bC6,bD4];omega),vi (by rw[bC6,bC6,bD4];omega),by simp,by rw[hP];simp,by rw[bF6,bH3,if_pos hyn,List.filter_nil,hK],by rw[bC6,bC6,bC6,bD4];omega⟩
end Go.Proofs.Y
/- Sorting and deleting where there is no row; rules for rows of terms. -/
namespace Go.Vc
open Go Go.Dig
def pq(x:El):Mon × Rat:=(x.m,x.q)
theorem LpN.keepOnly{body:fN->Env->aA->Own->Prop}{ws:List Nat}{Q:fN}{ρ:Env}{h:aA}{L:Own}{b:Nat}{o:Obj}(n:Nat)(hn:L[n]?=some (b,o))(hk:∀h',h.le h'->h' b=some o->LpN body ws Q ρ h' []):LpN body ws Q ρ h L:=by
 refine⟨.keep n hn fun hle=>?_⟩
 obtain⟨x⟩:=hk _ hle (by simp[aA.put]);have:∀(L:Own),FzN (fun h1 L1=>∃(I:Nat->Env->aA->Own->Prop),(∃n,I n ρ h1 L1)/\
   ∀n ρ' h' L',ρ'=over ws 0 ρ ρ'->I n ρ' h' L'->
     body (fun e ρ'' h'' L''=>match e with|.normal=>ρ''=over ws 0 ρ ρ''/\∃m,m<n/\I m ρ'' h'' L''|e=>Q e ρ'' h'' L'') ρ' h' L') (h.put b o) L:=fun L=>by
  induction L with
  | nil=>exact x
  | cons y L ih=>exact .drop 0 ih
 exact this _
theorem LdN.elI{h:aA}{L:Own}{bp:Nat}{l:List El}{zs:List Value}{i:Nat}{x:El}{T:TypeId}{fz:Nat × Nat}{k:Value->Prop}(hb:h bp=some (.cells (fl l++zs).toArray T fz))(hx:l[i]?=some x)(hk:k (.agg x.cells.toArray)):LdN h L ⟨bp,0+i*4,none⟩ 4 k:=
 ⟨x.cells,rfl,fun j hj=>by
   rw[bB,bDu];refine Has.imm hb ?_;have hj4:j<4:=hj;have hi:=(bC9.1 hx).1;rw[bD1,bDi (by rw[cU];omega),aEc hx j hj4,bC7,bC8 hj];rfl,hk⟩
theorem eW{l:List El}{zs:List Value}{i k:Nat}{x:El}{v:Value}(hx:l[i]?=some x)(hk:k<4)(hv:x.cells[k]?=some v):(fl l++zs).toArray[0+i*4+k]?=some v:=by
 have hi:=(bC9.1 hx).1;rw[bDu,bD1,bDi (by rw[cU];omega),aEc hx k hk,hv]
theorem Has.elF{h:aA}{L:Own}{bp:Nat}{l:List El}{zs:List Value}{i k:Nat}{x:El}{v:Value}{T:TypeId}{fz:Nat × Nat}(n:Nat)(hb:L[n]?=some (bp,.cells (fl l++zs).toArray T fz))(hx:l[i]?=some x)(hk:k<4)(hv:x.cells[k]?=some v):Has h L ⟨bp,0+i*4+k,none⟩ v:=
 Has.own n hb (eW hx hk hv)
theorem LdN.el3{h:aA}{L:Own}{bp:Nat}{l:List El}{zs:List Value}{i:Nat}{x:El}{T:TypeId}{fz:Nat × Nat}{k:Value->Prop}(n:Nat)(hb:L[n]?=some (bp,.cells (fl l++zs).toArray T fz))(hx:l[i]?=some x)(hk:k (.agg #[.bool x.neg,x.n.val,x.d.val])):LdN h L ⟨bp,0+i*4+0,none⟩ 3 k:=
 LdN.three (l:=fl l++zs) (.inr (bDc hb)) (by have:=eW (zs:=zs) (k:=0) (v:=.bool x.neg) hx Ad rfl;rw[bD1] at this;exact this) (by have:=eW (zs:=zs) (k:=1) (v:=x.n.val) hx Ad rfl;rw[bD1] at this;exact this) (by have:=eW (zs:=zs) (k:=2) (v:=x.d.val) hx Ad rfl;rw[bD1] at this;exact this) hk
theorem Sto.el3{L:Own}{bp:Nat}{l:List El}{zs:List Value}{i:Nat}{x y:El}{T:TypeId}{k:Own->Prop}(n:Nat)(hb:L[n]?=some (bp,.cells (fl l++zs).toArray T (0,0)))(hx:l[i]?=some x)(hf:y.f=x.f)(hk:k (L.set n (bp,.cells (fl (l.set i y)++zs).toArray T (0,0)))):Sto L ⟨bp,0+i*4+0,none⟩ [.bool y.neg,y.n.val,y.d.val] k:=by
 have hi:=(bC9.1 hx).1;refine⟨rfl,n,(fl l++zs).toArray,T,hb,?_,rfl,?_⟩
 .rw[bE6,bC6,cU];show 0+i*4+0+3<=_;omega
 .rw[iR];have e:nY [.bool y.neg,y.n.val,y.d.val] (fl l++zs) (0+i*4+0)=fl (l.set i y)++zs:=by
   have hle:i*4+4<=(fl l++zs).length:=by rw[bC6,cU];omega
   rw[<-aLn y hi,bDu,bEh,jJ _ _ _ (by show i*4+3<=_;omega),jJ _ _ _ (by rw[y.cells_len];exact hle)];have h3:(fl l++zs)[i*4+3]?=some y.f.val:=by
    have:=eW (zs:=zs) (k:=3) (v:=x.f.val) hx Ad rfl;rw[bD1,bDu] at this;rw[this,hf]
   have h4:=(bC9.1 h3);show List.take (i*4) (fl l++zs)++[.bool y.neg,y.n.val,y.d.val]++List.drop (i*4+3) (fl l++zs)=List.take (i*4) (fl l++zs)++y.cells++List.drop (i*4+4) (fl l++zs);rw[bD6 h4.1,h4.2];simp only[bDb]
   rfl
  rw[e];exact hk
end Go.Vc
namespace Go.Proofs.Y
open Go Go.Vc Go.Dig
attribute [local irreducible] Vc.Fn FnP
theorem aGs(h:aA):Fn0 T F.q254 [.slice none 0 0,.int .i64 0,.int .i64 0,.func (.func F.q225) #[] #[]] h fun v h'=>h'=h:=by
 refine f0C ok D.q254 rfl ?_;conv=>whnf
 repeat' ((first|((first|apply oI.z|apply cI.z))|refine WN.i64 Aa Aa ?_)<;>conv=>whnf)
 refine LpN.of (fun r ρ hx L=>hx=h/\rd ρ 8=.int .i64 1) 0 ⟨rfl,rfl⟩ ?_
 conv=>whnf
 repeat intro _
 rename_i r hx L2 hI;obtain⟨rfl,e8⟩:=hI;conv at e8=>lhs;whnf
 subst e8;conv=>whnf
 repeat' ((first|((first|apply oI.z|apply cI.z))|(apply aB<;>intro _<;>try (exfalso;omega)))<;>conv=>whnf)
 exact RN.a rfl
theorem aJk(h:aA):Fn0 T F.q240 [.slice none 0 0,.int .i64 0,.func (.func F.q225) #[] #[]] h fun v h'=>h'=h:=by
 have c1:=aGs;refine f0C ok D.q240 rfl ?_;conv=>whnf
 repeat ((first|apply oI.z|apply cI.z);conv=>whnf)
 skip
 refine LpN.of (fun r ρ hx L=>hx=h/\rd ρ 7=.int .i64 0/\rd ρ 8=.int .i64 20) 0 ⟨rfl,rfl,rfl⟩ ?_
 conv=>whnf
 repeat intro _
 rename_i r hx L2 hI;obtain⟨rfl,e7,e8⟩:=hI;conv at e7=>lhs;whnf
 subst e7;conv at e8=>lhs;whnf
 subst e8;conv=>whnf
 repeat' ((first|(show CN _ _ _ _ _ _;(refine CN.f rfl (c1 _) (fun v h' hl hr=>?_);subst hr))|((first|apply oI.z|apply cI.z))|(apply bI<;>intro _<;>try (exfalso;omega)))<;>conv=>whnf)
 refine LpN.of (fun r ρ hx L=>hx=h'/\rd ρ 6=.int .i64 20) 0 ⟨rfl,rfl⟩ ?_
 conv=>whnf
 repeat intro _
 rename_i r hx L2 hI;obtain⟨rfl,e6⟩:=hI;conv at e6=>lhs;whnf
 subst e6;conv=>whnf
 repeat' ((first|((first|apply oI.z|apply cI.z))|(apply aB<;>intro _<;>try (exfalso;omega)))<;>conv=>whnf)
 exact RN.a rfl
theorem aAd(h:aA):Fn0 T F.q224 [.slice none 0 0,.func (.func F.q225) #[] #[]] h fun v h'=>h'=h:=by
 have c1:=aJk;refine f0C ok D.q224 rfl ?_;conv=>whnf
 repeat' ((first|(show CN _ _ _ _ _ _;(refine CN.f rfl (c1 _) (fun v h' hl hr=>?_);subst hr))|((first|apply oI.z|apply cI.z)))<;>conv=>whnf)
 exact RN.a rfl
theorem aBh(h:aA):Fn0 T F.q245 [.slice none 0 0,.func (.func F.q228) #[] #[]] h fun v h'=>h'=h/\v=.int .i64 (-1):=by
 refine f0C ok D.q245 rfl ?_;conv=>whnf
 repeat ((first|apply oI.z|apply cI.z);conv=>whnf)
 skip
 refine LpN.of (fun r ρ hx L=>hx=h/\rd ρ 8=.int .i64 0) 0 ⟨rfl,rfl⟩ ?_
 conv=>whnf
 repeat intro _
 rename_i r hx L2 hI;obtain⟨rfl,e8⟩:=hI;conv at e8=>lhs;whnf
 subst e8;conv=>whnf
 repeat' ((first|((first|apply oI.z|apply cI.z))|(apply aB<;>intro _<;>try (exfalso;omega)))<;>conv=>whnf)
 exact RN.a ⟨rfl,rfl⟩
theorem rH(h:aA):Fn0 T F.q227 [.slice none 0 0,.func (.func F.q228) #[] #[]] h fun v h'=>h'=h/\v=.slice none 0 0:=by
 have c1:=aBh h;refine f0C ok D.q227 rfl ?_;conv=>whnf
 repeat' ((first|(show CN _ _ _ _ _ _;refine CN.quiet rfl c1 ?_)|((first|apply oI.z|apply cI.z))|(apply aD<;>intro _<;>try (exfalso;omega)))<;>conv=>whnf)
 exact RN.a ⟨rfl,rfl⟩
end Go.Proofs.Y