/- Swap: plain. -/
import Derived.Test.YtblecjeceecaaaaGreatDoorE33
import Derived.RangeFuncNested
import Derived.RangeFuncBound
import Derived.RangeFuncCalls
import Derived.RangeFuncLeaves
import Derived.RangeFuncFrom
import Derived.Shelf.Abstract
import Derived.Shelf.RegionOpen
import Derived.OwnWalkIn
import Derived.TacticsInMore
import Derived.LoopNIn
import Derived.LoopIn
import Derived.Test.YtblecjeceecaaaaGreatDoorPW9
set_option linter.all false
set_option maxHeartbeats 2000000
set_option maxRecDepth 20000
namespace Go.Proofs.Y
open Go Go.Vc Go.Dig
def sw(a b n:List Nat):List Nat:=if n=a then b else if n=b then a else n
def byP(a b:List Nat):Tr->Option Tr
 | .mk op arg neg l m name ks=>if op=2 then some (.mk op arg neg l m (sw a b name) ks) else none
def aVt:List (List Nat × Tr)->List Nat->Tr->Tr
 | [],_,t=>t
 | (n,u)::bs,name,t=>if n=name then u else aVt bs name t
def byR(bs:List (List Nat × Tr)):Tr->Option Tr
 | .mk op arg neg l m name ks=>if op=2 then some (aVt bs name (.mk op arg neg l m name ks)) else none
mutual
def swK(a b:List Nat):Kt->Kt
 | .mk op arg q name ks=>if op=2 then .mk op arg q (sw a b name) ks else .mk op arg q name (bF1 a b ks)
def bF1(a b:List Nat):List Kt->List Kt
 | []=>[]
 | t::ts=>swK a b t::bF1 a b ts
end
def swB(a b:List Nat):List (List Nat × Tr):=[(a,gA b),(b,gA a)]
def bIa(a b:List Nat)(t:Tr):Tr × Nat:=if ¬bB t then (bI,40) else if ¬(fD a/\fD b) then (bI,41) else (lC (lK (byP a b) t),0)
def bIb(a b:List Nat)(t:Tr):Tr × Nat:=if ¬bB t then (bI,40) else if ¬(fD a/\fD b) then (bI,41) else (lK (byR (swB a b)) t,0)
def bIc(x y:Tr × Nat):Prop:=x.2=y.2/\(y.2≠0->x.1=bI)/\(y.2=0->okT 1 x.1/\okT 1 y.1/\aVr x.1 y.1=true)
end Go.Proofs.Y
/- Nodes replaced: the program's replaced, Swap; the document's subst, Swap; the law. -/
namespace Go.Vc
open Go Go.Dig
theorem CN.keep0{T:Tab}{f:FuncId}{args:List Value}{h:aA}{k:Value->aA->Vc.Own->Prop}{b:Nat}{p:Obj}{tl:Vc.Own}(hf:T.fn f=true)
  (hk:∀h',h.le h'->h' b=some p->CN T f args h' tl k):CN T f args h ((b,p)::tl) k:=
 CN.keep 0 rfl hf fun h1=>hk _ h1 AE
theorem xF{ws:List Nat}:∀{i:Nat} {ρ:Env} {p q:Env->Prop},(∀ρ',p ρ'->q ρ')->rZ ws i ρ p->rZ ws i ρ q
 | i,[],p,q,f,h=>f _ h
 | i,x::ρ,p,q,f,h=>by
  cases hc:ws.contains i with
  | true=>
   simp only[rZ,hc] at h ⊢;exact fun y=>xF (fun ρ'=>f _) (h y)
  | false=>
   simp only[rZ,hc] at h ⊢;exact xF (fun ρ'=>f _) h
theorem LpN.count{body:iA->Env->aA->Vc.Own->Prop}{ws:List Nat}{Q:iA}{ρ:Env}{h:aA}{L:Vc.Own}(s n:Nat)(P:Nat->Prop)(h0:rd ρ s=.int .i64 ((0:Nat):Int))(p0:P 0)
  (hr:rZ ws 0 ρ fun ρ'=>∀j:Nat,j<=n->rd ρ' s=.int .i64 j->P j->body (fun e ρ'' h'' L''=>match e with|.normal=>ρ''=over ws 0 ρ ρ''/\∃m,m<n-j/\∃j':Nat,m=n-j'/\j'<=n/\rd ρ'' s=.int .i64 j'/\P j'/\h''=h/\L''=L|e=>Q e ρ'' h'' L'') ρ' h L):LpN body ws Q ρ h L:=by
 refine LpN.of (fun r ρ' h' L'=>∃j':Nat,r=n-j'/\j'<=n/\rd ρ' s=.int .i64 j'/\P j'/\h'=h/\L'=L) n ⟨0,rfl,bJe _,h0,p0,rfl,rfl⟩ ?_
 refine xF (fun ρ' x r h' L' hI=>?_) hr
 obtain⟨j,rfl,e2,e3,e4,rfl,rfl⟩:=hI;exact x j e2 e3 e4
theorem LpN.keepL{body:iA->Env->aA->Vc.Own->Prop}{ws:List Nat}{Q:iA}{ρ:Env}{h:aA}{L:Vc.Own}(I:Nat->Env->aA->Prop)(n0:Nat)(h0:I n0 ρ h)
  (hr:rZ ws 0 ρ fun ρ'=>∀r h',h.le h'->I r ρ' h'->body (fun e ρ'' h'' L''=>match e with|.normal=>ρ''=over ws 0 ρ ρ''/\∃m,m<r/\h.le h''/\L''=L/\I m ρ'' h''|e=>Q e ρ'' h'' L'') ρ' h' L):LpN body ws Q ρ h L:=by
 refine LpN.of (fun r ρ' h' L'=>h.le h'/\L'=L/\I r ρ' h') n0 ⟨aA.lr _,rfl,h0⟩ ?_
 refine xF (fun ρ' x r h' L' hI=>?_) hr
 obtain⟨h1,rfl,h3⟩:=hI;exact x r h' h1 h3
theorem LdN.tl3{h:aA}{A F G tl:Vc.Own}{b o m:Nat}{k:Value->Prop}{l:List Value}{T:TypeId}(hl:Nat.ble (o+m) l.length=true)(hk:k (.agg ((l.drop o).take m).toArray)):LdN h (A++(F++(G++(b,.cells l.toArray T (0,0))::tl))) ⟨b,o,none⟩ m k:=
 have hle:=bMv hl
 ⟨(l.drop o).take m,by rw[bI9,bJl];omega,fun i hi=>by
   rw[bQ];refine⟨rfl,l.toArray,T,(0,0),.inr Aq,?_⟩;rw[bJj,bIp,bKn,if_pos hi,bLt,bIq (show o+i<l.length by omega)]
   rfl,hk⟩
theorem Sto.tl3{A F G tl:Vc.Own}{b off:Nat}{vs l:List Value}{T:TypeId}{k:Vc.Own->Prop}(hl:Nat.ble (off+vs.length) l.length=true)(ho:vs.all gT=true)
  (hk:zG vs l off fun l=>k (A++(F++(G++(b,.cells l.toArray T (0,0))::tl)))):Sto (A++(F++(G++(b,.cells l.toArray T (0,0))::tl))) ⟨b,off,none⟩ vs k:=by
 have:=Sto.tl (A:=A) (X:=F++G) (tl:=tl) (b:=b) (off:=off) (vs:=vs) (l:=l) (T:=T) (k:=k) hl ho (by simpa[bIt] using hk)
 simpa[bIt] using this
end Go.Vc
namespace Go.Proofs.Y
open Go Go.Vc Go.Dig
def ByC(fb:FuncId)(cap:List Value)(g:Tr->Option Tr)(h0:aA):Prop:=
 ∀(u:Tr) (d:Nat) (h:aA) (vs:List Value),okT d u->h0.le h->IsE h vs u->Fn0 T fb (.agg vs.toArray::cap) h fun v h'=>∃a b x,v=.tuple #[a,.bool b]/\VE h' a x/\(b=true->g u=some x)/\(b=false->g u=none)
end Go.Proofs.Y
/- Binds in memory; the document's subst; Swap's law. -/
namespace Go.Vc
open Go Go.Dig
theorem Ld.tl{h:aA}{A F tl:Vc.Own}{b off:Nat}{k:Value->Prop}{l:List Value}{T:TypeId}{v:Value}(hv:l[off]?=some v)(hk:k v):Ld h (A++(F++(b,.cells l.toArray T (0,0))::tl)) ⟨b,off,none⟩ k:=
 ⟨v,⟨rfl,l.toArray,T,(0,0),.inr Aq,by simpa using hv⟩,hk⟩
end Go.Vc
namespace Go.Proofs.Y
open Go Go.Vc Go.Dig
def yS(h:aA)(c:Array Value):Nat->List (List Nat × Tr)->Prop
 | _,[]=>True
 | off,(n,t)::bs=>(c[off]?=some (.string (txt n))/\(∀y∈n,y<256)/\∃vs,vs.length=7/\(∀i,i<7->c[off+1+i]?=vs[i]?)/\IsE h vs t)/\yS h c (off+8) bs
structure IsB (h:aA) (s:Sl) (bs:List (List Nat × Tr)):Prop where
 len:s.l=bs.length
 cap:s.l<=s.c
 mem:bs=[]\/∃bl off c T fz,s.a=some ⟨bl,off,none⟩/\h bl=some (.cells c T fz)/\yS h c off bs
attribute [local irreducible] Vc.Fn
end Go.Proofs.Y
/- Case distinctions: plain. -/
namespace Go.Proofs.Y
open Go Go.Vc Go.Dig
def aG3(op:Int):Prop:=12<=op/\op<=15
instance (op:Int):Decidable (aG3 op):=by unfold aG3;exact inferInstance
mutual
def bCb:Tr->List (Int × List Nat)
 | .mk op _ _ _ _ name ks=>(op,name)::aVu ks
def aVu:List Tr->List (Int × List Nat)
 | []=>[]
 | t::ts=>bCb t++aVu ts
end
mutual
def bAy:Tr->Option (Tr × Tr × Tr)
 | .mk op arg neg l m name ks=>match bCc (if op=15 then 1 else ks.length) ks with
  | some (i,c,y,z)=>some (c,.mk op arg neg l m name (ks.set i y),.mk op arg neg l m name (ks.set i z))
  | none=>if op=12 then some (ks.getD 0 bI,ks.getD 0 bI,aG 4 0 [ks.getD 0 bI]) else if op=13 then some (aG 6 0 [ks.getD 1 bI,ks.getD 0 bI],ks.getD 0 bI,ks.getD 1 bI)
   else if op=14 then some (aG 6 0 [ks.getD 0 bI,ks.getD 1 bI],ks.getD 0 bI,ks.getD 1 bI) else if op=15 then some (ks.getD 0 bI,ks.getD 1 bI,ks.getD 2 bI) else none
def bCc:Nat->List Tr->Option (Nat × Tr × Tr × Tr)
 | 0,_=>none
 | _+1,[]=>none
 | n+1,t::ts=>match bAy t with
  | some r=>some (0,r)
  | none=>match bCc n ts with
   | some (i,r)=>some (i+1,r)
   | none=>none
end
mutual
def bHo:Tr->Nat
 | .mk op _ _ _ _ _ ks=>(if aG3 op then 1 else 0)+bCd ks
def bCd:List Tr->Nat
 | []=>0
 | t::ts=>bHo t+bCd ts
end
def bIg(op:Int)(ks:List Tr):Option (Tr × Tr × Tr):=
 if op=12 then some (ks.getD 0 bI,ks.getD 0 bI,aG 4 0 [ks.getD 0 bI]) else if op=13 then some (aG 6 0 [ks.getD 1 bI,ks.getD 0 bI],ks.getD 0 bI,ks.getD 1 bI)
   else if op=14 then some (aG 6 0 [ks.getD 0 bI,ks.getD 1 bI],ks.getD 0 bI,ks.getD 1 bI) else if op=15 then some (ks.getD 0 bI,ks.getD 1 bI,ks.getD 2 bI) else none
end Go.Proofs.Y
/- A range over the nodes of a tree: the recursive iterator's contract. -/
namespace Go.Proofs.Y
open Go Go.Vc Go.Dig Go.RowKit Go.Shelf
attribute [local go_sem] Oper.semAt_some
structure bId (W W':World):Prop where
 os:W'.os=W.os
 tape:W'.tape=W.tape
 output:W'.output=W.output
 size:W.heap.size<=W'.heap.size
 cells:∀(k:Nat) (c:Array Value) (T:TypeId) (fz:Nat × Nat),W.heap[k]?=some (Obj.cells c T fz)->W'.heap[k]?=some (Obj.cells c T fz)
def Him(h:aA)(W:World):Prop:=∀(b:Nat) (c:Array Value) (T:TypeId) (fz:Nat × Nat),h b=some (Obj.cells c T fz)->W.heap[b]?=some (Obj.cells c T fz)
structure aO5 where
 op:Int
 arg:Int
 neg:Bool
 a:Sl
 b:Sl
 name:List Nat
 s:Sl
 lt:(∀y∈name,y<256)/\name.length<=8
def aO5.cells(x:aO5):List Value:=[.int .i64 x.op,.int .i64 x.arg,.bool x.neg,.slice x.a.a x.a.l x.a.c,.slice x.b.a x.b.l x.b.c,.string (txt x.name),.slice x.s.a x.s.l x.s.c]
def aO5.tag(x:aO5):Int × List Nat:=(x.op,x.name)
end Go.Proofs.Y
/- Periods: plain. -/
namespace Go.Proofs.Y
open Go Go.Vc Go.Dig
mutual
def bDg(nm:List Nat):Tr->Bool
 | .mk op _ _ _ _ name ks=>decide (op=2/\name=nm) || bCe nm ks
def bCe(nm:List Nat):List Tr->Bool
 | []=>false
 | t::ts=>bDg nm t || bCe nm ts
end
def uN:Tr->Option Rat
 | .mk op _ neg l m _ ks=>if op=1 then some (aK neg l m) else if op=4 then (match ks with
   | .mk op' _ neg' l' m' _ _::_=>if op'=1 then some (-(aK neg' l' m')) else none
   | []=>none) else none
def bF2(t:Tr):Bool:=match uN t with|some q=>decide (q.den=1)|none=>false
def aJm(nm:List Nat):Nat->Tr->Bool
 | 0,_=>false
 | f+1,.mk op _ _ _ _ name ks=>if op=2 then decide (name=nm) else if op=4 then aJm nm f (ks.getD 0 bI) else
   if op=5\/op=6 then (aJm nm f (ks.getD 0 bI) || aJm nm f (ks.getD 1 bI)) && (aJm nm f (ks.getD 0 bI) || !bDg nm (ks.getD 0 bI)) && (aJm nm f (ks.getD 1 bI) || !bDg nm (ks.getD 1 bI)) else
   if op=7 then (bF2 (ks.getD 0 bI) && aJm nm f (ks.getD 1 bI)) || (bF2 (ks.getD 1 bI) && aJm nm f (ks.getD 0 bI)) else false
def bF3(nm:List Nat)(t:Tr):Bool:=aJm nm (szT t) t
mutual
def bHp(nm:List Nat):Tr->Bool
 | .mk op arg _ _ _ name ks=>if op=2 then decide (name≠nm) else if op=11/\3<=arg/\arg<=5/\bF3 nm (ks.getD 0 bI)=true then true else bCf nm ks
def bCf(nm:List Nat):List Tr->Bool
 | []=>true
 | t::ts=>bHp nm t && bCf nm ts
end
mutual
def bHq(nm:List Nat):Bool->Tr->Bool
 | w,.mk op arg _ _ _ name ks=>if op=2/\name=nm then w else bCg nm (if op=11/\3<=arg/\arg<=5 then bF3 nm (ks.getD 0 bI) else w) ks
def bCg(nm:List Nat):Bool->List Tr->Bool
 | _,[]=>true
 | w,t::ts=>bHq nm w t && bCg nm w ts
end
end Go.Proofs.Y
/- A range over the nodes of a tree: the iterator's contract; has, smooth. -/
namespace Go.Proofs.Y
open Go Go.Vc Go.Dig Go.RowKit Go.Shelf
attribute [local go_sem] Oper.semAt_some
end Go.Proofs.Y
/- Size and Smooth on both sides. -/
namespace Go.Proofs.Y
open Go Go.Vc Go.Dig
def bIh(t:Tr):Nat × Nat:=if bB t then (szT t,0) else (0,40)
def smX(t:Tr):Bool × Nat:=if bB t then (dec (bAy t=none),0) else (false,40)
end Go.Proofs.Y
/- Rows of kids copied, cut and turned; with, replaced (one kid). -/
namespace Go.Vc
open Go Go.Dig
end Go.Vc
namespace Go.Proofs.Y
open Go Go.Vc Go.Dig
end Go.Proofs.Y
/- The names of a tree's variables in ascending order: plain words, and the document's side. -/
namespace Go.Dig
open Go
def b8(n:List Nat):List UInt8:=n.map UInt8.ofNat
def bF4:List (List UInt8)->List UInt8->List (List UInt8)
 | [],x=>[x]
 | y::ys,x=>if y<x then y::bF4 ys x else if y=x then y::ys else x::y::ys
abbrev Srt (xs:List (List UInt8)):Prop:=xs.Pairwise (· < ·)
def bF5(l:List (Int × List Nat)):List (List UInt8):=(l.filter fun x=>decide (x.1=2)).map fun x=>b8 x.2
end Go.Dig
namespace Go.Vc
open Go Go.Dig
def sv(x:List UInt8):Value:=.string ⟨x.toArray⟩
end Go.Vc
namespace Go.Proofs.Y
open Go Go.Vc Go.Dig
def bHr(t:Tr):List (List UInt8):=(bF5 (bCb t)).foldl bF4 []
end Go.Proofs.Y
/- 'clear' of a slice of one's own row; terms like zero taken out of a row: IndexFunc, DeleteFunc. -/
namespace Go.Vc
open Go Go.Dig
theorem Ext.clear{T:Tab}{c:Call}{h:aA}{L:Own}{k:Value->aA->Own->Prop}{t e:TypeId}{z:List Value}{bytes b off n cap:Nat}{X M Y:List Value}{ET:TypeId}(i:Nat)(hc:c.callee=.builtin .clear)(hat:c.argTypes=#[t])(ht:T.und t=some (.slice e))(hi:T.inf e=some (z,bytes))(hz:z.all gT=true)
  (hn:L[i]?=some (b,.cells (X++M++Y).toArray ET (0,0))) (hoff:off=X.length) (hM:M.length=n*z.length) (hk:∀Z:List Value,Z.length=M.length->k (.tuple #[]) h (L.set i (b,.cells (X++Z++Y).toArray ET (0,0)))):Ext T (.call c) c.args.toList [.slice (some ⟨b,off,none⟩) n cap] h L k:=by
 refine⟨fun ok o ρ K Q w0 h0' L0 w hop hargs inv hout hP hK=>.inl ?_⟩
 have ea:c.args.map ρ.eval=#[.slice (some ⟨b,off,none⟩) n cap]:=by apply Array.ext';simpa using hargs
 have hexec:∀r,(Builtin.clear_ #[t] o.type #[.slice (some ⟨b,off,none⟩) n cap]).run T.prog w=r->(execOp ρ.eval o).run T.prog w=r.andThen fun v w=>.ok (.value v) w:=by
  intro r hr;rw[<-hr,<-hat];simp only[execOp,hop,resolve,hc,invoke,builtin,bJy,bJ2,bJx,ea]
 have hht:=ok.und _ _ ht;have hown:=inv.own _ (bIu hn);obtain⟨hlt,hget⟩:=bIr.1 hn;cases n with
 | zero=>
  have hM0:M=[]:=bI5 (by rw[hM,bKi]);have hr:(Builtin.clear_ #[t] o.type #[.slice (some ⟨b,off,none⟩) 0 cap]).run T.prog w=.ok (.tuple #[]) w:=by
   simp[Builtin.clear_,run_underlying hht]
  subst hM0;have:=hk [] rfl;rw[<-hget,bL0] at this;exact bU (hexec _ hr) (hK _ _ _ _ inv this)
 | succ n=>
  obtain⟨zv,hzv,hzc⟩:=nC (T:=T) ok (w:=w) hi;have hzl:(Builtin.zeroCells zv.cells (n+1)).toList=(List.replicate (n+1) z).flatten:=by
   unfold Builtin.zeroCells;rw[hzc,bLp];show (Array.map (fun i=>z.toArray[i%z.toArray.size]!) (Array.range ((n+1)*z.length))).toList=_
   rw[qM]
  have hfl:((List.replicate (n+1) z).flatten).length=M.length:=by rw[hM,List.length_flatten,List.map_replicate,List.sum_replicate_nat]
  have hone:((List.replicate (n+1) z).flatten).all gT=true:=by
   refine List.all_eq_true.2 fun x hx=>?_
   obtain⟨l,hl,hx⟩:=List.mem_flatten.1 hx;rw[List.eq_of_mem_replicate hl] at hx;exact List.all_eq_true.1 hz x hx
  obtain⟨w',hs,hu⟩:=nD (P:=T.prog) ((List.replicate (n+1) z).flatten) w off 0 _ hown (by rw[bLp,hfl,hoff];simp only[bIo];omega) hone;have hr:(Builtin.clear_ #[t] o.type #[.slice (some ⟨b,off,none⟩) (n+1) cap]).run T.prog w=.ok (.tuple #[]) w':=by
   simp[Builtin.clear_,run_underlying hht,hzv,hzl,hs]
  have hset:lU (X++M++Y).toArray (off+0) ((List.replicate (n+1) z).flatten)=(X++(List.replicate (n+1) z).flatten++Y).toArray:=by
   have h0:off+0=X.length:=Aa;rw[kC,h0,lE _ _ _ (by rw[hfl];simp only[bIo];omega),hfl]
   congr 1
   rw[bIt X M,bLq,<-bIt X M,<-bIo,bMg]
  refine bU (hexec _ hr) ?_;rcases hu with ⟨e0,rfl⟩|hu
  .have:=hk _ hfl;rw[e0] at hfl this;have hM0:M=[]:=bI5 hfl.symm;subst hM0;rw[<-hget,bL0] at this;exact hK _ _ _ _ inv this
  .rw[hset] at hu;exact hK _ _ _ _ (inv.upd hn hu) (hk _ hfl)
end Go.Vc
namespace Go.Vc
open Go Go.Dig
theorem aVv(K Mi R:List El)(m x:El):(K++(m::Mi)++x::R).set K.length x=(K++[x])++(Mi++[x])++R:=by
 rw[bIt,bJ5 _ _ (bJf _),bK7];simp[bIt]
theorem bAz(K Mi R:List El)(x:El){j:Nat}(hj:j=K.length+Mi.length):(K++Mi++x::R)[j]?=some x:=by
 rw[hj,<-bIo];exact oT _ _ _
end Go.Vc
namespace Go.Proofs.Y
open Go Go.Vc Go.Dig
attribute [local irreducible] Vc.Fn FnP
structure TmW (h:aA) (x:El):Prop where
 fr:eJ h x.n x.d x.q
 sg:x.neg=sg x.q
 fac:lQ h x
theorem TmW.mono{h h':aA}{x:El}(w:TmW h x)(hl:h.le h'):TmW h' x:=⟨w.fr.mono hl,w.sg,w.fac.mono hl⟩
def nz(x:El):Bool:=!decide (x.q=0)
theorem aJn(h:aA)(x:El)(w:TmW h x)(hs:Sz 1099511627776 x.q):Fn0 T F.q300 [.agg x.cells.toArray] h fun v h'=>h'=h/\v=.bool (dec (x.q=0)):=by
 have c1:=aAc h x.n x.d x.q w.fr hs;have e1:Vc.eq (dH x.q) 0=dec (x.q=0):=by
  rw[lF];have h1:dH x.q=0↔x.q=0:=eL.trans cE;by_cases h0:x.q=0
  .rw[aX h0,aX (h1.2 h0)]
  .rw[aH h0,aH (fun e=>h0 (h1.1 e))]
 obtain⟨neg,n,d,f,m,q⟩:=x;obtain rfl:neg=sg q:=w.sg;refine f0C ok D.q300 rfl ?_;conv=>whnf
 repeat' ((first|(show LdN _ _ _ _ _;refine LdN.oA 0 rfl rfl ?_)|(show CN _ _ _ _ _ _;refine CN.quiet rfl c1 ?_)|((first|apply oI.z|apply cI.z))|intro (_:Nat))<;>conv=>whnf)
 rw[e1];exact RN.a ⟨rfl,rfl⟩
end Go.Proofs.Y
/- The library's IndexFunc and DeleteFunc, at terms. -/
namespace Go.Vc
open Go Go.Dig
theorem xG(G:Own)(x y:Nat × Obj):(G++[x]).set G.length y=G++[y]:=by
 rw[bJ5 _ _ (bJf _),bK7];rfl
theorem Sto.elT{G:Own}{bp:Nat}{l:List El}{zs:List Value}{i:Nat}{x:El}{T:TypeId}{k:Own->Prop}(hi:i<l.length)(hk:k (G++[(bp,.cells (fl (l.set i x)++zs).toArray T (0,0))])):Sto (G++[(bp,.cells (fl l++zs).toArray T (0,0))]) ⟨bp,0+i*4,none⟩ x.cells k:=
 Sto.el G.length (nH _ _ _) hi (by rw[xG];exact hk)
theorem kL.own4{b c n:Nat}{l h:Int}{k:Option Addr->Nat->Nat->Prop}(j e:Nat)(hl:l=j)(hh:h=e)(h1:j<=e)(h2:e<=c)(h3:j<c)(hk:k (some ⟨b,j*n,none⟩) (e-j) (c-j)):kL (some ⟨b,0,none⟩) l h c n k:=
 ⟨j,e,some ⟨b,j*n,none⟩,e-j,c-j,hl,hh,h1,h2,by rw[if_neg Aa];simp[bQ],rfl,rfl,hk⟩
theorem FzN.dropJ{P:aA->Own->Prop}{h:aA}{L:Own}:∀{J:Own},FzN P h L->FzN P h (J++L)
 | [],r=>r
 | _::J,r=>.drop 0 (FzN.dropJ (J:=J) r)
theorem RN.dropJ{v:Value}{h:aA}{J L:Own}{R:Value->aA->Own->Prop}(r:RN v h L R):RN v h (J++L) R:=⟨FzN.dropJ r.ex⟩
theorem bDh(K Mi:List El)(zs:List Value):fl (K++Mi)++zs=fl K++fl Mi++zs:=by rw[aGx]
end Go.Vc
namespace Go.Proofs.Y
open Go Go.Vc Go.Dig
attribute [local irreducible] Vc.Fn FnP
theorem aG4(h:aA)(bp cap:Nat)(zs:List Value)(l:List El)(hb:l.length<=1099511627776)(w:∀x∈l,TmW h x/\Sz 1099511627776 x.q):
  Vc.Fn T F.q334 [.slice (some ⟨bp,0,none⟩) l.length cap,.func (.func F.q300) #[] #[]] h [dY bp zs l] fun v h' L'=>h'=h/\L'=[dY bp zs l]/\
   ((v=.int .i64 (-1)/\∀x∈l,x.q≠0)\/∃(i:Nat) (x:El),v=.int .i64 i/\l[i]?=some x/\x.q=0/\∀y∈l.take i,y.q≠0):=by
 refine f1C ok D.q334 rfl ?_;conv=>whnf
 repeat ((first|apply oI.z|apply cI.z);conv=>whnf)
 skip
 refine LpN.of (fun r ρ hx L=>∃j:Nat,r=l.length-j/\hx=h/\L=[dY bp zs l]/\j<=l.length/\rd ρ 8=.int .i64 j/\∀y∈l.take j,y.q≠0) l.length
  ⟨0,rfl,rfl,rfl,bJe _,rfl,fun y hy=>by simp at hy⟩ ?_
 conv=>whnf
 repeat intro _
 rename_i r hx L2 hI;obtain⟨j,rfl,rfl,rfl,hj,e8,hq⟩:=hI;conv at e8=>lhs;whnf
 subst e8;by_cases hjl:j=l.length
 .rw[hjl,bI4] at hq;obtain⟨N,hN⟩:=AH l.length;rw[<-hN] at hjl ⊢;conv=>whnf
  repeat' ((first|((first|apply oI.z|apply cI.z))|(apply aB<;>intro _<;>try (exfalso;omega)))<;>conv=>whnf)
  exact RN.done ⟨rfl,rfl,.inl ⟨rfl,hq⟩⟩
 .obtain⟨x,hx'⟩:∃t,l[j]?=some t:=⟨_,bIq Aa⟩
  have hx2:=bIu hx';have c1:=aJn hx x (w x hx2).1 (w x hx2).2;have ht:=aY hx';obtain⟨N,hN⟩:=AH l.length;rw[<-hN] at hjl hj hb ⊢;conv=>whnf
  repeat' first|((first|(show Idx _ _ _ _ _;refine Idx.of j rfl Aa Aa ?_)|(show LdN _ _ _ _ _;refine LdN.el 0 rfl hx' ?_)|(show CN _ _ _ _ _ _;refine CN.quiet rfl c1 ?_)|((first|apply oI.z|apply cI.z))|refine WN.i64 Aa Aa ?_)<;>conv=>whnf)|(show cnd _ _ _;first|((first|apply aB|apply aU)<;>intro _<;>first|(exfalso;omega)|conv=>whnf))
  .exact RN.done ⟨rfl,rfl,.inr ⟨j,x,rfl,hx',Ab,hq⟩⟩
  .exact⟨rfl,N-(j+1),Aa,j+1,rfl,rfl,rfl,Aa,vi Aa,fun y hy=>by
     rw[ht] at hy;rcases bIx.1 hy with hy|hy
     .exact hq y hy
     .rw[bI2.1 hy];assumption⟩
theorem aDh(h:aA)(bp cap:Nat)(zs:List Value)(l:List El)(hb:l.length<=1099511627776)(hc:l.length<=cap)(w:∀x∈l,TmW h x/\Sz 1099511627776 x.q):
  Vc.Fn T F.q299 [.slice (some ⟨bp,0,none⟩) l.length cap,.func (.func F.q300) #[] #[]] h [dY bp zs l] fun v h' L'=>∃zs',v=.slice (some ⟨bp,0,none⟩) (l.filter nz).length cap/\L'=[dY bp zs' (l.filter nz)]:=by
 have c1:=aG4 h bp cap zs l hb w;have c2:∀x∈l,Fn0 T F.q300 [.agg x.cells.toArray] h fun v h'=>h'=h/\v=.bool (dec (x.q=0)):=fun x hx=>aJn h x (w x hx).1 (w x hx).2
 obtain⟨N,hN⟩:=AH l.length;rw[<-hN] at c1 hb hc ⊢;obtain⟨l0,hl0⟩:=AH l;rw[<-hl0] at c1;have row0:dY bp zs l=dY bp zs l0:=by rw[hl0]
 rw[row0];refine f1C ok D.q299 rfl ?_;conv=>whnf
 repeat' first|((first|((first|apply oI.z|apply cI.z)))<;>conv=>whnf)|(show CN _ _ _ _ _ _;first|(refine CN.own 0 rfl rfl c1 (fun v h' La hl hr=>?_);obtain⟨rfl,rfl,⟨rfl,q1⟩|⟨i,x,rfl,q1,q2,q3⟩⟩:=hr<;>refine⟨_,rfl,?_⟩<;>(conv=>whnf)))|(apply aD<;>intro _<;>first|(exfalso;omega)|conv=>whnf)
 .have e1:l.filter nz=l:=List.filter_eq_self.2 fun y hy=>by
   rw[hl0] at q1;unfold nz;rw[decide_eq_false (q1 y hy)];rfl
  rw[e1,<-hN];exact RN.done ⟨zs,rfl,by rw[hl0];rfl⟩
 have hi:i<N:=by rw[hN,<-hl0];exact (bIr.1 q1).1
 subst hl0;have hx:l0=l0.take i++[x]++l0.drop (i+1):=by rw[<-aY q1,bI6]
 have htl:(l0.take i).length=i:=by rw[bI9];omega
 have hfl:(l0.take i).filter nz=l0.take i:=List.filter_eq_self.2 fun y hy=>by
  unfold nz;rw[decide_eq_false (q3 y hy)];rfl
 have hxn:nz x=false:=by unfold nz;rw[decide_eq_true q2];rfl
 have hmid:l0.filter nz=l0.take i++(l0.drop (i+1)).filter nz:=by
  conv=>lhs;rw[hx]
  rw[bLj,bLj,hfl,bNp,if_neg (by rw[hxn];decide),List.filter_nil,bIy]
 clear c1 row0;conv=>whnf
 repeat' ((first|((first|apply oI.z|apply cI.z))|refine WN.i64 Aa Aa ?_)<;>conv=>whnf)
 refine LpN.of (fun r ρ h2 L=>∃(J:Vc.Own) (K Mi P R:List El),r=R.length/\h2=h'/\L=J++[dY bp zs (K++Mi++R)]/\rd ρ 5=.int .i64 (K.length:Nat)/\rd ρ 6=.int .i64 (K.length+Mi.length:Nat)/\0<Mi.length/\l0=P++R/\K=P.filter nz/\K.length+Mi.length=P.length) (l0.drop (i+1)).length
  ⟨[],l0.take i,[x],l0.take i++[x],l0.drop (i+1),rfl,rfl,by rw[<-hx];rfl,vi Aa,vi (by rw[htl];rfl),Nat.succ_pos _,hx,by rw[bLj,hfl,bNp,if_neg (by rw[hxn];decide),List.filter_nil,bIy],by simp⟩ ?_
 conv=>whnf
 repeat intro _
 rename_i r h2 L2 hI;obtain⟨J,K,Mi,P,R,rfl,rfl,rfl,e5,e6,hM,hP,hK,hPl⟩:=hI;conv at e5=>lhs;whnf
 subst e5;conv at e6=>lhs;whnf
 subst e6;have hlen:N=P.length+R.length:=by rw[hN,hP,bIo]
 match R,hP,hlen with
 | [],hP,hlen=>
  rw[bIy] at hP;rw[bIv] at hlen;have hK2:l0.filter nz=K:=by rw[hP,hK]
  rw[hK2,bIy];have eT:(dY bp zs (K++Mi))=(bp,.cells (fl K++fl Mi++zs).toArray 98 (0,0)):=by rw[<-bDh]
  rw[eT];obtain⟨k,hk⟩:=AH K.length;rw[<-hk] at hPl ⊢;conv=>whnf
  repeat' ((first|(show kL _ _ _ _ _ _;first|refine kL.own4 k N rfl Aa Aa Aa Aa ?_|(refine kL.front (s:=⟨some ⟨bp,0,none⟩,N,cap⟩) k rfl (by show k<=cap;omega) ?_))|(show Ext _ _ _ _ _ _ _;(refine Ext.clear (X:=fl K) (M:=fl Mi) (Y:=zs) J.length rfl rfl rfl rfl rfl (nH J _ []) (by rw[bK,hk];rfl) (by rw[bK];show _=(N-k)*4;omega) (fun Z hZ=>?_);rw[xG]))|((first|apply oI.z|apply cI.z))|(apply aB<;>intro _<;>try (exfalso;omega)))<;>conv=>whnf)
  rw[bIt,hk];exact RN.dropJ (RN.done ⟨Z++zs,rfl,rfl⟩)
 | y::R,hP,hlen=>
  rw[bIs] at hlen
  match Mi,hM,hPl with
  | m::Mi,hM,hPl=>
   have hgy:=bAz K (m::Mi) R y rfl;have hy:y∈l0:=by rw[hP];simp
   have cy:=c2 y hy;have hset:=aVv K Mi R m y;obtain⟨l1,hl1⟩:=AH (K++(m::Mi)++y::R);have hl1l:l1.length=N:=by rw[hl1,hlen];simp only[bIo,bIs] at hPl ⊢;omega
   rw[<-hl1] at hgy hset ⊢;have hml:(m::Mi).length=Mi.length+1:=rfl;rw[hml] at hgy hPl ⊢;obtain⟨k,hk⟩:=AH K.length;rw[<-hk] at hPl hgy hset ⊢;conv=>whnf
   repeat' first|((first|(apply bJ.go)|(show Idx _ _ _ _ _;first|refine Idx.of (k+(Mi.length+1)) rfl Aa Aa ?_|refine Idx.of k rfl Aa Aa ?_)|(show LdN _ _ _ _ _;first|refine LdN.el J.length (nH J _ []) hgy ?_|refine LdN.o 0 rfl rfl ?_)|(show CN _ _ _ _ _ _;refine CN.quiet rfl cy ?_)|(show Sto _ _ _ _;first|(refine Sto.elT (G:=_::J) (x:=y) Aa ?_;rw[hset])|refine Sto.l 0 rfl rfl rfl ?_)|((first|apply oI.z|apply cI.z))|intro (_:Nat)|refine WN.i64 Aa Aa ?_)<;>conv=>whnf)|(show cnd _ _ _;first|(apply aB<;>intro _<;>first|(exfalso;omega)|conv=>whnf)|(refine aI ?_)|(apply aU<;>intro _<;>first|(exfalso;omega)|conv=>whnf))
   .have hyn:nz y=false:=by unfold nz;rw[decide_eq_true Ab];rfl
    exact⟨rfl,R.length,by simp,_::J,K,m::Mi++[y],P++[y],R,rfl,rfl,by
      rw[show K++(m::Mi++[y])++R=l1 by rw[hl1];simp];rfl,vi Aa,vi (by rw[bIo,hml,bJm];omega),by simp,by rw[hP];simp,by rw[bLj,bNp,if_neg (by rw[hyn];decide),List.filter_nil,bIy,hK],by rw[bIo,bIo,hml,bJm];omega⟩
   .have hyn:nz y=true:=by unfold nz;rw[decide_eq_false Ab];rfl
    exact⟨rfl,R.length,by simp,_::J,K++[y],Mi++[y],P++[y],R,rfl,rfl,rfl,vi (by rw[bIo,bJm];omega),vi (by rw[bIo,bIo,bJm];omega),by simp,by rw[hP];simp,by rw[bLj,bNp,if_pos hyn,List.filter_nil,hK],by rw[bIo,bIo,bIo,bJm];omega⟩
end Go.Proofs.Y
/- Sorting and deleting where there is no row; rules for rows of terms. -/
namespace Go.Vc
open Go Go.Dig
def pq(x:El):Mon × Rat:=(x.m,x.q)
theorem LpN.keepOnly{body:iA->Env->aA->Own->Prop}{ws:List Nat}{Q:iA}{ρ:Env}{h:aA}{L:Own}{b:Nat}{o:Obj}(n:Nat)(hn:L[n]?=some (b,o))(hk:∀h',h.le h'->h' b=some o->LpN body ws Q ρ h' []):LpN body ws Q ρ h L:=by
 refine⟨.keep n hn fun hle=>?_⟩
 obtain⟨x⟩:=hk _ hle AE;have:∀(L:Own),FzN (fun h1 L1=>∃(I:Nat->Env->aA->Own->Prop),(∃n,I n ρ h1 L1)/\
   ∀n ρ' h' L',ρ'=over ws 0 ρ ρ'->I n ρ' h' L'->
     body (fun e ρ'' h'' L''=>match e with|.normal=>ρ''=over ws 0 ρ ρ''/\∃m,m<n/\I m ρ'' h'' L''|e=>Q e ρ'' h'' L'') ρ' h' L') (h.put b o) L:=fun L=>by
  induction L with
  | nil=>exact x
  | cons y L ih=>exact .drop 0 ih
 exact this _
theorem LdN.elI{h:aA}{L:Own}{bp:Nat}{l:List El}{zs:List Value}{i:Nat}{x:El}{T:TypeId}{fz:Nat × Nat}{k:Value->Prop}(hb:h bp=some (.cells (fl l++zs).toArray T fz))(hx:l[i]?=some x)(hk:k (.agg x.cells.toArray)):LdN h L ⟨bp,0+i*4,none⟩ 4 k:=
 ⟨x.cells,rfl,fun j hj=>by
   rw[bQ,bJc];refine Has.imm hb ?_;have hj4:j<4:=hj;have hi:=(bIr.1 hx).1;rw[bJj,bI0 (by rw[bK];omega),aGy hx j hj4,bIp,bIq hj];rfl,hk⟩
theorem gD{l:List El}{zs:List Value}{i k:Nat}{x:El}{v:Value}(hx:l[i]?=some x)(hk:k<4)(hv:x.cells[k]?=some v):(fl l++zs).toArray[0+i*4+k]?=some v:=by
 have hi:=(bIr.1 hx).1;rw[bJc,bJj,bI0 (by rw[bK];omega),aGy hx k hk,hv]
theorem Has.elF{h:aA}{L:Own}{bp:Nat}{l:List El}{zs:List Value}{i k:Nat}{x:El}{v:Value}{T:TypeId}{fz:Nat × Nat}(n:Nat)(hb:L[n]?=some (bp,.cells (fl l++zs).toArray T fz))(hx:l[i]?=some x)(hk:k<4)(hv:x.cells[k]?=some v):Has h L ⟨bp,0+i*4+k,none⟩ v:=
 Has.own n hb (gD hx hk hv)
theorem LdN.el3{h:aA}{L:Own}{bp:Nat}{l:List El}{zs:List Value}{i:Nat}{x:El}{T:TypeId}{fz:Nat × Nat}{k:Value->Prop}(n:Nat)(hb:L[n]?=some (bp,.cells (fl l++zs).toArray T fz))(hx:l[i]?=some x)(hk:k (.agg #[.bool x.neg,x.n.val,x.d.val])):LdN h L ⟨bp,0+i*4+0,none⟩ 3 k:=
 LdN.three (l:=fl l++zs) (.inr (bIu hb)) (by have:=gD (zs:=zs) (k:=0) (v:=.bool x.neg) hx Ae rfl;rw[bJj] at this;exact this) (by have:=gD (zs:=zs) (k:=1) (v:=x.n.val) hx Ae rfl;rw[bJj] at this;exact this) (by have:=gD (zs:=zs) (k:=2) (v:=x.d.val) hx Ae rfl;rw[bJj] at this;exact this) hk
theorem Sto.el3{L:Own}{bp:Nat}{l:List El}{zs:List Value}{i:Nat}{x y:El}{T:TypeId}{k:Own->Prop}(n:Nat)(hb:L[n]?=some (bp,.cells (fl l++zs).toArray T (0,0)))(hx:l[i]?=some x)(hf:y.f=x.f)(hk:k (L.set n (bp,.cells (fl (l.set i y)++zs).toArray T (0,0)))):Sto L ⟨bp,0+i*4+0,none⟩ [.bool y.neg,y.n.val,y.d.val] k:=by
 have hi:=(bIr.1 hx).1;refine⟨rfl,n,(fl l++zs).toArray,T,hb,?_,rfl,?_⟩
 .rw[bLp,bIo,bK];show 0+i*4+0+3<=_;omega
 .rw[kC];have e:nB [.bool y.neg,y.n.val,y.d.val] (fl l++zs) (0+i*4+0)=fl (l.set i y)++zs:=by
   have hle:i*4+4<=(fl l++zs).length:=by rw[bIo,bK];omega
   rw[<-aOx y hi,bJc,bJz,lE _ _ _ (by show i*4+3<=_;omega),lE _ _ _ (by rw[y.cells_len];exact hle)];have h3:(fl l++zs)[i*4+3]?=some y.f.val:=by
    have:=gD (zs:=zs) (k:=3) (v:=x.f.val) hx Ae rfl;rw[bJj,bJc] at this;rw[this,hf]
   have h4:=(bIr.1 h3);show List.take (i*4) (fl l++zs)++[.bool y.neg,y.n.val,y.d.val]++List.drop (i*4+3) (fl l++zs)=List.take (i*4) (fl l++zs)++y.cells++List.drop (i*4+4) (fl l++zs);rw[bJo h4.1,h4.2];simp only[bIt]
   rfl
  rw[e];exact hk
end Go.Vc
namespace Go.Proofs.Y
open Go Go.Vc Go.Dig
attribute [local irreducible] Vc.Fn FnP
theorem aJo(h:aA):Fn0 T F.q349 [.slice none 0 0,.int .i64 0,.int .i64 0,.func (.func F.q297) #[] #[]] h fun v h'=>h'=h:=by
 refine f0C ok D.q349 rfl ?_;conv=>whnf
 repeat' ((first|((first|apply oI.z|apply cI.z))|refine WN.i64 Aa Aa ?_)<;>conv=>whnf)
 refine LpN.of (fun r ρ hx L=>hx=h/\rd ρ 8=.int .i64 1) 0 ⟨rfl,rfl⟩ ?_
 conv=>whnf
 repeat intro _
 rename_i r hx L2 hI;obtain⟨rfl,e8⟩:=hI;conv at e8=>lhs;whnf
 subst e8;conv=>whnf
 repeat' ((first|((first|apply oI.z|apply cI.z))|(apply aB<;>intro _<;>try (exfalso;omega)))<;>conv=>whnf)
 exact RN.a rfl
theorem aMu(h:aA):Fn0 T F.q329 [.slice none 0 0,.int .i64 0,.func (.func F.q297) #[] #[]] h fun v h'=>h'=h:=by
 have c1:=aJo;refine f0C ok D.q329 rfl ?_;conv=>whnf
 repeat ((first|apply oI.z|apply cI.z);conv=>whnf)
 skip
 refine LpN.of (fun r ρ hx L=>hx=h/\rd ρ 7=.int .i64 0/\rd ρ 8=.int .i64 20) 0 ⟨rfl,rfl,rfl⟩ ?_
 conv=>whnf
 repeat intro _
 rename_i r hx L2 hI;obtain⟨rfl,e7,e8⟩:=hI;conv at e7=>lhs;whnf
 subst e7;conv at e8=>lhs;whnf
 subst e8;conv=>whnf
 repeat' ((first|(show CN _ _ _ _ _ _;(refine CN.f rfl (c1 _) (fun v h' hl hr=>?_);subst hr))|((first|apply oI.z|apply cI.z))|(apply bX<;>intro _<;>try (exfalso;omega)))<;>conv=>whnf)
 refine LpN.of (fun r ρ hx L=>hx=h'/\rd ρ 6=.int .i64 20) 0 ⟨rfl,rfl⟩ ?_
 conv=>whnf
 repeat intro _
 rename_i r hx L2 hI;obtain⟨rfl,e6⟩:=hI;conv at e6=>lhs;whnf
 subst e6;conv=>whnf
 repeat' ((first|((first|apply oI.z|apply cI.z))|(apply aB<;>intro _<;>try (exfalso;omega)))<;>conv=>whnf)
 exact RN.a rfl
theorem aCa(h:aA):Fn0 T F.q296 [.slice none 0 0,.func (.func F.q297) #[] #[]] h fun v h'=>h'=h:=by
 have c1:=aMu;refine f0C ok D.q296 rfl ?_;conv=>whnf
 repeat' ((first|(show CN _ _ _ _ _ _;(refine CN.f rfl (c1 _) (fun v h' hl hr=>?_);subst hr))|((first|apply oI.z|apply cI.z)))<;>conv=>whnf)
 exact RN.a rfl
theorem aDi(h:aA):Fn0 T F.q334 [.slice none 0 0,.func (.func F.q300) #[] #[]] h fun v h'=>h'=h/\v=.int .i64 (-1):=by
 refine f0C ok D.q334 rfl ?_;conv=>whnf
 repeat ((first|apply oI.z|apply cI.z);conv=>whnf)
 skip
 refine LpN.of (fun r ρ hx L=>hx=h/\rd ρ 8=.int .i64 0) 0 ⟨rfl,rfl⟩ ?_
 conv=>whnf
 repeat intro _
 rename_i r hx L2 hI;obtain⟨rfl,e8⟩:=hI;conv at e8=>lhs;whnf
 subst e8;conv=>whnf
 repeat' ((first|((first|apply oI.z|apply cI.z))|(apply aB<;>intro _<;>try (exfalso;omega)))<;>conv=>whnf)
 exact RN.a ⟨rfl,rfl⟩
theorem tA(h:aA):Fn0 T F.q299 [.slice none 0 0,.func (.func F.q300) #[] #[]] h fun v h'=>h'=h/\v=.slice none 0 0:=by
 have c1:=aDi h;refine f0C ok D.q299 rfl ?_;conv=>whnf
 repeat' ((first|(show CN _ _ _ _ _ _;refine CN.quiet rfl c1 ?_)|((first|apply oI.z|apply cI.z))|(apply aD<;>intro _<;>try (exfalso;omega)))<;>conv=>whnf)
 exact RN.a ⟨rfl,rfl⟩
end Go.Proofs.Y