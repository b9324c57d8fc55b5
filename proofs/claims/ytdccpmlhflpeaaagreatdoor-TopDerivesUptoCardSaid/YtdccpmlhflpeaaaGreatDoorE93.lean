/- Subst: plain. -/
import Derived.Test.YtdccpmlhflpeaaaGreatDoorPF3
set_option linter.all false
set_option maxHeartbeats 1000000
set_option maxRecDepth 20000
namespace Go.Proofs.Y
open Go Go.Vc Go.Dig
def jQ{α:Type}(bs:List (List Nat × α)):Prop:=(∀b∈bs,fE b.1)/\(bs.map (·.1)).Nodup
def bB5(bs:List (List Nat × Tr)):Prop:=∀b∈bs,dN b.2
instance {α:Type} (bs:List (List Nat × α)):Decidable (jQ bs):=by unfold jQ;exact inferInstance
instance (bs:List (List Nat × Tr)):Decidable (bB5 bs):=by unfold bB5;exact inferInstance
end Go.Proofs.Y
/- Maps with names for gI; nodes replaced by a function value with one captured cell. -/
namespace Go.Vc
open Go Go.Dig
theorem aZj{v:Value}{z:List Value}(h:v.cells=z.toArray)(hz:z.length≠1):v=.agg z.toArray:=by
 have hs:=congrArg Array.size h;cases v
 case agg cs=>exact congrArg Value.agg h
 all_goals exact absurd (show 1=z.length by simpa[Value.cells] using hs).symm hz
theorem aSh{T:Tab}(ok:T.Ok){w:World}{t kt et:TypeId}{d:TypeDesc}{key v:Value}{b i:Nat}{es:Array MapEntry}{clock:Nat}(hg:w.heap[b]?=some (.map es clock))(hm:T.und t=some (.map kt et))(hd:T.und kt=some d)
  (hkey:MapKept.IsKey d key) (hf:Instr.findNow d key es.toList 0=some (some (i,v))):(Instr.lookup t (.map (some b)) key true).run T.prog w=.ok (.tuple #[v,.bool true]) w:=by
 have hck:=MapKept.run_checkKey (P:=T.prog) (w:=w) (ok.und _ _ hd) hkey es.isEmpty 9999;simp[Instr.lookup,run_underlying (ok.und _ _ hm),MapKept.run_getObj_map hg,hck,MapKept.run_findKey (ok.und _ _ hd) hf,Result.andThen]
theorem aOb{T:Tab}(ok:T.Ok){w:World}{t kt et:TypeId}{d:TypeDesc}{key:Value}{b n:Nat}{es:Array MapEntry}{clock:Nat}{z:List Value}(hg:w.heap[b]?=some (.map es clock))(hm:T.und t=some (.map kt et))(hd:T.und kt=some d)
  (hz:T.inf et=some (z,n)) (hz1:z.length≠1) (hkey:MapKept.IsKey d key) (hf:Instr.findNow d key es.toList 0=some none):(Instr.lookup t (.map (some b)) key true).run T.prog w=.ok (.tuple #[.agg z.toArray,.bool false]) w:=by
 have hck:=MapKept.run_checkKey (P:=T.prog) (w:=w) (ok.und _ _ hd) hkey es.isEmpty 9999;obtain⟨v,hzr,hc⟩:=mH (w:=w) ok hz;rw[aZj hc hz1] at hzr;simp[Instr.lookup,run_underlying (ok.und _ _ hm),MapKept.run_getObj_map hg,hck,MapKept.run_findKey (ok.und _ _ hd) hf,hzr,Result.andThen]
def bB6(h:aA)(L:Vc.Own)(b:Nat)(es:Array MapEntry)(clock:Nat):Prop:=(b,.map es clock)∈L\/h b=some (.map es clock)
theorem Ext.mapFind{T:Tab}{t kt et:TypeId}{d:TypeDesc}{m kO:Operand}{key:Value}{b n:Nat}{es:Array MapEntry}{clock:Nat}{z:List Value}{h:aA}{L:Vc.Own}{k:Value->aA->Vc.Own->Prop}
  (ha:bB6 h L b es clock) (hm:T.und t=some (.map kt et)) (hd:T.und kt=some d) (hz:T.inf et=some (z,n)) (hz1:z.length≠1) (hkey:MapKept.IsKey d key)
  (hk:(∃i v,Instr.findNow d key es.toList 0=some (some (i,v))/\k (.tuple #[v,.bool true]) h L)\/(Instr.findNow d key es.toList 0=some none/\k (.tuple #[.agg z.toArray,.bool false]) h L)):Ext T (.lookup t m kO true) [m,kO] [.map (some b),key] h L k:=by
 refine⟨fun ok o ρ K Q w h0' L0 w' hop' hargs inv hout hP hK=>.inl ?_⟩
 simp only[bEe,bFd,List.cons.injEq,and_true] at hargs;obtain⟨a1,a2⟩:=hargs;have hg:w'.heap[b]?=some (.map es clock):=by
  rcases ha with ha|ha
  .exact inv.own _ ha
  .exact inv.imm _ _ ha
 rcases hk with ⟨i,v,hf,hk⟩|⟨hf,hk⟩
 .have hr:=aSh ok hg hm hd hkey hf;refine aX (w':=w') (v:=.tuple #[v,.bool true]) ?_ (hK _ _ _ _ inv hk);simp only[execOp,hop',a1,a2,bEg,hr]
  rfl
 .have hr:=aOb ok hg hm hd hz hz1 hkey hf;refine aX (w':=w') (v:=.tuple #[.agg z.toArray,.bool false]) ?_ (hK _ _ _ _ inv hk);simp only[execOp,hop',a1,a2,bEg,hr]
  rfl
theorem aEi{A Fe G tl:Vc.Own}{x:Nat × Obj}:(A++(Fe++(G++x::tl)))[A.length+Fe.length+G.length]?=some x:=by
 rw[bDs Aa,bDs Aa,bDs Aa];simp[show A.length+Fe.length+G.length-A.length-Fe.length-G.length=0 by omega]
theorem aLv{A Fe G tl:Vc.Own}{x y:Nat × Obj}:(A++(Fe++(G++x::tl))).set (A.length+Fe.length+G.length) y=A++(Fe++(G++y::tl)):=by
 rw[bEo _ _ Aa,bEo _ _ Aa,bEo _ _ Aa];simp[show A.length+Fe.length+G.length-A.length-Fe.length-G.length=0 by omega]
theorem Ext.mapSet{T:Tab}{op:Op}{t kt et:TypeId}{d:TypeDesc}{m kO vO:Operand}{key v:Value}{b:Nat}{es:Array MapEntry}{clock:Nat}{h:aA}{A Fe G tl:Vc.Own}{k:Value->aA->Vc.Own->Prop}(hop:op=.insert t m kO vO\/op=.mapUpdate t m kO vO)
  (hm:T.und t=some (.map kt et)) (hd:T.und kt=some d) (hkey:MapKept.IsKey d key)
  (hk:(Instr.findNow d key es.toList 0=some none/\k undef h (A++(Fe++(G++(b,.map (es.push { key:=key,val:=v,born:=clock }) (clock+1))::tl))))\/
    (∃i e,Instr.findNow d key es.toList 0=some (some (i,e.val))/\es[i]?=some e/\e.key=key/\k undef h (A++(Fe++(G++(b,.map (es.modify i fun e=>{ e with key:=key,val:=v }) clock)::tl))))):
  Ext T op [m,kO,vO] [.map (some b),key,v] h (A++(Fe++(G++(b,.map es clock)::tl))) k:=by
 rcases hk with ⟨hf,hk⟩|⟨i,e,hf,he,hek,hk⟩
 .exact Ext.mapNew _ hop aEi hm hd hkey hf (by rw[aLv];exact hk)
 .refine⟨fun ok o ρ K Q w h0' L0 w' hop' hargs inv hout hP hK=>.inl ?_⟩
  simp only[bEe,bFd,List.cons.injEq,and_true] at hargs;obtain⟨a1,a2,a3⟩:=hargs;have hg:w'.heap[b]?=some (.map es clock):=inv.own _ (bDc aEi);have hst:(Instr.keyThatStays ((Option.map (fun x=>x.key) es[i]?).getD key) key).run T.prog w'=.ok key w':=by
   rw[he];show (Instr.keyThatStays e.key key).run T.prog w'=.ok key w';rw[hek];exact MapKept.run_keyThatStays hkey
  have hr:(Instr.mapUpdate t (.map (some b)) key v).run T.prog w'=.ok () { w' with heap:=w'.heap.setIfInBounds b (.map (es.modify i fun e=>{ e with key:=key,val:=v }) clock) }:=by
   simp[Instr.mapUpdate,run_underlying (ok.und _ _ hm),MapKept.run_getObj_map hg,MapKept.run_checkKey (ok.und _ _ hd) hkey false 9999,MapKept.run_findKey (ok.und _ _ hd) hf,hst,MapKept.run_setObj_map _ hg,Result.andThen]
  refine qO (w':=_) ?_ (hK undef _ _ _ (inv.upd aEi (xU _ hg)) (by rw[aLv];exact hk));rcases hop with rfl|rfl <;>
  .simp only[execOp,hop',a1,a2,a3,bEg,hr]
   rfl
end Go.Vc
namespace Go.Proofs.Y
open Go Go.Vc Go.Dig
class UpV {α:Type} (P:aA->Value->α->Prop):Prop where
 up:∀{h h':aA} {v:Value} {a:α},h.le h'->P h v a->P h' v a
instance:UpV VE:=⟨fun hl ⟨op,arg,neg,n,d,name,s,e,w⟩=>⟨op,arg,neg,n,d,name,s,e,w.mono hl⟩⟩
def aZk{α:Type}(P:aA->Value->α->Prop)(h:aA)(x:MapEntry)(b:List Nat × α):Prop:=x.key=.string (txt b.1)/\(∀y∈b.1,y<256)/\P h x.val b.2
def iH{α:Type}(P:aA->Value->α->Prop)(h:aA):List MapEntry->List (List Nat × α)->Prop
 | [],[]=>True
 | x::xs,b::bs=>aZk P h x b/\iH P h xs bs
 | _,_=>False
theorem iH.mono{α:Type}{P:aA->Value->α->Prop}[UpV P]{h h':aA}(hl:h.le h'):∀{xs:List MapEntry} {bs:List (List Nat × α)},iH P h xs bs->iH P h' xs bs
 | [],[],_=>trivial
 | [],_::_,w=>w.elim
 | _::_,[],w=>w.elim
 | _::_,_::_,⟨⟨h1,h2,h3⟩,r⟩=>⟨⟨h1,h2,UpV.up hl h3⟩,iH.mono hl r⟩
theorem iH.push{α:Type}{P:aA->Value->α->Prop}{h:aA}{x:MapEntry}{b:List Nat × α}(hx:aZk P h x b):∀{xs:List MapEntry} {bs:List (List Nat × α)},iH P h xs bs->iH P h (xs++[x]) (bs++[b])
 | [],[],_=>⟨hx,trivial⟩
 | [],_::_,w=>w.elim
 | _::_,[],w=>w.elim
 | _::_,_::_,⟨h1,r⟩=>⟨h1,iH.push hx r⟩
theorem iH.set{α:Type}{P:aA->Value->α->Prop}{h:aA}{x:MapEntry}{b:List Nat × α}(hx:aZk P h x b):∀{j:Nat} {xs:List MapEntry} {bs:List (List Nat × α)},iH P h xs bs->iH P h (xs.set j x) (bs.set j b)
 | _,[],[],w=>w
 | _,[],_::_,w=>w.elim
 | _,_::_,[],w=>w.elim
 | 0,_::_,_::_,⟨_,r⟩=>⟨hx,r⟩
 | _+1,_::_,_::_,⟨h1,r⟩=>⟨h1,iH.set hx r⟩
def jV{α:Type}:List (List Nat × α)->List Nat->Option α
 | [],_=>none
 | (n,u)::bs,name=>if n=name then some u else jV bs name
theorem iH.find{α:Type}{P:aA->Value->α->Prop}{h:aA}{nm:List Nat}(hnm:∀y∈nm,y<256):∀{xs:List MapEntry} {bs:List (List Nat × α)} (i0:Nat),iH P h xs bs->
  (∃j x t,Instr.findNow .string (.string (txt nm)) xs i0=some (some (i0+j,x.val))/\xs[j]?=some x/\bs[j]?=some (nm,t)/\x.key=.string (txt nm)/\P h x.val t/\jV bs nm=some t)\/
  (Instr.findNow .string (.string (txt nm)) xs i0=some none/\nm∉bs.map (·.1)/\jV bs nm=none)
 | [],[],_,_=>.inr ⟨rfl,by simp,rfl⟩
 | [],_::_,_,w=>w.elim
 | _::_,[],_,w=>w.elim
 | x::xs,(n,t)::bs,i0,⟨⟨k1,k2,k3⟩,r⟩=>by
  by_cases e:n=nm
  .subst e;refine .inl ⟨0,x,t,?_,rfl,rfl,k1,k3,by rw[jV,if_pos rfl]⟩
   rw[Instr.findNow,k1,show Instr.sameNow .string (.string (txt n)) (.string (txt n))=some true from congrArg some ((MapKept.bytes_beq _ _).2 rfl)]
   rfl
  .have hs:Instr.sameNow .string (.string (txt nm)) x.key=some false:=by
    rw[k1];show some (txt nm == txt n)=some false
    congr 1
    cases hb:(txt nm == txt n) with
    | false=>rfl
    | true=>exact absurd (uH hnm k2 ((MapKept.bytes_beq _ _).1 hb)).symm e
   rcases iH.find hnm (i0+1) r with ⟨j,x',t',h1,h2,h3,h4,h5,h6⟩|⟨h1,h2,h3⟩
   .exact .inl ⟨j+1,x',t',by rw[Instr.findNow,hs];simpa[bGj,Nat.add_left_comm] using h1,by simpa using h2,by simpa using h3,h4,h5,by rw[jV,if_neg e];exact h6⟩
   .refine .inr ⟨by rw[Instr.findNow,hs];exact h1,?_,by rw[jV,if_neg e];exact h3⟩
    simp only[bEe,bDp,not_or];exact⟨fun x=>e x.symm,h2⟩
theorem qG{α:Type}{f:α->α}:∀{l:List α} {i:Nat} {e:α},l[i]?=some e->l.modify i f=l.set i (f e)
 | [],_,_,h=>by simp at h
 | x::xs,0,e,h=>by
  simp at h;subst h;rfl
 | x::xs,i+1,e,h=>by
  rw[List.modify_succ_cons,bFj,qG (by simpa using h)]
theorem modify_set{es:Array MapEntry}{i:Nat}{e:MapEntry}(he:es[i]?=some e)(f:MapEntry->MapEntry):(es.modify i f).toList=es.toList.set i (f e):=by
 rw[Array.toList_modify,qG (by rw[Array.getElem?_toList];exact he)]
end Go.Proofs.Y
/- Contracts of the roots of natural numbers: package word's and the reference's. -/
namespace Go.Proofs.Y
open Go Go.Vc Go.Dig

end Go.Proofs.Y
/- Rational roots: number.Root, the reference's Exact and Root; what the statement on roots computes: true. -/
namespace Go.Dig
def aSi(q:Rat)(n:Nat):Rat × Bool:=
 if sg q=true/\n%2=0 then (0,false) else if rt (nu q) n^n=nu q/\rt q.den n^n=q.den then (mkQ (sg q) (rt (nu q) n) (rt q.den n),true) else (0,false)
end Go.Dig
namespace Go.Proofs.Y
open Go Go.Vc Go.Dig
def aJl(h:aA)(v:Value)(x:Rat × Bool × Int):Prop:=∃a b:Sl,v=.tuple #[.agg #[.bool (sg x.1),a.val,b.val],.bool x.2.1,.int .i64 x.2.2]/\fP h a b x.1
theorem aJl.err(h:aA)(e:Int):aJl h (.tuple #[.agg #[.bool false,.slice none 0 0,.slice none 0 0],.bool false,.int .i64 e]) (0,false,e):=
 ⟨⟨none,0,0⟩,⟨none,0,0⟩,by rw[show sg (0,false,e).1=false from tX]<;>rfl,fP.zero _⟩
end Go.Proofs.Y
/- The values of trees at values of the variables: plain. -/
namespace Go.Proofs.Y
open Go Go.Vc Go.Dig
def iK(q:Rat):Option Rat:=if fits q then some q else none
def aSj(fn:Int)(q:Rat):Option Rat:=
 if fn=1\/fn=4 then (if q=0 then some 1 else none) else if fn=2\/fn=7 then (if q=1 then some 0 else none) else if q=0 then some 0 else none
def unQ(op arg:Int)(q:Rat):Option Rat:=
 if op=4 then iK (-q) else if op=9 then (if arg<0/\q=0 then none else iK (kR q arg)) else if op=12 then iK (kV q)
 else if op=10 then (if (aSi q arg.toNat).2 then iK (aSi q arg.toNat).1 else none) else aSj arg q
def biQ(op:Int)(q r:Rat):Option Rat:=
 if op=5 then iK (q+r) else if op=6 then iK (q-r) else if op=7 then iK (q*r) else if op=8 then (if r=0 then none else iK (q / r))
 else if op=13 then some (if r<q then r else q) else some (if q<r then r else q)
def aGt(op arg:Int):List (Option Rat)->Option Rat
 | [a]=>a.bind (unQ op arg)
 | [a,b]=>a.bind fun x=>b.bind fun y=>biQ op x y
 | [a,y,z]=>a.bind fun c=>if 0<=c then y else z
 | _=>none
mutual
def dP(vals:List (List Nat × Rat)):Tr->Option Rat
 | .mk op arg neg l m name ks=>if op=1 then some (aN neg l m) else if op=2 then jV vals name else if op=3 then none else aGt op arg (bT vals ks)
def bT(vals:List (List Nat × Rat)):List Tr->List (Option Rat)
 | []=>[]
 | t::ts=>dP vals t::bT vals ts
end
theorem sB{q r:Rat}(h:iK q=some r):fits r:=by
 unfold iK at h
 split at h
 .cases h;assumption
 .cases h
theorem fL:fits 1:=by
 have:=qX 1 Ad Ad;exact this
theorem aJm{fn:Int}{q r:Rat}(h:aSj fn q=some r):fits r:=by
 unfold aSj at h
 repeat' split at h
 all_goals first
  | (cases h;done)
  | (cases h;first|exact fL|exact eV)
theorem aSk{op arg:Int}{q r:Rat}(h:unQ op arg q=some r):fits r:=by
 unfold unQ at h
 repeat' split at h
 all_goals first
  | (cases h;done)
  | exact sB h
  | exact aJm h
theorem aSl{op:Int}{q r s:Rat}(hq:fits q)(hr:fits r)(h:biQ op q r=some s):fits s:=by
 unfold biQ at h
 repeat' split at h
 all_goals first
  | (cases h;done)
  | exact sB h
  | (cases h;assumption)
theorem aAe{name:List Nat}{q:Rat}:∀{l:List (List Nat × Rat)},(∀b∈l,fits b.2)->jV l name=some q->fits q
 | [],_,h=>by cases h
 | (n,r)::l,hl,h=>by
  rw[jV] at h
  split at h
  .cases h;exact hl _ (bDe ..)
  .exact aAe (fun b hb=>hl b (bDh _ hb)) h
theorem aOc{vals:List (List Nat × Rat)}{op arg:Int}{q:Rat}:∀{ks:List Tr},(∀t∈ks,∀q,dP vals t=some q->fits q)->aGt op arg (bT vals ks)=some q->fits q
 | [],_,h=>by rw[bT] at h;cases h
 | [a],hs,h=>by
  rw[bT,bT] at h;obtain⟨x,-,h⟩:=Option.bind_eq_some_iff.1 h;exact aSk h
 | [a,b],hs,h=>by
  rw[bT,bT,bT] at h;obtain⟨x,ha,h⟩:=Option.bind_eq_some_iff.1 h;obtain⟨y,hb,h⟩:=Option.bind_eq_some_iff.1 h;exact aSl (hs a (bDe ..) x ha) (hs b (bDh _ (bDe ..)) y hb) h
 | [a,b,c],hs,h=>by
  rw[bT,bT,bT,bT] at h;obtain⟨x,-,h⟩:=Option.bind_eq_some_iff.1 h
  split at h
  .exact hs b (bDh _ (bDe ..)) q h
  .exact hs c (bDh _ (bDh _ (bDe ..))) q h
 | a::b::c::e::ks,hs,h=>by
  rw[bT,bT,bT,bT] at h;simp only[aGt] at h;cases h
theorem aCg{vals:List (List Nat × Rat)}(hv:∀b∈vals,fits b.2):∀(t:Tr) (d:Nat),okT d t->∀q,dP vals t=some q->fits q:=by
 refine bN fun t ih=>?_
 intro d hok q h;obtain⟨op,arg,neg,l,m,name,ks⟩:=t;rw[okT] at hok;rw[dP] at h
 split at h
 .rename_i e;cases h;have hn:=hok.2.1.2.2.2.2;rw[if_pos e] at hn;exact hn.1.2.2
 split at h
 .exact aAe hv h
 split at h
 .cases h
 refine aOc (vals:=vals) (fun t ht q hq=>?_) h
 obtain⟨i,hi,rfl⟩:=List.mem_iff_getElem.1 ht;have e:=bC8 hi;exact ih _ (aP e) (d+1) (aAb hok.2.2 e) q hq
end Go.Proofs.Y
/- The polynomial form of a tree: plain words. -/
namespace Go.Proofs.Y
open Go Go.Vc Go.Dig
abbrev Pol:Type:=List (Mon × Rat)
def tmL(a b:Pol):Pol:=a.flatMap fun x=>b.map fun y=>(jn x.1 y.1,x.2*y.2)
def plL(a b:Pol)(k:Rat):Pol:=a++b.map fun t=>(t.1,t.2*k)
theorem aSm(f:Mon->Rat)(m:Mon)(c:Rat):∀b:Pol,sm f (b.map fun y=>(jn m y.1,c*y.2))=c*sm (fun y=>f (jn m y)) b
 | []=>(bFn _).symm
 | t::b=>by rw[bEe,cN,cN,aSm f m c b,bHx,bEq]
theorem lB(f:Mon->Rat)(b:Pol):∀a:Pol,sm f (tmL a b)=sm (fun x=>sm (fun y=>f (jn x y)) b) a
 | []=>rfl
 | t::a=>by
  have e:tmL (t::a) b=(b.map fun y=>(jn t.1 y.1,t.2*y.2))++tmL a b:=rfl
  rw[e,aJf,aSm,lB f b a,cN]
theorem aGu(f:Mon->Rat)(k:Rat):∀b:Pol,sm f (b.map fun t=>(t.1,t.2*k))=k*sm f b
 | []=>(bFn _).symm
 | t::b=>by rw[bEe,cN,cN,aGu f k b,bHx,<-bEq,bFp t.2 k]
theorem lC(f:Mon->Rat)(a b:Pol)(k:Rat):sm f (plL a b k)=sm f a+k*sm f b:=by unfold plL;rw[aJf,aGu]
def aJn(p:Pol):Prop:=200<p.length\/∃t∈p,∃f∈t.1,64<f.2
def aJo(p:Pol):Prop:=∃t∈p,¬fits t.2
instance (p:Pol):Decidable (aJn p):=by unfold aJn;exact inferInstance
instance (p:Pol):Decidable (aJo p):=by unfold aJo;exact inferInstance
def cV(l:Pol):Except Nat Pol:=if aJn (aV l) then .error 4 else if aJo (aV l) then .error 1 else .ok (aV l)
def fO(q:Rat):Pol:=if q=0 then [] else [([],q)]
def gR(s:List UInt8):Except Nat Pol:=if 4000<s.length then .error 4 else .ok [([(s,1)],1)]
def jL(b:Tr)(a:Pol):Except Nat Pol:=match a with
 | [([],c)]=>.ok [([],1 / c)]
 | _=>if 4000<(aK b).length then .error 4 else gR (iL++b8 (bM (aK b,dB b.op) 3))
def mW(a:Pol):Nat->Except Nat Pol
 | 0=>.ok [([],1)]
 | n+1=>match mW a n with
  | .error e=>.error e
  | .ok o=>cV (tmL o a)
def iI(e:Tr)(op arg:Int)(q:Rat)(rs:List (Tr × Except Nat Pol)):Except Nat Pol:=
 if op=1 then .ok (fO q)
 else if 4<=op/\op<=9 then
  match rs with
  | []=>.error 0
  | (_,.error n)::_=>.error n
  | (k,.ok a)::r=>
   if op=4 then cV (plL [] a (-1))
   else if op=9 then
    if arg<0 then match jL k a with
     | .error n=>.error n
     | .ok c=>mW c arg.natAbs
    else mW a arg.natAbs
   else match r with
    | []=>.error 0
    | (_,.error n)::_=>.error n
    | (k',.ok b)::_=>
     if op=5 then cV (plL a b 1)
     else if op=6 then cV (plL a b (-1))
     else if op=7 then cV (tmL a b)
     else match jL k' b with
      | .error n=>.error n
      | .ok c=>cV (tmL a c)
 else gR (b8 (aK e))
mutual
def bU:Tr->Except Nat Pol
 | .mk op arg neg l m name ks=>iI (.mk op arg neg l m name ks) op arg (aN neg l m) (eJ ks)
def eJ:List Tr->List (Tr × Except Nat Pol)
 | []=>[]
 | t::ts=>(t,bU t)::eJ ts
end
structure rI (p:Pol):Prop where
 can:sL p
 red:∀t∈p,wF t.1
 deg:∀t∈p,∀f∈t.1,f.2<=64
 fit:∀t∈p,fits t.2
 len:p.length<=200
theorem oV{K V:Type}[dK K][DecidableEq K][Add V][OfNat V 0][gH V][DecidableEq V]{P:K->Prop}{l:List (K × V)}(h:∀t∈l,P t.1):∀t∈aV l,P t.1:=fun t ht=>by
 have h1:∀(k:K) (v:V) (q:List (K × V)),P k->(∀t∈q,P t.1)->∀t∈iJ k v q,P t.1:=by
  intro k v q hk
  induction q with
  | nil=>intro _ t ht;unfold iJ at ht;rw[bDk] at ht;subst ht;exact hk
  | cons n q ih=>
   intro hq t ht;obtain⟨n,d⟩:=n;unfold iJ at ht
   split at ht
   .rcases bDp.1 ht with rfl|ht
    .exact hk
    .exact hq t ht
   .split at ht
    .rcases bDp.1 ht with rfl|ht
     .exact hq (n,d) (bDe ..)
     .exact hq t (bDh _ ht)
    .rcases bDp.1 ht with rfl|ht
     .exact hq (n,d) (bDe ..)
     .exact ih (fun t ht=>hq t (bDh _ ht)) t ht
 have h2:∀t∈kZ l,P t.1:=by
  clear ht
  induction l with
  | nil=>intro t ht;exact absurd ht (by simp[kZ])
  | cons u l ih=>exact h1 _ _ _ (h u (bDe ..)) (ih fun t ht=>h t (bDh _ ht))
 exact h2 t (List.mem_filter.1 ht).1
theorem aCh{l p:Pol}(h:∀t∈l,wF t.1)(e:cV l=.ok p):rI p:=by
 unfold cV at e
 split at e
 .cases e
 .rename_i h1
  split at e
  .cases e
  .rename_i h2;cases e;refine⟨cE l,oV h,fun t ht f hf=>?_,fun t ht=>?_,?_⟩
   .exact Nat.le_of_not_lt fun x=>h1 (.inr ⟨t,ht,f,hf,x⟩)
   .exact Decidable.byContradiction fun x=>h2 ⟨t,ht,x⟩
   .exact Nat.le_of_not_lt fun x=>h1 (.inl x)
theorem aAf(a b:Pol):∀t∈tmL a b,wF t.1:=fun t ht=>by
 unfold tmL at ht;obtain⟨x,hx,ht⟩:=List.mem_flatMap.1 ht;obtain⟨y,hy,rfl⟩:=List.mem_map.1 ht;exact aRx _ _
theorem aAg{a b:Pol}(k:Rat)(ha:∀t∈a,wF t.1)(hb:∀t∈b,wF t.1):∀t∈plL a b k,wF t.1:=fun t ht=>by
 unfold plL at ht;rcases bDf.1 ht with ht|ht
 .exact ha t ht
 .obtain⟨y,hy,rfl⟩:=List.mem_map.1 ht;exact hb y hy
/-! the ring -/
theorem yA(a b:Pol)(f:Mon->Rat):sm f (tmL a b)=sm f (tmL b a):=by
 rw[lB,lB,aLf];refine dO fun t _=>?_
 exact dO fun u _=>by rw[aEb]
theorem yB{a a':Pol}(h:∀f,sm f a=sm f a')(b:Pol)(f:Mon->Rat):sm f (tmL a b)=sm f (tmL a' b):=by rw[lB,lB,h]
theorem aSn{b b':Pol}(h:∀f,sm f b=sm f b')(a:Pol)(f:Mon->Rat):sm f (tmL a b)=sm f (tmL a b'):=by rw[yA,yB h,yA]
theorem aAh(a b c:Pol)(f:Mon->Rat):sm f (tmL (tmL a b) c)=sm f (tmL a (tmL b c)):=by
 rw[lB,lB,lB];refine dO fun x _=>?_
 rw[lB];refine dO fun y _=>?_
 exact dO fun z _=>by rw[aRw]
end Go.Proofs.Y
/- The value of a monomial at values of its atoms: plain mathematics. -/
namespace Go.Dig
def pr{K:Type}(f:K->Rat)(l:List K):Rat:=l.foldr (fun t s=>f t*s) 1
section
variable {K L:Type}
theorem nK(f:K->Rat)(t:K)(l:List K):pr f (t::l)=f t*pr f l:=rfl
theorem rJ{f g:K->Rat}{l:List K}(h:∀t∈l,f t=g t):pr f l=pr g l:=by
 induction l with
 | nil=>rfl
 | cons t l ih=>rw[nK,nK,h t (bDe ..),ih fun u hu=>h u (bDh _ hu)]
theorem aLw(a b c d:Rat):a*b*(c*d)=a*c*(b*d):=by
 rw[bEq,<-bEq b,bFp b c,bEq c,<-bEq]
theorem wJ(f g:K->Rat)(l:List K):pr (fun k=>f k*g k) l=pr f l*pr g l:=by
 induction l with
 | nil=>exact (bF7 1).symm
 | cons t l ih=>rw[nK,nK,nK,ih,aLw]
theorem aAi{f:K->Rat}{l:List K}(h:∀t∈l,f t=1):pr f l=1:=by
 induction l with
 | nil=>rfl
 | cons t l ih=>rw[nK,h t (bDe ..),ih fun u hu=>h u (bDh _ hu),bF7]
theorem aLx(f:K->L->Rat)(b:List L):∀a:List K,pr (fun x=>pr (f x) b) a=pr (fun y=>pr (fun x=>f x y) a) b
 | []=>(aAi fun _ _=>rfl).symm
 | t::a=>by
  rw[nK,aLx f b a];have e:(fun y=>pr (fun x=>f x y) (t::a))=fun y=>f t y*pr (fun x=>f x y) a:=rfl
  rw[e,wJ]
end
section
variable (al:List UInt8->Rat)
def ph(m:Mon):Rat:=pr (fun t=>al t.1^t.2) m
theorem fF(t:Fac)(m:Mon):ph al (t::m)=al t.1^t.2*ph al m:=rfl
theorem aSo:∀a b:Mon,ph al (a++b)=ph al a*ph al b
 | [],b=>(bEt _).symm
 | t::a,b=>by rw[bEn,fF,fF,aSo a b,bEq]
theorem uT(x:Rat)(i:Nat):∀j:Nat,x^(i+j)=x^i*x^j
 | 0=>by rw[bEh,bF2,bF7]
 | j+1=>by rw[<-bE4,bGb,bGb,uT x i j,bEq]
theorem aGv(x y:Rat):∀n:Nat,(x*y)^n=x^n*y^n
 | 0=>by rw[bF2,bF2,bF2,bF7]
 | n+1=>by rw[bGb,bGb,bGb,aGv x y n,aLw]
theorem rK:∀n:Nat,(1:Rat)^n=1
 | 0=>bF2 ..
 | n+1=>by rw[bGb,rK n,bF7]
theorem aSp(k:List UInt8)(v:Nat):∀l:Mon,ph al (iJ k v l)=al k^v*ph al l
 | []=>rfl
 | (n,d)::q=>by
  unfold iJ
  split
  .rfl
  .split
   .rename_i h;subst h;rw[fF,fF,uT,bEq]
   .rw[fF,fF,aSp k v q,<-bEq,<-bEq,bFp (al n^d)]
theorem aJp:∀l:Mon,ph al (kZ l)=ph al l
 | []=>rfl
 | t::l=>by
  show ph al (iJ t.1 t.2 (kZ l))=_
  rw[aSp,aJp l];rfl
theorem wK:∀l:Mon,ph al (l.filter fun t=>!decide (t.2=0))=ph al l
 | []=>rfl
 | t::l=>by
  by_cases h:t.2=0
  .rw[bHp (by simp[h]),wK l,fF,h,bF2,bEt]
  .rw[bHq (by simp[h]),fF,fF,wK l]
theorem aLy(l:Mon):ph al (aV l)=ph al l:=by unfold aV;rw[wK,aJp]
def Aok(s:List UInt8):Prop:=nmA s\/∀u,inv s=some u->al s*al u=1
theorem aWr{s u:List UInt8}(h:inv s=some u)(hn:nmA s):¬nmA u:=fun hu=>by
 unfold inv at h;rw[if_pos hn] at h;cases h;exact aLj s hu
theorem aZl{s u:List UInt8}(h:inv s=some u)(hn:¬nmA s):nmA u:=by
 unfold inv at h;rw[if_neg hn] at h
 split at h
 .rename_i x;cases h;exact x.2.2
 .cases h
def pg(t u:Fac):Rat:=if inv t.1=some u.1 then al t.1^min t.2 u.2 else 1
theorem bB7{q:Mon}(h:lR q)(t:Fac):pr (pg al t) q=al t.1^min t.2 (rv q t.1):=by
 unfold rv;cases hi:inv t.1 with
 | none=>
  show _=al t.1^min t.2 0
  rw[Nat.min_zero,bF2];exact aAi fun u _=>by unfold pg;rw[hi,if_neg Ao]
 | some z=>
  show _=al t.1^min t.2 (cf q z)
  have hp:∀u:Fac,pg al t u=if u.1=z then al t.1^min t.2 u.2 else 1:=fun u=>by
   unfold pg;rw[hi];by_cases e:u.1=z
   .rw[if_pos e,if_pos (by rw[e])]
   .rw[if_neg e,if_neg fun x=>e (Option.some.inj x).symm]
  induction q with
  | nil=>rw[kB,Nat.min_zero,bF2];rfl
  | cons u q ih=>
   have h':=List.pairwise_cons.1 h;rw[nK,hp,aO];by_cases e:u.1=z
   .rw[if_pos e,if_pos e,aAi fun v hv=>?_,bF7,mP (by rw[<-e];exact h'.1),bEh]
    rw[hp,if_neg fun x=>?_]
    have:=h'.1 v hv;rw[x,e] at this;exact dK.irr _ this
   .rw[if_neg e,if_neg e,bEt,ih h'.2]
theorem aSq{q:Mon}(h:lR q)(ho:∀t∈q,Aok al t.1):pr (fun t=>al t.1^min t.2 (rv q t.1)) q=1:=by
 have e1:pr (fun t=>al t.1^min t.2 (rv q t.1)) q=pr (fun t=>pr (pg al t) q) q:=rJ fun t _=>(bB7 al h t).symm
 have e2:pr (fun t=>pr (pg al t) q) q=pr (fun t=>pr (fun u=>(if nmA t.1 then pg al t u else 1)*if nmA t.1 then 1 else pg al t u) q) q:=
  rJ fun t _=>rJ fun u _=>by split<;>simp[bF7,bEt]
 have e3:pr (fun t=>pr (fun u=>(if nmA t.1 then pg al t u else 1)*if nmA t.1 then 1 else pg al t u) q) q =
   pr (fun t=>pr (fun u=>if nmA t.1 then pg al t u else 1) q) q*pr (fun t=>pr (fun u=>if nmA t.1 then 1 else pg al t u) q) q:=by
  rw[<-wJ];exact rJ fun t _=>wJ ..
 rw[e1,e2,e3,aLx (fun t u=>if nmA t.1 then 1 else pg al t u),<-wJ]
 refine aAi fun t ht=>?_
 rw[<-wJ];refine aAi fun u hu=>?_
 show (if nmA t.1 then pg al t u else 1)*(if nmA u.1 then 1 else pg al u t)=1
 by_cases hi:inv t.1=some u.1
 .have hi':=xX hi;by_cases hn:nmA t.1
  .have hnu:=aWr hi hn;rw[if_pos hn,if_neg hnu];unfold pg;rw[if_pos hi,if_pos hi',Nat.min_comm u.2 t.2,<-aGv,bFp,((ho u hu).resolve_left hnu) _ hi',rK]
  .have hnu:=aZl hi hn;rw[if_neg hn,if_pos hnu,bF7]
 .have hi':inv u.1≠some t.1:=fun x=>hi (xX x)
  unfold pg;rw[if_neg hi,if_neg hi']
  split<;>split<;>exact bF7 1
theorem bB8{a b:Mon}(ha:∀t∈a,Aok al t.1)(hb:∀t∈b,Aok al t.1):ph al (jn a b)=ph al a*ph al b:=by
 have hq:∀t∈kZ (a++b),Aok al t.1:=by
  have h1:∀(k:List UInt8) (v:Nat) (q:Mon),Aok al k->(∀t∈q,Aok al t.1)->∀t∈iJ k v q,Aok al t.1:=by
   intro k v q hk
   induction q with
   | nil=>intro _ t ht;unfold iJ at ht;rw[bDk] at ht;subst ht;exact hk
   | cons n q ih=>
    intro hq t ht;obtain⟨n,d⟩:=n;unfold iJ at ht
    split at ht
    .rcases bDp.1 ht with rfl|ht
     .exact hk
     .exact hq t ht
    .split at ht
     .rcases bDp.1 ht with rfl|ht
      .exact hq (n,d) (bDe ..)
      .exact hq t (bDh _ ht)
     .rcases bDp.1 ht with rfl|ht
      .exact hq (n,d) (bDe ..)
      .exact ih (fun t ht=>hq t (bDh _ ht)) t ht
  have h2:∀t∈a++b,Aok al t.1:=fun t ht=>(bDf.1 ht).elim (ha t) (hb t)
  generalize a++b=l at h2
  induction l with
  | nil=>intro t ht;exact absurd ht (by simp[kZ])
  | cons u l ih=>exact h1 _ _ _ (h2 u (bDe ..)) (ih fun t ht=>h2 t (bDh _ ht))
 have hs:=xV (a++b);have hr:∀s,rv (kZ (a++b)) s=rv (a++b) s:=fun s=>by
  unfold rv;cases inv s with
  | none=>rfl
  | some u=>exact aD8 u _
 have hp:=aSq al hs hq;unfold jn;rw[aLy,<-aSo,<-aJp al (a++b)];have e:ph al (kZ (a++b))=ph al ((kZ (a++b)).map fun t=>(t.1,t.2-min t.2 (rv (a++b) t.1)))*pr (fun t=>al t.1^min t.2 (rv (kZ (a++b)) t.1)) (kZ (a++b)):=by
  have e1:∀q:Mon,ph al (q.map fun t=>(t.1,t.2-min t.2 (rv (a++b) t.1)))=pr (fun t=>al t.1^(t.2-min t.2 (rv (a++b) t.1))) q:=fun q=>by
   induction q with
   | nil=>rfl
   | cons t q ih=>rw[bEe,fF,ih];rfl
  rw[e1,<-wJ];unfold ph;refine rJ fun t _=>?_
  rw[hr,<-uT,Nat.sub_add_cancel (Nat.min_le_left ..)]
 rw[e,hp,bF7]
end
end Go.Dig
/- Literals of a tree, on both sides; Has. -/
namespace Go.Proofs.Y
open Go Go.Vc Go.Dig
theorem aAj{arg:Int}{op:Int}{neg:Bool}{l m name:List Nat}{ks:List Tr}(h:op=1):bW (.mk op arg neg l m name ks)=some (aN neg l m):=by
 unfold bW;dsimp only;rw[if_pos h]
theorem aAk{arg op:Int}{neg:Bool}{l m name:List Nat}{op0 arg0:Int}{neg0:Bool}{l0 m0 name0:List Nat}{ks0 ks:List Tr}(h:op=4):bW (.mk op arg neg l m name (.mk op0 arg0 neg0 l0 m0 name0 ks0::ks))=if op0=1 then some (-(aN neg0 l0 m0)) else none:=by
 unfold bW;dsimp only;rw[if_neg Aa,if_pos h]
theorem aEj{arg op:Int}{neg:Bool}{l m name:List Nat}{ks:List Tr}(h1:op≠1)(h4:op≠4):bW (.mk op arg neg l m name ks)=none:=by
 unfold bW;dsimp only;rw[if_neg h1,if_neg h4]
theorem aEk{k:Nat}{q:Rat}(h:Sz k q):Sz k (-q):=by
 refine⟨?_,?_⟩
 .have:nu (-q)=nu q:=by unfold nu;rw[Rat.neg_num,Int.natAbs_neg]
  rw[this];exact h.num
 .have:(-q).den=q.den:=bHj q;rw[this];exact h.den
theorem aAl{h:aA}{a b:Sl}{q:Rat}(w:cS h a b q):cS h a b (-q):=by
 refine⟨?_,?_⟩
 .have:nu (-q)=nu q:=by unfold nu;rw[Rat.neg_num,Int.natAbs_neg]
  rw[this];exact w.num
 .have:(-q).den=q.den:=bHj q;rw[this];exact w.den
theorem LdN.part3{h h':aA}{L:Vc.Own}{bl off o:Nat}{ws:List Value}{x y z:Value}{k:Value->Prop}(hc:∀(i:Nat) v,h.le h'->ws[i]?=some v->Has h' L ⟨bl,off+i,none⟩ v)(hl:h.le h')(h0:ws[o]?=some x)
  (h1:ws[o+1]?=some y) (h2:ws[o+2]?=some z) (hk:k (.agg #[x,y,z])):LdN h' L ⟨bl,off+o,none⟩ 3 k:=
 ⟨[x,y,z],rfl,fun i hi=>by
   rw[bB,bE4]
   match i,hi with
   | 0,_=>exact hc _ _ hl h0
   | 1,_=>exact hc _ _ hl h1
   | 2,_=>exact hc _ _ hl h2,hk⟩
theorem IsK.kidP{h:aA}{s:Sl}{ts:List Tr}(w:IsK h s ts)(j:Nat)(t:Tr)(ht:ts[j]?=some t):
  ∃(bl off:Nat) (op arg:Int) (neg:Bool) (a b:Sl) (name:List Nat) (s':Sl),IsE h [.int .i64 op,.int .i64 arg,.bool neg,a.val,b.val,.string (txt name),s'.val] t/\
   (∀h' (L:Vc.Own) (i:Nat) v,h.le h'->[.int .i64 op,.int .i64 arg,.bool neg,a.val,b.val,.string (txt name),s'.val][i]?=some v->Has h' L ⟨bl,off+i,none⟩ v)/\
   (∀h' (L:Vc.Own) (k':Value->Prop),h.le h'->k' (.agg #[.bool neg,a.val,b.val])->LdN h' L ⟨bl,off+2,none⟩ 3 k')/\
   ∀(i:Int) (k:Addr->Prop),i=j->k ⟨bl,off,none⟩->Idx s.a i s.l 7 k:=by
 obtain⟨hj,-⟩:=bC9.1 ht;rcases w.mem with e|⟨bl,off,c,T,fz,e1,e2,e3⟩
 .subst e;simp at ht
 .obtain⟨vs,h1,h2,h3⟩:=iU.get e3 ht;obtain⟨op,arg,neg,l,m,name,ks⟩:=t;have h3':=h3;rw[IsE] at h3;obtain⟨a,b,s',rfl,-⟩:=h3;have hc:∀h' (L:Vc.Own) (i:Nat) v,h.le h'->[.int .i64 op,.int .i64 arg,.bool neg,a.val,b.val,.string (txt name),s'.val][i]?=some v->Has h' L ⟨bl,off+j*7+i,none⟩ v:=fun h' L i v hl hv=>by
   have hi7:i<7:=(bC9.1 hv).1;exact Has.imm (hl _ _ e2) (by rw[h2 i hi7,hv])
  exact⟨bl,off+j*7,op,arg,neg,a,b,name,s',h3',hc,fun h' L k' hl hk'=>LdN.part3 (o:=2) (hc h' L) hl rfl rfl rfl hk',fun i k hi hk=>Idx.of j e1 hi (by rw[w.len];exact hj) hk⟩
def aOd(h:aA)(v:Value)(o:Option Rat):Prop:=∃(b:Bool) (c e:Sl) (i:Bool),v=.tuple #[.agg #[.bool b,c.val,e.val],.bool i]/\(i=true->∃q,o=some q/\Sz 64 q/\b=sg q/\cS h c e q)/\(i=false->o=none)
theorem wL(t:Tr)(hok:okG t)(h:aA)(vs:List Value)(tb:Tb h)(w:IsE h vs t):Fn0 T F.q154 [.agg vs.toArray] h fun v h'=>aOd h' v (bW t):=by
 obtain⟨op,arg,neg,l,m,name,ks⟩:=t;obtain⟨a,b,s,rfl,ho,ha,hv,hb,hk⟩:=w.isK;rw[okG] at hok;obtain⟨hnb,hoks⟩:=hok;have hkl:=hk.len;have hq1:=hnb.2.2.2.2;have c1:=fun h tb hv=>lO h tb neg a b l m hv
 by_cases o4:op=4
 .have hks:=aZh hnb.1 (by rw[o4];rfl);obtain⟨⟨op0,arg0,neg0,l0,m0,name0,ks0⟩,hk0⟩:=AB (ks.getD 0 bZ);rw[<-hk0] at hks;subst hks;rw[cA,okG] at hoks;have hq0:=hoks.1.1.2.2.2.2;have r1:=aAk (arg:=arg) (neg:=neg) (l:=l) (m:=m) (name:=name) (op0:=op0) (arg0:=arg0) (neg0:=neg0) (l0:=l0) (m0:=m0) (name0:=name0) (ks0:=ks0) (ks:=[]) o4;have c2:=fun h tb a b hv=>lO h tb neg0 a b l0 m0 hv
  obtain⟨R,hR⟩:=AB (bW (.mk op arg neg l m name [.mk op0 arg0 neg0 l0 m0 name0 ks0]));rw[<-hR] at r1 ⊢;have hks1:([.mk op0 arg0 neg0 l0 m0 name0 ks0]:List Tr).length=1:=rfl;rw[hks1] at hkl;refine f0C ok D.q154 rfl ?_;conv=>whnf
  repeat' first|((first|(apply aQ.go)|(show LdN _ _ _ _ _;((first|refine LdN.oA 0 rfl rfl ?_|refine LdN.oA 1 rfl rfl ?_|refine LdN.oA 2 rfl rfl ?_)))|(show Idx _ _ _ _ _;(refine Idx.kid hk 0 _ rfl rfl (fun ad op2 arg2 neg2 a2 b2 name2 s2 hE hld=>?_);obtain⟨rfl,rfl,rfl,hv2,hnm2,hb2,hk2⟩:=IsE.inv hE))|refine hld _ _ _ (aA.lr _) ?_|((first|apply oI.z|apply cI.z))|intro (_:Nat)|(show CN _ _ _ _ _ _;first|(refine CN.f rfl (c2 _ Ab _ _ hv2) (fun v h' hl2 hr=>?_);obtain⟨sb,cc,dd,rfl,hrr⟩:=hr;obtain⟨rfl,hfr⟩:=hrr (by rw[if_pos Ab] at hq0;exact hq0.1))|(refine CN.quiet rfl (kS _ _ _ _ Ab ((okR.sz (by rw[if_pos Ab] at hq0;exact hq0.1)).mono Ad)) ?_))|refine Ld.o 1 rfl rfl ?_|(show Sto _ _ _ _;first|refine Sto.l 0 rfl rfl rfl ?_|refine Sto.l 1 rfl rfl rfl ?_))<;>conv=>whnf)|(show cnd _ _ _;first|(apply aD<;>intro _<;>first|(exfalso;omega)|conv=>whnf)|(refine aJ ?_))
  .have hq00:=hq0;rw[if_pos Ab] at hq00;refine RN.a (R:=fun v h'=>aOd h' v R) ?_
   exact⟨_,cc,dd,true,rfl,fun _=>⟨_,by rw[r1,if_pos Ab],aEk (okR.sz hq00.1),rfl,aAl (hfr)⟩,fun x=>by cases x⟩
  .refine RN.a ⟨_,⟨none,0,0⟩,⟨none,0,0⟩,false,rfl,(fun x=>by cases x),fun _=>by rw[r1,if_neg Ab]⟩
 .have r1:op=1->bW (.mk op arg neg l m name ks)=some (aN neg l m):=aAj;have r2:¬op=1->bW (.mk op arg neg l m name ks)=none:=fun x=>aEj x o4
  obtain⟨R,hR⟩:=AB (bW (.mk op arg neg l m name ks));rw[<-hR] at r1 r2 ⊢;refine f0C ok D.q154 rfl ?_;conv=>whnf
  repeat' first|((first|(apply aQ.go)|(show LdN _ _ _ _ _;((first|refine LdN.oA 0 rfl rfl ?_|refine LdN.oA 1 rfl rfl ?_|refine LdN.oA 2 rfl rfl ?_)))|(show CN _ _ _ _ _ _;(refine CN.f rfl (c1 _ Ab Ab) (fun v h' hl2 hr=>?_);obtain⟨sb,cc,dd,rfl,hrr⟩:=hr;obtain⟨rfl,hfr⟩:=hrr (by rw[if_pos Ab] at hq1;exact hq1.1)))|((first|apply oI.z|apply cI.z))|intro (_:Nat)|refine Ld.o 1 rfl rfl ?_|(show Sto _ _ _ _;first|refine Sto.l 0 rfl rfl rfl ?_|refine Sto.l 1 rfl rfl rfl ?_))<;>conv=>whnf)|(show cnd _ _ _;first|(apply aD<;>intro _<;>first|(exfalso;omega)|conv=>whnf)|(refine aJ ?_))
  .have hq00:=hq1;rw[if_pos Ab] at hq00;refine RN.a ⟨_,_,_,true,rfl,fun _=>⟨_,r1 Ab,okR.sz hq00.1,rfl,Ab⟩,fun x=>by cases x⟩
  .refine RN.a ⟨_,⟨none,0,0⟩,⟨none,0,0⟩,false,rfl,(fun x=>by cases x),fun _=>r2 Ab⟩
end Go.Proofs.Y
/- Simplify: plain. -/
namespace Go.Proofs.Y
open Go Go.Vc Go.Dig
def numQ(q:Rat):Tr:=.mk 1 0 (sg q) (dg 4294967296 (nu q)) (dg 4294967296 (dn q)) [] []
def mkL(q:Rat):Tr:=if q<0 then aF 4 0 [numQ (-q)] else numQ q
def lE:Tr->Prop
 | .mk op _ _ _ _ _ _=>op=4
instance (t:Tr):Decidable (lE t):=by cases t;unfold lE;exact inferInstance
def xE:Tr->Tr
 | .mk _ _ _ _ _ _ (k::_)=>k
 | t=>t
def lS(e a:Tr):Tr:=match bW a with
 | some v=>mkL (-v)
 | none=>if lE a then xE a else e
def aAm(op:Int)(x y:Rat):Option Rat:=if op=5 then iK (x+y) else if op=6 then iK (x-y) else if op=7 then iK (x*y) else if y=0 then none else iK (x / y)
def oW(op:Int)(a b:Tr):Option Rat:=(bW a).bind fun x=>(bW b).bind fun y=>aAm op x y
def uU(e a b:Tr):Tr:=if bW a=some 0 then b else if bW b=some 0 then a else if lE b then aF 6 0 [a,xE b] else e
def wM(e a b:Tr):Tr:=if bW b=some 0 then a else if bW a=some 0 then lS (aF 4 0 [b]) b else if lE b then aF 5 0 [a,xE b] else e
def uV(e a b:Tr):Tr:=if bW a=some 0\/bW b=some 0 then mkL 0 else if bW a=some 1 then b else if bW b=some 1 then a else if bW a=some (-1) then lS (aF 4 0 [b]) b else e
def aZm(e a b:Tr):Tr:=if bW a=some 0 then mkL 0 else if bW b=some 1 then a else e
def oX(e:Tr)(op:Int)(a b:Tr):Tr:=match oW op a b with
 | some q=>mkL q
 | none=>if op=5 then uU e a b else if op=6 then wM e a b else if op=7 then uV e a b else aZm e a b
def tJ(arg:Int)(a:Tr):Option Rat:=(bW a).bind fun x=>if arg<0/\x=0 then none else iK (kR x arg)
def mX(e:Tr)(arg:Int)(a:Tr):Tr:=match tJ arg a with
 | some q=>mkL q
 | none=>if arg=0 then mkL 1 else if arg=1 then a else e
def rL(op arg:Int)(e:Tr):List Tr->Tr
 | [a]=>if op=4 then lS e a else if op=9 then mX e arg a else e
 | [a,b]=>if op=5\/op=6\/op=7\/op=8 then oX e op a b else e
 | _=>e
mutual
def eA:Tr->Tr
 | .mk op arg neg l m name ks=>rL op arg (.mk op arg neg l m name (cK ks)) (cK ks)
def cK:List Tr->List Tr
 | []=>[]
 | t::ts=>eA t::cK ts
end
theorem wO:∀ts:List Tr,(cK ts).length=ts.length
 | []=>rfl
 | t::ts=>by rw[cK,bDa,bDa,wO ts]
theorem uW:∀(a b:List Tr),cK (a++b)=cK a++cK b
 | [],b=>by rw[bEm,cK,bEm]
 | t::a,b=>by rw[bEn,cK,cK,uW a b,bEn]
/-! nodes that are right, and their sizes -/
theorem aEl{d:Nat}{q:Rat}(hd:d<=30)(h0:0<=q)(hf:fits q):okT d (numQ q):=by
 unfold numQ;rw[okT,dJ];refine⟨hd,⟨rfl,Ad,Ad,rfl,?_⟩,trivial⟩;rw[if_pos rfl];exact⟨aIu hf,by rw[jF];exact h0⟩
theorem uX{q:Rat}(h:fits q):fits (-q):=⟨by rw[vV];exact h.1,by rw[bHj];exact h.2⟩
theorem bB9{d:Nat}:∀{t:Tr},okT d t->d<=30
 | .mk op arg neg l m name ks,h=>by rw[okT] at h;exact h.1
theorem aSr{d:Nat}{op arg:Int}{a:Tr}(hk:aR op=1)(h1:jP op<=arg)(h2:arg<=eO op)(h:okT (d+1) a):okT d (aF op arg [a]):=by
 have hd:=bB9 h;have hop:op≠2/\op≠1:=⟨fun e=>by rw[e] at hk;exact absurd hk Ad,fun e=>by rw[e] at hk;exact absurd hk Ad⟩
 unfold aF;rw[okT,dJ,dJ];refine⟨Aa,⟨hk.symm,h1,h2,?_,?_⟩,h,trivial⟩
 .rw[if_neg hop.1]
 .rw[if_neg hop.2];simp[aU]
theorem aZn{d:Nat}{q:Rat}(hd:d+1<=30)(hf:fits q):okT d (mkL q):=by
 unfold mkL
 split
 .rename_i h;refine aSr Ad Ad Ad (aEl hd ?_ (uX hf));have:=Rat.neg_lt_neg h;rw[Rat.neg_zero] at this;exact Rat.le_of_lt this
 .rename_i h;exact aEl Aa (Rat.not_lt.1 h) hf
theorem aJq{op:Int}{x y r:Rat}(h:aAm op x y=some r):fits r:=by
 unfold aAm at h
 repeat' split at h
 all_goals first
  | (cases h;done)
  | exact sB h
theorem aJr{op:Int}{a b:Tr}{r:Rat}(h:oW op a b=some r):fits r:=by
 obtain⟨x,-,h⟩:=Option.bind_eq_some_iff.1 h;obtain⟨y,-,h⟩:=Option.bind_eq_some_iff.1 h;exact aJq h
theorem aOe{arg:Int}{a:Tr}{r:Rat}(h:tJ arg a=some r):fits r:=by
 obtain⟨x,-,h⟩:=Option.bind_eq_some_iff.1 h
 split at h
 .cases h
 .exact sB h
theorem aGw{q:Rat}(h:0<=q):kV q=q:=by
 unfold kV;have e:sg q=false:=by
  unfold sg;exact decide_eq_false (by have:=Rat.num_nonneg.2 h;omega)
 rw[<-e];exact tW q
theorem aSs{q:Rat}(h:¬0<=q):kV q=-q:=by
 have h1:0<=-q:=by
  have:=Rat.neg_lt_neg (Rat.not_le.1 h);rw[Rat.neg_zero] at this;exact Rat.le_of_lt this
 rw[<-aGw h1];unfold kV;rw[vV,bHj]
end Go.Proofs.Y
/- A tree keeps its value when it is simplified: plain. -/
namespace Go.Proofs.Y
open Go Go.Vc Go.Dig
theorem aSt{vals:List (List Nat × Rat)}{arg:Int}{neg:Bool}{l m name:List Nat}{ks:List Tr}:dP vals (.mk 1 arg neg l m name ks)=some (aN neg l m):=by rw[dP,if_pos rfl]
theorem aGx{vals:List (List Nat × Rat)}{op arg:Int}{neg:Bool}{l m name:List Nat}{a:Tr}(h:op≠1/\op≠2/\op≠3):dP vals (.mk op arg neg l m name [a])=(dP vals a).bind (unQ op arg):=by
 rw[dP,if_neg h.1,if_neg h.2.1,if_neg h.2.2,bT,bT];rfl
theorem aGy{vals:List (List Nat × Rat)}{op arg:Int}{neg:Bool}{l m name:List Nat}{a b:Tr}(h:op≠1/\op≠2/\op≠3):dP vals (.mk op arg neg l m name [a,b])=(dP vals a).bind fun x=>(dP vals b).bind fun y=>biQ op x y:=by
 rw[dP,if_neg h.1,if_neg h.2.1,if_neg h.2.2,bT,bT,bT];rfl
theorem aWs(arg:Int)(q:Rat):unQ 4 arg q=iK (-q):=if_pos rfl
theorem lU{q r:Rat}(h:iK q=some r):q=r:=by
 unfold iK at h
 split at h
 .exact Option.some.inj h
 .cases h
theorem aWt(arg:Int)(q:Rat):unQ 9 arg q=if arg<0/\q=0 then none else iK (kR q arg):=(if_neg Ad).trans (if_pos rfl)
section
variable {vals:List (List Nat × Rat)} (hv:∀b∈vals,fits b.2)
include hv
end
end Go.Proofs.Y
/- A form has the value of its tree: plain mathematics. -/
namespace Go.Proofs.Y
open Go Go.Vc Go.Dig
def Mok(al:List UInt8->Rat)(p:Pol):Prop:=∀t∈p,∀f∈t.1,Aok al f.1
theorem aZo{al:List UInt8->Rat}{a b:Mon}(ha:∀t∈a,Aok al t.1)(hb:∀t∈b,Aok al t.1):∀t∈jn a b,Aok al t.1:=by
 unfold jn;refine oV fun t ht=>?_
 obtain⟨u,hu,rfl⟩:=List.mem_map.1 ht;have h2:∀t∈a++b,Aok al t.1:=fun t ht=>(bDf.1 ht).elim (ha t) (hb t)
 generalize a++b=l at h2 hu
 have h1:∀l:Mon,(∀t∈l,Aok al t.1)->∀t∈kZ l,Aok al t.1:=by
  intro l
  induction l with
  | nil=>intro _ t ht;exact absurd ht (by simp[kZ])
  | cons v l ih=>
   intro h;have h3:∀(k:List UInt8) (n:Nat) (q:Mon),Aok al k->(∀t∈q,Aok al t.1)->∀t∈iJ k n q,Aok al t.1:=by
    intro k n q hk
    induction q with
    | nil=>intro _ t ht;unfold iJ at ht;rw[bDk] at ht;subst ht;exact hk
    | cons m q ih=>
     intro hq t ht;obtain⟨m,d⟩:=m;unfold iJ at ht
     split at ht
     .rcases bDp.1 ht with rfl|ht
      .exact hk
      .exact hq t ht
     .split at ht
      .rcases bDp.1 ht with rfl|ht
       .exact hq (m,d) (bDe ..)
       .exact hq t (bDh _ ht)
      .rcases bDp.1 ht with rfl|ht
       .exact hq (m,d) (bDe ..)
       .exact ih (fun t ht=>hq t (bDh _ ht)) t ht
   exact h3 _ _ _ (h v (bDe ..)) (ih fun t ht=>h t (bDh _ ht))
 exact h1 l h2 u hu
theorem aSu{al:List UInt8->Rat}{a b:Pol}(ha:Mok al a)(hb:Mok al b):Mok al (tmL a b):=fun t ht=>by
 unfold tmL at ht;obtain⟨x,hx,ht⟩:=List.mem_flatMap.1 ht;obtain⟨y,hy,rfl⟩:=List.mem_map.1 ht;exact aZo (ha x hx) (hb y hy)
theorem aJs{al:List UInt8->Rat}{a b:Pol}(k:Rat)(ha:Mok al a)(hb:Mok al b):Mok al (plL a b k):=fun t ht=>by
 unfold plL at ht;rcases bDf.1 ht with ht|ht
 .exact ha t ht
 .obtain⟨y,hy,rfl⟩:=List.mem_map.1 ht;exact hb y hy
theorem aSv{al:List UInt8->Rat}{a b:Pol}(ha:Mok al a)(hb:Mok al b):sm (ph al) (tmL a b)=sm (ph al) a*sm (ph al) b:=by
 have e:sm (fun x=>sm (fun y=>ph al (jn x y)) b) a=sm (fun x=>sm (ph al) b*ph al x) a:=by
  refine dO fun x hx=>?_
  rw[bFp,<-zV];exact dO fun y hy=>bB8 al (ha x hx) (hb y hy)
 rw[lB,e,zV,bFp]
theorem aEm{ks:List Tr}{n:Int}(h:(ks.length:Int)=n)(hn:n=1):∃k,ks=[k]:=by
 match ks,h with
 | [k],_=>exact⟨k,rfl⟩
 | [],h=>simp at h;omega
 | _::_::r,h=>simp at h;omega
theorem aJt{ks:List Tr}{n:Int}(h:(ks.length:Int)=n)(hn:n=2):∃a b,ks=[a,b]:=by
 match ks,h with
 | [a,b],_=>exact⟨a,b,rfl⟩
 | [_],h=>simp at h;omega
 | [],h=>simp at h;omega
 | _::_::_::r,h=>simp at h;omega
end Go.Proofs.Y
/- The tokens of the text of a tree: plain. -/
namespace Go.Proofs.Y
open Go Go.Vc Go.Dig
def aGz(c:Nat):Prop:=aln c=false/\c≠46/\c≠47
def wZ(rest:List Nat):Prop:=∀c,rest.head?=some c->aGz c
theorem aOf:wZ []:=fun c h=>by cases h
theorem tK{c:Nat}{l:List Nat}(h:aGz c):wZ (c::l):=fun d e=>by cases e;exact h
def kt(t:Tk):Nat × List Nat:=(t.kind,t.text)
def Sc(b:Bool)(a:List Nat)(ks:List (Nat × List Nat)):Prop:=
 ∀(rest:List Nat) (n i:Nat) (acc:List Tk),(b=true->wZ rest)->(a++rest).length<=n->∃n' ts,rest.length<=n'/\ts.map kt=ks/\bQ n (a++rest) i acc=bQ n' rest (i+a.length) (acc++ts)
theorem Sc.nil(b:Bool):Sc b [] []:=fun rest n i acc _ hn=>⟨n,[],hn,rfl,by simp⟩
theorem Sc.any{b:Bool}{a:List Nat}{ks:List (Nat × List Nat)}(h:Sc b a ks):Sc true a ks:=fun rest n i acc hs hn=>h rest n i acc (fun _=>hs rfl) hn
theorem Sc.app{b b':Bool}{a c:List Nat}{ks ls:List (Nat × List Nat)}(h:Sc b a ks)(h':Sc b' c ls)(hs:b=true->c≠[]/\wZ c):Sc b' (a++c) (ks++ls):=by
 intro rest n i acc hr hn;obtain⟨n1,t1,q1,q2,q3⟩:=h (c++rest) n i acc (fun e=>by
   obtain⟨h1,h2⟩:=hs e
   match c,h1,h2 with
   | x::c',_,h2=>exact fun d e=>h2 d (by simpa using e)) (by rw[<-bDb];exact hn)
 obtain⟨n2,t2,q4,q5,q6⟩:=h' rest n1 (i+a.length) (acc++t1) hr q1;refine⟨n2,t1++t2,q4,by rw[bDl,q2,q5],?_⟩
 rw[bDb,q3,q6,bC6,bDb,bE4]
theorem Sc.space:Sc false [32] []:=fun rest n i acc _ hn=>by
 match n,hn with
 | n+1,hn=>
  refine⟨n,[],by simp at hn;omega,rfl,?_⟩
  rw[bDg];show bQ (n+1) (32::rest) i acc=_;rw[bQ,if_pos rfl]
  rfl
 | 0,hn=>simp at hn
theorem Sc.one{b:Bool}{a:List Nat}{k:Nat}(hne:a≠[])(h32:a.head?≠some 32)(ht:∀rest,(b=true->wZ rest)->jO (a++rest)=some (k,a.length)):Sc b a [(k,a)]:=fun rest n i acc hs hn=>by
 have h:=ht rest hs
 match a,hne,h32,n,hn,h with
 | c::l,_,h32,n+1,hn,h=>
  have hc:c≠32:=fun e=>h32 (by rw[e];rfl)
  refine⟨n,[⟨k,c::l,i⟩],by simp at hn;omega,rfl,?_⟩
  show bQ (n+1) (c::(l++rest)) i acc=_
  rw[bQ,if_neg hc];rw[show c::(l++rest)=(c::l)++rest from rfl,h];show bQ n (((c::l)++rest).drop (c::l).length) (i+(c::l).length) (acc++[⟨k,((c::l)++rest).take (c::l).length,i⟩])=_;rw[bGn,bF3]
 | c::l,_,_,0,hn,_=>simp at hn
theorem aSw{w rest:List Nat}(hw:cZ w=w.length)(hne:w≠[])(hs:wZ rest):cZ (w++rest)=w.length:=by
 match w,hw,hne with
 | c::l,hw,_=>
  rw[cZ] at hw
  split at hw
  .rename_i hc;show (if ltr c then ((l++rest).takeWhile aln).length+1 else 0)=_
   rw[if_pos hc];have h1:(l.takeWhile aln).length=l.length:=by simpa using hw
   have hall:∀x∈l,aln x=true:=by
    have e:l.takeWhile aln=l:=List.IsPrefix.eq_of_length (List.takeWhile_prefix _) h1;intro x hx;rw[<-e] at hx;by_cases hh:aln x=true
    .exact hh
    .exact absurd h1 (Nat.ne_of_lt (kH l ⟨x,e▸hx,hh⟩))
   rw[List.takeWhile_append_of_pos hall];have:rest.takeWhile aln=[]:=by
    match rest,hs with
    | [],_=>rfl
    | d::r,hs=>rw[bF0,(hs d rfl).1];rfl
   rw[this,bDg,bDa]
  .simp at hw
theorem aOg{w:List Nat}(hw:cZ w=w.length)(hne:w≠[]):w.head?≠some 32:=by
 match w,hw,hne with
 | c::l,hw,_=>
  intro e;cases e;rw[cZ,if_neg Ad] at hw;cases hw
theorem Sc.word{w:List Nat}{k:Nat}(hw:cZ w=w.length)(hne:w≠[])(hk:(w∈cB/\k=3)\/(w∉cB/\fE w/\k=2)\/(w∉cB/\¬fE w/\tD w/\k=0)):Sc true w [(k,w)]:=
 Sc.one hne (aOg hw hne) fun rest hs=>by
  have h:=aSw hw hne (hs rfl);have hp:0<w.length:=List.length_pos_iff.2 hne;unfold jO;rw[h,if_pos hp,bF3];rcases hk with ⟨a,rfl⟩|⟨a,b,rfl⟩|⟨a,b,c,rfl⟩
  .rw[if_pos a]
  .rw[if_neg a,if_pos b]
  .rw[if_neg a,if_neg b,if_pos c]
theorem Sc.sign{c:Nat}(h:[c]∈gA):Sc false [c] [(0,[c])]:=by
 have hm:c=43\/c=45\/c=42\/c=47\/c=94\/c=40\/c=41\/c=44:=by simpa[gA] using h
 refine Sc.one Ao (fun e=>by cases e;omega) fun rest _=>?_
 have h1:ltr c=false:=by rw[Bool.eq_false_iff];intro e;have:=kG.1 e;omega
 have h2:dgt c=false:=by rw[Bool.eq_false_iff];intro e;have:=eN.1 e;omega
 have hd:jI (c::rest)=0:=by unfold jI;rw[bF0,h2];rfl
 have hn:lI (c::rest)=0:=by unfold lI;rw[hd,if_neg Aa]
 have hw:cZ (c::rest)=0:=by rw[cZ,h1];rfl
 show jO (c::rest)=some (0,1)
 unfold jO;rw[hw,hn,if_neg Aa,if_neg Aa];exact if_pos (by simpa using h)
/-! numbers -/
theorem uY{a b:List Nat}(ha:∀x∈a,dgt x=true)(hb:∀c,b.head?=some c->dgt c=false):jI (a++b)=a.length:=by
 unfold jI;rw[(aI0 a b ha hb).1]
theorem aG0{rest:List Nat}(hs:wZ rest):∀c,rest.head?=some c->dgt c=false:=fun c e=>by
 have h:=(hs c e).1;unfold aln at h;rw[Bool.or_eq_false_iff] at h;exact h.2
theorem aAn(n:Nat):0<(aY n).length:=List.length_pos_iff.2 (lP n)
theorem aG1{a b:List Nat}(ha:∀x∈a,dgt x=true)(hne:a≠[]):cZ (a++b)=0:=by
 match a,ha,hne with
 | c::l,ha,_=>
  have h1:=eN.1 (ha c (bDe ..));show (if ltr c then _ else 0)=0
  rw[if_neg];intro e;have:=kG.1 e;omega
theorem aG2{a:List Nat}(ha:∀x∈a,dgt x=true):a.head?≠some 32:=fun e=>by
 match a,ha,e with
 | c::l,ha,e=>
  cases e
  exact absurd (ha 32 (bDe ..)) Ad
theorem Sc.digits(n:Nat):Sc true (aY n) [(1,aY n)]:=
 Sc.one (lP n) (aG2 (eE n)) fun rest hs=>by
  have hp:=aAn n;have h1:=uY (eE n) (aG0 (hs rfl));have h2:lI (aY n++rest)=(aY n).length:=by
   unfold lI;rw[h1,if_neg]
   rintro⟨-,h3,h4,-⟩
   rw[bC7,bDs (bDx _),bFr] at h4
   match rest,hs rfl,h4,h3 with
   | [],_,_,h3=>simp at h3
   | d::r,hs,h4,_=>
    have:=hs d rfl;simp at h4;exact h4.elim this.2.1 this.2.2
  unfold jO;rw[aG1 (eE n) (lP n),if_neg Aa,h2,if_pos hp]
theorem Sc.frac(n d:Nat):Sc true (aY n++[47]++aY d) [(1,aY n++[47]++aY d)]:=
 Sc.one Ao (by
   have h:=aG2 (eE n);have hp:=lP n
   match aY n,h,hp with
   | c::l,h,_=>exact h) fun rest hs=>by
  have hp:=aAn n;have hp':=aAn d;have e:aY n++[47]++aY d++rest=aY n++(47::(aY d++rest)):=by simp
  have h1:jI (aY n++(47::(aY d++rest)))=(aY n).length:=uY (eE n) (fun c e=>by cases e;decide)
  have h3:(aY n++(47::(aY d++rest))).drop ((aY n).length+1)=aY d++rest:=by
   rw[<-bG2,bGn];rfl
  have h4:=uY (eE d) (aG0 (hs rfl));have h2:lI (aY n++(47::(aY d++rest)))=(aY n++[47]++aY d).length:=by
   unfold lI;rw[h1,h3,h4,if_pos ⟨hp,by simp,.inr (by rw[bC7,bDs (bDx _),bFr];rfl),hp'⟩]
   simp;omega
  rw[e];unfold jO;rw[aG1 (eE n) (lP n),if_neg Aa,h2,if_pos Aq]
theorem aJu{q:Rat}(h:0<=q):sg q=false:=by
 unfold sg;rw[decide_eq_false_iff_not];exact fun x=>absurd (Rat.num_nonneg.2 h) Aa
theorem Sc.num{q:Rat}(h:0<=q):Sc true (kA q) [(1,kA q)]:=by
 unfold kA;rw[aJu h];by_cases e:q.den=1
 .rw[if_pos e];show Sc true (aY (nu q)++[]) [(1,aY (nu q)++[])];rw[bDg];exact Sc.digits _
 .rw[if_neg e];show Sc true (aY (nu q)++([47]++aY q.den)) [(1,aY (nu q)++([47]++aY q.den))];rw[<-bDb];exact Sc.frac _ _
/-! the tokens of a tree -/
def sgT(c:Nat):Nat × List Nat:=(0,[c])
def lK(x:List (Nat × List Nat) × Int)(low:Int):List (Nat × List Nat):=if low<=x.2 then x.1 else [sgT 40]++x.1++[sgT 41]
def itK(n:Int):List (Nat × List Nat):=[(1,aY n.natAbs)]
def opC(op:Int):Nat:=if op=5 then 43 else if op=6 then 45 else 42
def xA(op arg:Int)(q:Rat)(name:List Nat)(xs:List (List (Nat × List Nat) × Int)):List (Nat × List Nat):=
 if op=1 then [(1,kA q)] else if op=2 then [(2,name)]
 else if op=4 then [sgT 45]++lK (xs.getD 0 ([],0)) 3
 else if op=5\/op=6 then lK (xs.getD 0 ([],0)) 1++[sgT (opC op)]++lK (xs.getD 1 ([],0)) 2
 else if op=7 then lK (xs.getD 0 ([],0)) 2++[sgT (opC op)]++lK (xs.getD 1 ([],0)) 3
 else lK (xs.getD 0 ([],0)) 5++([sgT 94]++itK arg)
mutual
def nL:Tr->List (Nat × List Nat)
 | .mk op arg neg l m name ks=>xA op arg (aN neg l m) name (gN ks)
def gN:List Tr->List (List (Nat × List Nat) × Int)
 | []=>[]
 | t::ts=>(nL t,dB t.op)::gN ts
end
def aZp(x:List Nat × Int)(y:List (Nat × List Nat) × Int):Prop:=x.2=y.2/\Sc true x.1 y.1
def aCi:List (List Nat × Int)->List (List (Nat × List Nat) × Int)->Prop
 | [],[]=>True
 | x::xs,y::ys=>aZp x y/\aCi xs ys
 | _,_=>False
theorem aCi.getD:∀{xs:List (List Nat × Int)} {ys:List (List (Nat × List Nat) × Int)},aCi xs ys->∀i:Nat,aZp (xs.getD i ([],0)) (ys.getD i ([],0))
 | [],[],_,i=>⟨rfl,Sc.nil _⟩
 | x::xs,y::ys,h,0=>h.1
 | x::xs,y::ys,h,i+1=>aCi.getD h.2 i
 | [],_::_,h,_=>h.elim
 | _::_,[],h,_=>h.elim
theorem aZq:aGz 41:=⟨Ad,Ad,Ad⟩
theorem aZr:aGz 32:=⟨Ad,Ad,Ad⟩
theorem aZs:aGz 94:=⟨Ad,Ad,Ad⟩
theorem oY{x:List Nat × Int}{y:List (Nat × List Nat) × Int}(h:aZp x y)(low:Int):Sc true (bM x low) (lK y low):=by
 unfold bM lK;rw[h.1]
 split
 .exact h.2
 .refine Sc.any (Sc.app (Sc.app (Sc.sign (c:=40) Ad) h.2 fun e=>by cases e) (Sc.sign (c:=41) Ad) fun _=>⟨by simp,tK aZq⟩)
theorem aZt{n:Int}(h:0<=n):Sc true (itT n) (itK n):=by
 unfold itT itK;rw[if_neg Aa];exact Sc.digits _
theorem aLz(op:Int):Sc false (jU op) [sgT (opC op)]:=by
 have h:∀c,[c]∈gA->Sc false [32,c,32] [sgT c]:=fun c hc=>by
  have:=Sc.app (Sc.app Sc.space (Sc.sign hc) fun e=>by cases e) Sc.space fun e=>by cases e
  exact this
 unfold jU opC
 repeat' split
 .exact h 43 Ad
 .exact h 45 Ad
 .exact h 42 Ad
theorem aAo(op:Int):jU op≠[]/\wZ (jU op):=by
 unfold jU
 repeat' split
 all_goals exact⟨by simp,tK aZr⟩
theorem aWu{op arg:Int}{neg:Bool}{l m name:List Nat}{xs:List (List Nat × Int)}{ys:List (List (Nat × List Nat) × Int)}{n:Nat}(hn:fQ op arg neg l m name n)(hp:(1<=op/\op<=7/\op≠3)\/(op=9/\0<=arg))(h:aCi xs ys):Sc true (uM op arg (aN neg l m) name xs) (xA op arg (aN neg l m) name ys):=by
 obtain⟨-,-,-,n4,n5⟩:=hn;have p:=fun i=>h.getD i
 unfold uM xA;by_cases e:op=1
 .rw[if_pos e,if_pos e];rw[if_pos e] at n5;exact Sc.num n5.2
 rw[if_neg e,if_neg e];by_cases e:op=2
 .rw[if_pos e,if_pos e];rw[if_pos e] at n4;exact Sc.word n4.2.1 n4.2.2.1 (.inr (.inl ⟨fun x=>n4.2.2.2 (.inr x),n4,rfl⟩))
 rw[if_neg e,if_neg e];by_cases e:op=4
 .rw[if_pos e,if_pos e];exact Sc.app (Sc.sign (c:=45) Ad) (oY (p 0) 3) fun e=>by cases e
 rw[if_neg e,if_neg e];by_cases e:op=5\/op=6
 .rw[if_pos e,if_pos e];exact Sc.app (Sc.app (oY (p 0) 1) (aLz op) fun _=>aAo op) (oY (p 1) 2) fun e=>by cases e
 rw[if_neg e,if_neg e];by_cases e:op=7
 .rw[if_pos e,if_pos e];exact Sc.app (Sc.app (oY (p 0) 2) (aLz op) fun _=>aAo op) (oY (p 1) 3) fun e=>by cases e
 rw[if_neg e,if_neg e];exact Sc.app (oY (p 0) 5) (Sc.app (Sc.sign (c:=94) Ad) (aZt Aa) fun e=>by cases e) fun _=>⟨by simp,tK aZs⟩
mutual
theorem aL0:∀{d:Nat} {t:Tr},okT d t->aZ t->Sc true (aK t) (nL t)
 | d,.mk op arg neg l m name ks,h,hp=>by
  rw[okT] at h;rw[aZ] at hp;rw[aK,nL];exact aWu h.2.1 hp.1 (aG3 h.2.2 hp.2)
theorem aG3:∀{d:Nat} {ts:List Tr},dJ d ts->bK ts->aCi (dC ts) (gN ts)
 | d,[],_,_=>by rw[dC,gN];trivial
 | d,t::ts,h,hp=>by
  rw[dJ] at h;rw[bK] at hp;rw[dC,gN];exact⟨⟨rfl,aL0 h.1 hp.1⟩,aG3 h.2 hp.2⟩
end
theorem aOh{d:Nat}{t:Tr}(h:okT d t)(hp:aZ t):∃ts:List Tk,bQ (aK t).length (aK t) 0 []=(ts,-1)/\ts.map kt=nL t:=by
 obtain⟨n',ts,-,h2,h3⟩:=aL0 h hp [] (aK t).length 0 [] (fun _=>aOf) (by rw[bDg];exact bDx _)
 rw[bDg] at h3;refine⟨ts,?_,h2⟩;rw[h3];cases n'<;>simp[bQ]
end Go.Proofs.Y
/- The text of a tree, parsed: plain. -/
namespace Go.Dig
theorem aSx{α β:Type}{A:Option (Pr α)}{f:α->Nat->List Cn->Option (Pr β)}{r:Pr β}(h:Pr.bnd A f=some r):(∃x i cs,A=some (.ok x i cs)/\f x i cs=some r)\/∃i,A=some (.bad i)/\r=.bad i:=by
 match A,h with
 | some (.ok x i cs),h=>exact .inl ⟨x,i,cs,rfl,h⟩
 | some (.bad i),h=>exact .inr ⟨i,rfl,(Option.some.inj h).symm⟩
theorem bY{α β:Type}{A A':Option (Pr α)}{f f':α->Nat->List Cn->Option (Pr β)}(ha:∀r,A=some r->A'=some r)(hf:∀x i cs r,f x i cs=some r->f' x i cs=some r):∀r,Pr.bnd A f=some r->Pr.bnd A' f'=some r:=fun r h=>by
 rcases aSx h with ⟨x,i,cs,h1,h2⟩|⟨i,h1,rfl⟩
 .rw[ha _ h1];exact hf _ _ _ _ h2
 .rw[ha _ h1];rfl
theorem dF{α:Type}{c:Prop}[Decidable c]{A A' B B':Option α}(ha:∀r,A=some r->A'=some r)(hb:∀r,B=some r->B'=some r):∀r,(if c then A else B)=some r->(if c then A' else B')=some r:=fun r h=>by
 by_cases e:c
 .rw[if_pos e] at h ⊢;exact ha r h
 .rw[if_neg e] at h ⊢;exact hb r h
theorem bL{α:Type}{A:Option α}:∀r,A=some r->A=some r:=fun _ h=>h
theorem aG4(ts:List Tk)(parse:List Nat->Bool × List Nat × List Nat):∀(n:Nat) (md:Md) (i:Nat) (cs:List Cn) (r:Pr Tr),pp ts parse n md i cs=some r->pp ts parse (n+1) md i cs=some r
 | 0,md,i,cs,r,h=>by rw[pp] at h;cases h
 | n+1,md,i,cs,r,h=>by
  have ih:=fun md i cs r=>aG4 ts parse n md i cs r
  match md with
  | .sum=>rw[pp] at h ⊢;exact bY (ih _ _ _) (fun _ _ _=>ih _ _ _) r h
  | .term=>rw[pp] at h ⊢;exact bY (ih _ _ _) (fun _ _ _=>ih _ _ _) r h
  | .sumL e=>rw[pp] at h ⊢;exact dF (bY (ih _ _ _) (fun _ _ _=>ih _ _ _)) (dF (bY (ih _ _ _) (fun _ _ _=>ih _ _ _)) bL) r h
  | .termL e=>rw[pp] at h ⊢;exact dF (bY (ih _ _ _) (fun _ _ _=>ih _ _ _)) (dF (bY (ih _ _ _) (fun _ _ _=>ih _ _ _)) bL) r h
  | .fac=>rw[pp] at h ⊢;exact dF (bY (ih _ _ _) (fun _ _ _=>bL)) (bY (ih _ _ _) (fun _ _ _=>bL)) r h
  | .kids k=>rw[pp] at h ⊢;exact bY bL (fun _ _ _=>ih _ _ _) r h
  | .kidsL k j acc=>rw[pp] at h ⊢;exact dF (dF (bY bL fun _ _ _=>bY (ih _ _ _) (fun _ _ _=>ih _ _ _)) (bY (ih _ _ _) (fun _ _ _=>ih _ _ _))) bL r h
  | .atom=>
   rw[pp] at h ⊢
   match ts[i]?,h with
   | none,h=>exact h
   | some t,h=>
    refine dF bL (dF (bY (ih _ _ _) fun _ _ _=>bL) (dF bL (dF bL (dF (bY (ih _ _ _) fun _ _ _=>bL) (dF (bY (ih _ _ _) fun _ _ _=>bL) (dF (bY (ih _ _ _) fun _ _ _=>bL) (dF (bY (ih _ _ _) fun _ _ _=>bL) (dF (bY (ih _ _ _) fun _ _ _=>bL) (dF (bY (ih _ _ _) fun _ _ _=>bL) (dF ?_ bL)))))))))) r h
    exact bY bL fun _ _ _=>bY bL fun _ _ _=>bY bL fun _ _ _=>bY (ih _ _ _) fun _ _ _=>bL
theorem iP(ts:List Tk)(parse:List Nat->Bool × List Nat × List Nat){md:Md}{i:Nat}{cs:List Cn}{r:Pr Tr}{n:Nat}(h:pp ts parse n md i cs=some r):∀m,n<=m->pp ts parse m md i cs=some r:=fun m hm=>by
 obtain⟨k,rfl⟩:∃k,m=n+k:=⟨m-n,Aa⟩
 clear hm
 induction k with
 | zero=>exact h
 | succ k ih=>exact aG4 ts parse _ _ _ _ _ ih
end Go.Dig
namespace Go.Proofs.Y
open Go Go.Vc Go.Dig
section
variable (ts:List Tk)
def Ps(md:Md)(i:Nat)(cs:List Cn)(r:Pr Tr):Prop:=∃n,pp ts prs n md i cs=some r
end
section
variable {ts:List Tk}
theorem Ps.sum{i j:Nat}{cs cs':List Cn}{e:Tr}{r:Pr Tr}(h:Ps ts .term i cs (.ok e j cs'))(h':Ps ts (.sumL e) j cs' r):Ps ts .sum i cs r:=by
 obtain⟨n,h⟩:=h;obtain⟨m,h'⟩:=h';refine⟨max n m+1,?_⟩;rw[pp,iP ts prs h _ (bGu n m)];exact iP ts prs h' _ (bGh n m)
theorem Ps.term{i j:Nat}{cs cs':List Cn}{e:Tr}{r:Pr Tr}(h:Ps ts .fac i cs (.ok e j cs'))(h':Ps ts (.termL e) j cs' r):Ps ts .term i cs r:=by
 obtain⟨n,h⟩:=h;obtain⟨m,h'⟩:=h';refine⟨max n m+1,?_⟩;rw[pp,iP ts prs h _ (bGu n m)];exact iP ts prs h' _ (bGh n m)
theorem Ps.add{i j:Nat}{cs cs':List Cn}{e f:Tr}{op:Int}{r:Pr Tr}(ho:op=5\/op=6)(ha:bO ts [opC op] i=true)(h:Ps ts .term (i+1) cs (.ok f j cs'))(h':Ps ts (.sumL (aF op 0 [e,f])) j cs' r):Ps ts (.sumL e) i cs r:=by
 obtain⟨n,h⟩:=h;obtain⟨m,h'⟩:=h';refine⟨max n m+1,?_⟩;rw[pp];rcases ho with rfl|rfl
 .rw[if_pos (show bO ts [43] i=true from ha),iP ts prs h _ (bGu n m)];exact iP ts prs h' _ (bGh n m)
 .have hn:bO ts [43] i=false:=by
   unfold bO at ha ⊢;cases ht:ts[i]? with
   | none=>rfl
   | some t=>
    rw[ht] at ha;have:=of_decide_eq_true ha;exact decide_eq_false fun x=>by rw[this.2] at x;exact absurd x.2 Ad
  rw[if_neg (by rw[hn];decide),if_pos (show bO ts [45] i=true from ha),iP ts prs h _ (bGu n m)];exact iP ts prs h' _ (bGh n m)
theorem Ps.mul{i j:Nat}{cs cs':List Cn}{e f:Tr}{op:Int}{r:Pr Tr}(ho:op=7)(ha:bO ts [opC op] i=true)(h:Ps ts .fac (i+1) cs (.ok f j cs'))(h':Ps ts (.termL (aF op 0 [e,f])) j cs' r):Ps ts (.termL e) i cs r:=by
 obtain⟨n,h⟩:=h;obtain⟨m,h'⟩:=h';refine⟨max n m+1,?_⟩;rw[pp];subst ho;rw[if_pos (show bO ts [42] i=true from ha),iP ts prs h _ (bGu n m)];exact iP ts prs h' _ (bGh n m)
theorem Ps.sumEnd{i:Nat}{cs:List Cn}{e:Tr}(h1:bO ts [43] i=false)(h2:bO ts [45] i=false):Ps ts (.sumL e) i cs (.ok e i cs):=by
 refine⟨1,?_⟩;rw[pp,if_neg (by rw[h1];decide),if_neg (by rw[h2];decide)]
theorem Ps.termEnd{i:Nat}{cs:List Cn}{e:Tr}(h1:bO ts [42] i=false)(h2:bO ts [47] i=false):Ps ts (.termL e) i cs (.ok e i cs):=by
 refine⟨1,?_⟩;rw[pp,if_neg (by rw[h1];decide),if_neg (by rw[h2];decide)]
theorem Ps.neg{i j:Nat}{cs cs':List Cn}{e:Tr}(ha:bO ts [45] i=true)(h:Ps ts .fac (i+1) cs (.ok e j cs')):Ps ts .fac i cs (.ok (aF 4 0 [e]) j cs'):=by
 obtain⟨n,h⟩:=h;refine⟨n+1,?_⟩;rw[pp,if_pos ha,h]
 rfl
theorem Ps.fac{i j:Nat}{cs cs':List Cn}{e:Tr}(ha:bO ts [45] i=false)(h:Ps ts .atom i cs (.ok e j cs'))(hp:bO ts [94] j=false):Ps ts .fac i cs (.ok e j cs'):=by
 obtain⟨n,h⟩:=h;refine⟨n+1,?_⟩;rw[pp,if_neg (by rw[ha];decide),h];show (if bO ts [94] j=true then _ else _)=_
 rw[if_neg (by rw[hp];decide)]
theorem Ps.pow{i j:Nat}{cs cs' cs2:List Cn}{e:Tr}{k:Nat}(ha:bO ts [45] i=false)(h:Ps ts .atom i cs (.ok e j cs'))(hp:bO ts [94] j=true)(hm:bO ts [45] (j+1)=false)(hc:sK ts 0 32 (j+1) cs'=.ok k (j+2) cs2):Ps ts .fac i cs (.ok (aF 9 k [e]) (j+2) cs2):=by
 obtain⟨n,h⟩:=h;refine⟨n+1,?_⟩;rw[pp,if_neg (by rw[ha];decide),h];show (if bO ts [94] j=true then _ else _)=_
 rw[if_pos hp,if_neg (by rw[hm];decide),hc]
 rfl
/-! tokens from a place on -/
def At(ts:List Tk)(i:Nat)(l:List (Nat × List Nat)):Prop:=(ts.map kt).drop i=l
theorem At.head{i:Nat}{x:Nat × List Nat}{l:List (Nat × List Nat)}(h:At ts i (x::l)):(∃t,ts[i]?=some t/\kt t=x)/\At ts (i+1) l:=by
 unfold At at h ⊢;have h1:(ts.map kt)[i]?=some x:=by
  have:=congrArg (·[0]?) h
  simpa using this
 rw[bF1] at h1;obtain⟨t,h2,h3⟩:=Option.map_eq_some_iff.1 h1;refine⟨⟨t,h2,h3⟩,?_⟩;rw[<-bG2,h]
 rfl
theorem At.app{i:Nat}:∀{a l:List (Nat × List Nat)},At ts i (a++l)->At ts (i+a.length) l
 | [],l,h=>h
 | x::a,l,h=>by
  have h1:=(At.head (l:=a++l) h).2;have:=At.app h1;rw[bDa,show i+(a.length+1)=i+1+a.length by omega]
  exact this
theorem At.is{i:Nat}{s:List Nat}{l:List (Nat × List Nat)}(h:At ts i ((0,s)::l)):bO ts s i=true:=by
 obtain⟨t,h1,h2⟩:=h.head.1;unfold bO;rw[h1];unfold kt at h2
 injection h2 with h3 h4
 exact decide_eq_true ⟨h3,h4⟩
def lL(l:List (Nat × List Nat))(s:List Nat):Prop:=l.head?≠some (0,s)
theorem At.no{i:Nat}{s:List Nat}{l:List (Nat × List Nat)}(h:At ts i l)(hn:lL l s):bO ts s i=false:=by
 unfold bO;cases ht:ts[i]? with
 | none=>rfl
 | some t=>
  refine decide_eq_false fun x=>hn ?_
  unfold At at h;have:(ts.map kt)[i]?=some (kt t):=by rw[bF1,ht];rfl
  rw[<-h,List.head?_drop,this];unfold kt;rw[x.1,x.2]
/-! counts that are in range -/
def okC(cs:List Cn):Prop:=∀c∈cs,¬tF c
theorem aCj(c:Nat)(l:List Nat):dM (c::l)=(c-48)*10^l.length+dM l:=by
 have h:=qY [c] l;have e:dM [c]=c-48:=by unfold dM;simp
 rw[e] at h;exact h
theorem aG5{high:Nat}:∀{l:List Nat} {n:Nat},(∀x∈l,dgt x=true)->n*10^l.length+dM l<=high->uI high l n=n*10^l.length+dM l
 | [],n,_,_=>by rw[uI];simp[dM]
 | c::l,n,hd,h=>by
  have hc:=eN.1 (hd c (bDe ..));have e:n*10^(c::l).length+dM (c::l)=(10*n+(c-48))*10^l.length+dM l:=by
   rw[aCj,bDa,bEk,bEc];simp only[bDj,bEa,bE0];omega
  have hle:n<=high:=by
   refine bDv ?_ h;refine bDv ?_ (Nat.le_add_right _ _);exact Nat.le_mul_of_pos_right _ (bE8 Ao)
  rw[uI,if_pos hle,aG5 (fun x hx=>hd x (bDh _ hx)) (by rw[<-e];exact h),e]
theorem aZu{i n low high:Nat}{l:List (Nat × List Nat)}{cs:List Cn}(h:At ts i ((1,aY n)::l))(h1:low<=n)(h2:n<=high)(hc:okC cs):∃cs',okC cs'/\sK ts low high i cs=.ok n (i+1) cs':=by
 obtain⟨t,h3,h4⟩:=h.head.1;unfold kt at h4
 injection h4 with h5 h6
 have hv:uI high (aY n) 0=n:=by
  have:=aG5 (high:=high) (l:=aY n) (n:=0) (eE n) (by rw[mE];omega);rw[this,mE];omega
 have hd:jI (aY n)=(aY n).length:=by
  have:=uY (a:=aY n) (b:=[]) (eE n) (fun c e=>by cases e)
  rwa [bDg] at this
 refine⟨cs++[⟨t.pos,low,high,n⟩],fun c hm=>?_,?_⟩
 .rcases bDf.1 hm with hm|hm
  .exact hc c hm
  .obtain rfl:=bDk.1 hm;unfold tF;show ¬(n<low\/high<n);omega
 .unfold sK;rw[h3];show (if t.kind=1/\jI t.text=t.text.length then _ else _)=_
  rw[h5,h6,if_pos ⟨rfl,hd⟩,hv]
/-! the tree that is read back -/
end
mutual
def reT:Tr->Tr
 | .mk op arg neg l m name ks=>if op=1 then aF8 (kA (aN neg l m)) prs else if op=2 then tE name else aF op arg (pP ks)
def pP:List Tr->List Tr
 | []=>[]
 | t::ts=>reT t::pP ts
end
theorem aG6:∀ts:List Tr,(pP ts).length=ts.length
 | []=>by rw[pP]
 | t::ts=>by rw[pP,bDa,bDa,aG6 ts]
section
variable (ts:List Tk)
structure Rd (lev:Int) (K:List (Nat × List Nat)) (t:Tr):Prop where
 head:5<=lev->∀l,lL (K++l) [45]
 atom:5<=lev->∀i l cs,At ts i (K++l)->okC cs->∃cs',okC cs'/\Ps ts .atom i cs (.ok t (i+K.length) cs')
 fac:3<=lev->∀i l cs,At ts i (K++l)->lL l [94]->okC cs->∃cs',okC cs'/\Ps ts .fac i cs (.ok t (i+K.length) cs')
 term:2<=lev->∀i l cs,At ts i (K++l)->lL l [94]->okC cs->∃cs',okC cs'/\∀r,Ps ts (.termL t) (i+K.length) cs' r->Ps ts .term i cs r
 sum:∀i l cs,At ts i (K++l)->lL l [94]->lL l [42]->lL l [47]->okC cs->∃cs',okC cs'/\∀r,Ps ts (.sumL t) (i+K.length) cs' r->Ps ts .sum i cs r
end
section
variable {ts:List Tk}
theorem Rd.ofTerm{lev:Int}{K:List (Nat × List Nat)}{t:Tr}(hl:lev<3)(term:2<=lev->∀i l cs,At ts i (K++l)->lL l [94]->okC cs->∃cs',okC cs'/\∀r,Ps ts (.termL t) (i+K.length) cs' r->Ps ts .term i cs r)(h2:2<=lev):Rd ts lev K t:=
 ⟨fun h=>by omega,fun h=>by omega,fun h=>by omega,term,fun i l cs hA h94 h42 h47 hc=>by
   obtain⟨cs',h1,h3⟩:=term h2 i l cs hA h94 hc;exact⟨cs',h1,fun r hr=>Ps.sum (h3 _ (Ps.termEnd (hA.app.no h42) (hA.app.no h47))) hr⟩⟩
theorem Rd.ofFac{lev:Int}{K:List (Nat × List Nat)}{t:Tr}(head:5<=lev->∀l,lL (K++l) [45])(atom:5<=lev->∀i l cs,At ts i (K++l)->okC cs->∃cs',okC cs'/\Ps ts .atom i cs (.ok t (i+K.length) cs'))
  (fac:∀i l cs,At ts i (K++l)->lL l [94]->okC cs->∃cs',okC cs'/\Ps ts .fac i cs (.ok t (i+K.length) cs')):Rd ts lev K t:=by
 have term:∀i l cs,At ts i (K++l)->lL l [94]->okC cs->∃cs',okC cs'/\∀r,Ps ts (.termL t) (i+K.length) cs' r->Ps ts .term i cs r:=fun i l cs hA h94 hc=>by
  obtain⟨cs',h1,h2⟩:=fac i l cs hA h94 hc;exact⟨cs',h1,fun r hr=>Ps.term h2 hr⟩
 exact⟨head,atom,fun _=>fac,fun _=>term,fun i l cs hA h94 h42 h47 hc=>by
   obtain⟨cs',h1,h3⟩:=term i l cs hA h94 hc;exact⟨cs',h1,fun r hr=>Ps.sum (h3 _ (Ps.termEnd (hA.app.no h42) (hA.app.no h47))) hr⟩⟩
theorem Rd.ofAtom{lev:Int}{K:List (Nat × List Nat)}{t:Tr}(hK:∀l,lL (K++l) [45])(atom:∀i l cs,At ts i (K++l)->okC cs->∃cs',okC cs'/\Ps ts .atom i cs (.ok t (i+K.length) cs')):Rd ts lev K t:=
 Rd.ofFac (fun _=>hK) (fun _=>atom) fun i l cs hA h94 hc=>by
  obtain⟨cs',h1,h2⟩:=atom i l cs hA hc;exact⟨cs',h1,Ps.fac (hA.no (hK l)) h2 (hA.app.no h94)⟩
theorem Rd.all{lev:Int}{K:List (Nat × List Nat)}{t:Tr}(h:Rd ts lev K t){i:Nat}{l:List (Nat × List Nat)}{cs:List Cn}(hA:At ts i (K++l))(h94:lL l [94])(h42:lL l [42])(h47:lL l [47])(h43:lL l [43])(h45:lL l [45])(hc:okC cs):
  ∃cs',okC cs'/\Ps ts .sum i cs (.ok t (i+K.length) cs'):=by
 obtain⟨cs',h1,h2⟩:=h.sum i l cs hA h94 h42 h47 hc;exact⟨cs',h1,h2 _ (Ps.sumEnd (hA.app.no h43) (hA.app.no h45))⟩
theorem aSy{s s':List Nat}{l:List (Nat × List Nat)}(h:s'≠s):lL ((0,s')::l) s:=fun e=>by
 injection e with e
 injection e with _ e
 exact h e
theorem aEn{k:Nat}{s s':List Nat}{l:List (Nat × List Nat)}(h:k≠0):lL ((k,s')::l) s:=fun e=>by
 injection e with e
 injection e with e _
 exact h e
theorem aAp{s:List Nat}:lL [] s:=fun e=>by cases e
theorem aWv{s:List Nat}{i:Nat}{cs:List Cn}{l:List (Nat × List Nat)}(h:At ts i ((0,s)::l)):jT ts s i cs=some (.ok () (i+1) cs):=by
 unfold jT;rw[if_pos h.is]
theorem Rd.par{lev lev':Int}{K:List (Nat × List Nat)}{t:Tr}(h:Rd ts lev K t):Rd ts lev' ([sgT 40]++K++[sgT 41]) t:=by
 refine Rd.ofAtom (fun l=>by show lL ((0,[40])::_) _;exact aSy Ad) fun i l cs hA hc=>?_
 have hA':At ts i ((0,[40])::(K++((0,[41])::l))):=by
  have e:[sgT 40]++K++[sgT 41]++l=(0,[40])::(K++((0,[41])::l)):=by simp[sgT]
  rwa [e] at hA
 obtain⟨⟨tk,e1,e2⟩,hA1⟩:=hA'.head;have hA2:=hA1.app;have q:∀s,s≠[41]->lL ((0,[41])::l) s:=fun s hs=>aSy fun e=>hs e.symm
 obtain⟨cs',h1,n,h2⟩:=h.all hA1 (q _ Ad) (q _ Ad) (q _ Ad) (q _ Ad) (q _ Ad) hc;unfold kt at e2
 injection e2 with e3 e4
 refine⟨cs',h1,n+1,?_⟩;rw[pp,e1];show (if tk.kind=2 then _ else _)=_
 rw[e3,e4,if_neg Ad,if_neg Ad,if_neg Ad,if_neg Ad,if_pos rfl,h2];show Pr.bnd (jT ts [41] (i+1+K.length) cs') _=_;rw[aWv hA2];show some (Pr.ok t (i+1+K.length+1) cs')=_;rw[show i+([sgT 40]++K++[sgT 41]).length=i+1+K.length+1 by simp;omega]
theorem Rd.place{K:List (Nat × List Nat)}{lev low:Int}{t:Tr}(h:Rd ts lev K t)(h5:low<=5):Rd ts low (lK (K,lev) low) t:=by
 unfold lK
 split
 .rename_i hle;have hle':low<=lev:=hle;exact⟨fun x=>h.head Aa,fun x=>h.atom Aa,fun x=>h.fac Aa,fun x=>h.term Aa,h.sum⟩
 .exact h.par
end
end Go.Proofs.Y
/- Simplify, plain, of trees of any depth. -/
namespace Go.Proofs.Y
open Go Go.Vc Go.Dig
theorem kC{a:Tr}{v:Rat}(h:okG a)(e:bW a=some v):fits v:=by
 obtain⟨op,arg,neg,l,m,name,ks⟩:=a;rw[okG] at h;by_cases e1:op=1
 .rw[aAj e1] at e;cases e;have hn:=h.1.2.2.2.2;rw[if_pos e1] at hn;exact hn.1.2.2
 by_cases e4:op=4
 .match ks,h,e with
  | .mk o a n l' m' nm ks'::us,h,e=>
   rw[aAk e4] at e
   split at e
   .rename_i e1;cases e;have h2:=h.2;rw[cA,okG] at h2;have hn:=h2.1.1.2.2.2.2;rw[if_pos e1] at hn;exact uX hn.1.2.2
   .cases e
  | [],h,e=>
   have:=h.1.1;rw[e4] at this;exact absurd this Ad
 .rw[aEj e1 e4] at e;cases e
theorem gX{a:Tr}(h:okG a)(e:lE a):∃k neg l m name arg,a=.mk 4 arg neg l m name [k]/\xE a=k/\okG k:=by
 obtain⟨op,arg,neg,l,m,name,ks⟩:=a;rw[okG] at h;have e1:op=4:=e;subst e1;have hl:=h.1.1
 match ks,hl,h with
 | [k],_,h=>
  rw[cA] at h;exact⟨k,neg,l,m,name,arg,rfl,rfl,h.2.1⟩
 | [],hl,_=>exact absurd hl Ad
 | _::_::us,hl,_=>
  have:aR 4=1:=Ad;rw[this] at hl;simp at hl;omega
theorem jM{op arg:Int}{a:Tr}(hk:aR op=1)(h1:jP op<=arg)(h2:arg<=eO op)(h:okG a):okG (aF op arg [a]):=by
 have hop:op≠2/\op≠1:=⟨fun e=>by rw[e] at hk;exact absurd hk Ad,fun e=>by rw[e] at hk;exact absurd hk Ad⟩
 unfold aF;rw[okG,cA,cA];refine⟨⟨hk.symm,h1,h2,?_,?_⟩,h,trivial⟩
 .rw[if_neg hop.1]
 .rw[if_neg hop.2];simp[aU]
theorem fG{op:Int}{a b:Tr}(hk:aR op=2)(h1:jP op=0)(h2:eO op=0)(h:okG a)(h':okG b):okG (aF op 0 [a,b]):=by
 have hop:op≠2/\op≠1:=⟨fun e=>by rw[e] at hk;exact absurd hk Ad,fun e=>by rw[e] at hk;exact absurd hk Ad⟩
 unfold aF;rw[okG,cA,cA,cA];refine⟨⟨hk.symm,Aa,Aa,?_,?_⟩,h,h',trivial⟩
 .rw[if_neg hop.1]
 .rw[if_neg hop.2];simp[aU]
theorem oZ{q:Rat}(hf:fits q):okG (mkL q):=rG (d:=0) (aZn Ad hf)
theorem aSz{e a:Tr}(he:okG e)(ha:okG a):okG (lS e a):=by
 unfold lS
 split
 .exact oZ (uX (kC ha Ab))
 .split
  .obtain⟨k,-,-,-,-,-,-,e1,e2⟩:=gX ha Ab;rw[e1];exact e2
  .exact he
theorem aZv{e a b:Tr}(op:Int)(he:okG e)(ha:okG a)(hb:okG b):okG (oX e op a b):=by
 have fn:okG (lS (aF 4 0 [b]) b):=aSz (jM Ad Ad Ad hb) hb;have fk:∀o,aR o=2->jP o=0->eO o=0->lE b->okG (aF o 0 [a,xE b]):=fun o k1 k2 k3 hn=>by
  obtain⟨k,-,-,-,-,-,-,e1,e2⟩:=gX hb hn;rw[e1];exact fG k1 k2 k3 ha e2
 unfold oX
 split
 .exact oZ (aJr Ab)
 split
 .unfold uU
  repeat' split
  .exact hb
  .exact ha
  .exact fk 6 Ad Ad Ad Ab
  .exact he
 split
 .unfold wM
  repeat' split
  .exact ha
  .exact fn
  .exact fk 5 Ad Ad Ad Ab
  .exact he
 split
 .unfold uV
  repeat' split
  .exact oZ eV
  .exact hb
  .exact ha
  .exact fn
  .exact he
 .unfold aZm
  repeat' split
  .exact oZ eV
  .exact ha
  .exact he
theorem aZw{e a:Tr}(arg:Int)(he:okG e)(ha:okG a):okG (mX e arg a):=by
 unfold mX
 split
 .exact oZ (aOe Ab)
 .repeat' split
  .exact oZ fL
  .exact ha
  .exact he
theorem aWw{op arg:Int}{e:Tr}{ks:List Tr}(he:okG e)(hk:cA ks):okG (rL op arg e ks):=by
 match ks,hk with
 | [a],hk=>
  rw[cA] at hk;rw[rL]
  repeat' split
  .exact aSz he hk.1
  .exact aZw _ he hk.1
  .exact he
 | [a,b],hk=>
  rw[cA,cA] at hk;rw[rL]
  split
  .exact aZv op he hk.1 hk.2.1
  .exact he
 | [],_=>exact he
 | _::_::_::_,_=>exact he
mutual
theorem rM:∀{t:Tr},okG t->okG (eA t)
 | .mk op arg neg l m name ks,h=>by
  rw[okG] at h;have g:=aL1 h.2;rw[eA];refine aWw ?_ g;rw[okG];exact⟨by rw[wO];exact h.1,g⟩
theorem aL1:∀{ts:List Tr},cA ts->cA (cK ts)
 | [],_=>by rw[cK,cA];trivial
 | t::ts,h=>by
  rw[cA] at h;rw[cK,cA];exact⟨rM h.1,aL1 h.2⟩
end
end Go.Proofs.Y
/- Derivatives: plain. -/
namespace Go.Proofs.Y
open Go Go.Vc Go.Dig
/-! trees with equal gI -/
theorem pA{us:List Tr}(h:gI []=gI us):us=[]:=by
 match us,h with
 | [],_=>rfl
 | _::_,h=>rw[gI,gI] at h;cases h
theorem mG{t:Tr}{ts us:List Tr}(h:gI (t::ts)=gI us):∃u us',us=u::us'/\key t=key u/\gI ts=gI us':=by
 match us,h with
 | [],h=>rw[gI,gI] at h;cases h
 | u::us,h=>
  rw[gI,gI,List.cons.injEq] at h;exact⟨u,us,rfl,h.1,h.2⟩
mutual
theorem aL2:∀{t u:Tr},key t=key u->szT t=szT u
 | .mk op arg neg l m name ks,.mk op' arg' neg' l' m' name' ks',e=>by
  rw[key,key,Kt.mk.injEq] at e;rw[szT,szT,aG7 e.2.2.2.2]
theorem aG7:∀{ts us:List Tr},gI ts=gI us->eF ts=eF us
 | [],us,e=>by rw[pA e]
 | t::ts,us,e=>by
  obtain⟨u,us',rfl,e1,e2⟩:=mG e;rw[eF,eF,aL2 e1,aG7 e2]
end
/-! the derivative: `g` tells how a node stands for itself -/
def aBi(e:Tr)(arg:Int)(a da:Tr):Tr:=if arg=0 then mkL 0 else aF 7 0 [aF 7 0 [mkL (arg:Rat),if -32<arg then aF 9 (arg-1) [a] else aF 8 0 [e,a]],da]
def aS0(e:Tr)(arg:Int)(da:Tr):Tr:=aF 8 0 [da,aF 7 0 [mkL (arg:Rat),aF 9 (arg-1) [e]]]
def aZx(a:Tr):Tr:=aF 10 2 [aF 6 0 [mkL 1,aF 9 2 [a]]]
def aG8(e:Tr)(arg:Int)(a da:Tr):Tr:=
 if arg=1 then aF 7 0 [e,da] else if arg=2 then aF 8 0 [da,a] else if arg=3 then aF 7 0 [aF 11 4 [a],da]
 else if arg=4 then aF 4 0 [aF 7 0 [aF 11 3 [a],da]] else if arg=5 then aF 7 0 [aF 5 0 [mkL 1,aF 9 2 [e]],da]
 else if arg=6 then aF 8 0 [da,aZx a] else if arg=7 then aF 4 0 [aF 8 0 [da,aZx a]] else aF 8 0 [da,aF 5 0 [mkL 1,aF 9 2 [a]]]
def aOi(op:Int)(a b da db:Tr):Tr:=
 if op=5\/op=6 then aF op 0 [da,db] else if op=7 then aF 5 0 [aF 7 0 [da,b],aF 7 0 [a,db]]
 else aF 8 0 [aF 6 0 [aF 7 0 [da,b],aF 7 0 [a,db]],aF 9 2 [b]]
def sP(e:Tr)(op arg:Int):List Tr->List Tr->Tr
 | [a],[da]=>if op=4 then aF 4 0 [da] else if op=9 then aBi e arg a da else if op=10 then aS0 e arg da else aG8 e arg a da
 | [a,b],[da,db]=>aOi op a b da db
 | _,_=>bZ
mutual
def eS(g:Tr->Tr)(nm:List Nat):Tr->Tr
 | .mk op arg neg l m name ks=>if op=1\/op=3 then mkL 0 else if op=2 then (if name=nm then mkL 1 else mkL 0) else sP (g (.mk op arg neg l m name ks)) op arg ks (dV g nm ks)
def dV(g:Tr->Tr)(nm:List Nat):List Tr->List Tr
 | []=>[]
 | t::ts=>eS g nm t::dV g nm ts
end
def bare:Tr->Tr
 | .mk op arg _ _ _ _ ks=>aF op arg ks
mutual
def smT:Tr->Prop
 | .mk op _ _ _ _ _ ks=>¬dY op/\tL ks
def tL:List Tr->Prop
 | []=>True
 | t::ts=>smT t/\tL ts
end
mutual
theorem aS1:∀{t:Tr},(∀x∈gJ t,¬dY x.1)->smT t
 | .mk op arg neg l m name ks,h=>by
  rw[gJ] at h;rw[smT];exact⟨h _ (bDe ..),aL3 fun x hx=>h x (bDh _ hx)⟩
theorem aL3:∀{ts:List Tr},(∀x∈dG ts,¬dY x.1)->tL ts
 | [],_=>by rw[tL];trivial
 | t::ts,h=>by
  rw[dG] at h;rw[tL];exact⟨aS1 fun x hx=>h x (bDz _ hx),aL3 fun x hx=>h x (bD0 _ hx)⟩
end
theorem aEo{t:Tr}(h:qJ t=none):smT t:=aS1 (wI.1 h)
theorem aG9{op arg:Int}{neg:Bool}{l m name:List Nat}{n:Nat}(h:fQ op arg neg l m name n)(s:¬dY op):
  op=1\/op=2\/op=3\/((op=4\/op=9\/op=10\/op=11)/\n=1)\/((op=5\/op=6\/op=7\/op=8)/\n=2):=by
 have h1:=h.1;unfold dY at s;unfold aR at h1
 repeat' split at h1
 all_goals omega
theorem aX3{n:Int}(h1:-4294967296<n)(h2:n<4294967296):okG (mkL (n:Rat)):=oZ (qX n Aa Aa)
theorem aHa{op arg:Int}{neg:Bool}{l m name:List Nat}{ks:List Tr}(h:okG (.mk op arg neg l m name ks)):cA ks:=by rw[okG] at h;exact h.2
theorem aZy{e a da:Tr}{arg:Int}(h1:-32<=arg)(h2:arg<=32)(he:okG e)(ha:okG a)(hd:okG da):okG (aBi e arg a da):=by
 unfold aBi
 split
 .exact oZ eV
 .refine fG Ad Ad Ad (fG Ad Ad Ad (aX3 Aa Aa) ?_) hd
  split
  .exact jM Ad (by rw[show jP 9=-32 by decide];omega) (by rw[show eO 9=32 by decide];omega) ha
  .exact fG Ad Ad Ad he ha
theorem aS2{a:Tr}(ha:okG a):okG (aZx a):=jM Ad Ad Ad (fG Ad Ad Ad (oZ fL) (jM Ad Ad Ad ha))
theorem aWx{e a da:Tr}{arg:Int}(he:okG e)(ha:okG a)(hd:okG da):okG (aG8 e arg a da):=by
 have h1:okG (mkL 1):=oZ fL;have hs:∀{x:Tr},okG x->okG (aF 9 2 [x]):=fun h=>jM Ad Ad Ad h
 have h7:∀{x y:Tr},okG x->okG y->okG (aF 7 0 [x,y]):=fun h h'=>fG Ad Ad Ad h h'
 have h8:∀{x y:Tr},okG x->okG y->okG (aF 8 0 [x,y]):=fun h h'=>fG Ad Ad Ad h h'
 have h5:∀{x y:Tr},okG x->okG y->okG (aF 5 0 [x,y]):=fun h h'=>fG Ad Ad Ad h h'
 have h4:∀{x:Tr},okG x->okG (aF 4 0 [x]):=fun h=>jM Ad Ad Ad h
 unfold aG8
 repeat' split
 .exact h7 he hd
 .exact h8 hd ha
 .exact h7 (jM Ad Ad Ad ha) hd
 .exact h4 (h7 (jM Ad Ad Ad ha) hd)
 .exact h7 (h5 h1 (hs he)) hd
 .exact h8 hd (aS2 ha)
 .exact h4 (h8 hd (aS2 ha))
 .exact h8 hd (h5 h1 (hs ha))
theorem aZz{op:Int}{a b da db:Tr}(ha:okG a)(hb:okG b)(hd:okG da)(hd':okG db):okG (aOi op a b da db):=by
 have h7:∀{x y:Tr},okG x->okG y->okG (aF 7 0 [x,y]):=fun h h'=>fG Ad Ad Ad h h'
 unfold aOi
 split
 .rename_i h;rcases h with rfl|rfl
  .exact fG Ad Ad Ad hd hd'
  .exact fG Ad Ad Ad hd hd'
 split
 .exact fG Ad Ad Ad (h7 hd hb) (h7 ha hd')
 .exact fG Ad Ad Ad (fG Ad Ad Ad (h7 hd hb) (h7 ha hd')) (jM Ad Ad Ad hb)
mutual
theorem aS3{g:Tr->Tr}(hg:∀(op arg:Int) (neg:Bool) (l m name:List Nat) (ks:List Tr),op≠1->op≠2->okG (.mk op arg neg l m name ks)->okG (g (.mk op arg neg l m name ks)))(nm:List Nat):∀{t:Tr},okG t->smT t->okG (eS g nm t)
 | .mk op arg neg l m name ks,h,hs=>by
  have hk:=aL4 hg nm (aHa h);have hks:=aHa h;rw[smT] at hs;replace hk:=hk hs.2;have hn:=h;rw[okG] at hn;have kn:=aG9 hn.1 hs.1;rw[eS]
  split
  .exact oZ eV
  rename_i h1
  split
  .split
   .exact oZ fL
   .exact oZ eV
  rename_i h2;have he:=hg op arg neg l m name ks Aa h2 h
  match ks,hk,hks,kn with
  | [a],hk,hks,kn=>
   rw[dV,dV,cA] at hk;rw[cA] at hks;rw[dV,dV,sP]
   split
   .exact jM Ad Ad Ad hk.1
   split
   .rename_i h9;have n1:=hn.1.2.1;have n2:=hn.1.2.2.1;rw[h9] at n1 n2;rw[show jP 9=-32 by decide] at n1
    rw[show eO 9=32 by decide] at n2
    exact aZy n1 n2 he hks.1 hk.1
   split
   .rename_i h10;have n1:=hn.1.2.1;have n2:=hn.1.2.2.1;rw[h10] at n1 n2;rw[show jP 10=2 by decide] at n1
    rw[show eO 10=8 by decide] at n2
    exact fG Ad Ad Ad hk.1 (fG Ad Ad Ad (aX3 Aa Aa) (jM Ad (by rw[show jP 9=-32 by decide];omega) (by rw[show eO 9=32 by decide];omega) he))
   .exact aWx he hks.1 hk.1
  | [a,b],hk,hks,kn=>
   rw[dV,dV,dV,cA,cA] at hk;rw[cA,cA] at hks;rw[dV,dV,dV,sP];exact aZz hks.1 hks.2.1 hk.1 hk.2.1
  | [],hk,hks,kn=>simp at kn;omega
  | _::_::_::_,hk,hks,kn=>simp at kn;omega
theorem aL4{g:Tr->Tr}(hg:∀(op arg:Int) (neg:Bool) (l m name:List Nat) (ks:List Tr),op≠1->op≠2->okG (.mk op arg neg l m name ks)->okG (g (.mk op arg neg l m name ks)))(nm:List Nat):∀{ts:List Tr},cA ts->tL ts->cA (dV g nm ts)
 | [],_,_=>by rw[dV,cA];trivial
 | t::ts,h,hs=>by
  rw[cA] at h;rw[tL] at hs;rw[dV,cA];exact⟨aS3 hg nm h.1 hs.1,aL4 hg nm h.2 hs.2⟩
end
theorem aS4{nm:List Nat}{t:Tr}(h:okG t)(s:smT t):okG (eS id nm t):=aS3 (fun _ _ _ _ _ _ _ _ _ x=>x) nm h s
/-! what Derive answers, on both sides -/
def aOj(nm:List Nat)(t:Tr):Tr × Nat:=if ¬dN t then (bZ,40) else if ¬fE nm then (bZ,41) else if qJ t≠none then (bZ,42) else qE (eA (eS id nm t))
end Go.Proofs.Y
/- The text of a tree, parsed: each kind of node; the whole. -/
namespace Go.Proofs.Y
open Go Go.Vc Go.Dig
section
variable {ts:List Tk}
theorem aL5{ks:List Tr}{n:Int}(h:(ks.length:Int)=n)(hn:n=1):∃k,ks=[k]:=by
 match ks,h with
 | [k],_=>exact⟨k,rfl⟩
 | [],h=>simp at h;omega
 | _::_::r,h=>simp at h;omega
theorem aHb{ks:List Tr}{n:Int}(h:(ks.length:Int)=n)(hn:n=2):∃a b,ks=[a,b]:=by
 match ks,h with
 | [a,b],_=>exact⟨a,b,rfl⟩
 | [_],h=>simp at h;omega
 | [],h=>simp at h;omega
 | _::_::_::r,h=>simp at h;omega
theorem aZ0{q:Rat}{lev:Int}:Rd ts lev [(1,kA q)] (aF8 (kA q) prs):=by
 refine Rd.ofAtom (fun l=>aEn Ad) fun i l cs hA hc=>?_
 obtain⟨⟨t,e1,e2⟩,-⟩:=At.head (l:=l) hA;unfold kt at e2
 injection e2 with e3 e4
 refine⟨cs,hc,1,?_⟩;rw[pp,e1];show (if t.kind=2 then _ else _)=_
 rw[e3,e4,if_neg Ad,if_neg Ad,if_pos rfl]
 rfl
theorem aZ1{n:List Nat}{lev:Int}:Rd ts lev [(2,n)] (tE n):=by
 refine Rd.ofAtom (fun l=>aEn Ad) fun i l cs hA hc=>?_
 obtain⟨⟨t,e1,e2⟩,-⟩:=At.head (l:=l) hA;unfold kt at e2
 injection e2 with e3 e4
 refine⟨cs,hc,1,?_⟩;rw[pp,e1];show (if t.kind=2 then _ else _)=_
 rw[e3,e4,if_pos rfl]
 rfl
theorem aZ2{K:List (Nat × List Nat)}{t:Tr}(h:Rd ts 3 K t):Rd ts 3 ([sgT 45]++K) (aF 4 0 [t]):=by
 refine Rd.ofFac (fun h=>absurd h Ad) (fun h=>absurd h Ad) fun i l cs hA h94 hc=>?_
 have hA':At ts i ((0,[45])::(K++l)):=hA;obtain⟨cs',h1,h2⟩:=h.fac Ad (i+1) l cs hA'.head.2 h94 hc;refine⟨cs',h1,?_⟩;have:=Ps.neg hA'.is h2
 rwa [show i+1+K.length=i+([sgT 45]++K).length by simp;omega] at this
theorem aS5{op:Int}{s:List Nat}{l:List (Nat × List Nat)}(h:s≠[opC op]):lL (sgT (opC op)::l) s:=aSy fun e=>h e.symm
theorem aZ3{op:Int}(ho:op=5\/op=6){K K':List (Nat × List Nat)}{t u:Tr}(h:Rd ts 1 K t)(h':Rd ts 2 K' u):Rd ts 1 (K++[sgT (opC op)]++K') (aF op 0 [t,u]):=by
 refine⟨fun h=>absurd h Ad,fun h=>absurd h Ad,fun h=>absurd h Ad,fun h=>absurd h Ad,fun i l cs hA h94 h42 h47 hc=>?_⟩
 have hA':At ts i (K++(sgT (opC op)::(K'++l))):=by
  have e:K++[sgT (opC op)]++K'++l=K++(sgT (opC op)::(K'++l)):=by simp
  rwa [e] at hA
 have hop:∀s,s≠[43]->s≠[45]->lL (sgT (opC op)::(K'++l)) s:=fun s a b=>aS5 (by rcases ho with rfl|rfl<;>assumption)
 obtain⟨c1,g1,g2⟩:=h.sum i _ cs hA' (hop _ Ad Ad) (hop _ Ad Ad) (hop _ Ad Ad) hc;have hA1:=hA'.app;obtain⟨c2,g3,g4⟩:=h'.term Ad _ l c1 hA1.head.2 h94 g1;refine⟨c2,g3,fun r hr=>g2 r ?_⟩
 have e:i+(K++[sgT (opC op)]++K').length=i+K.length+1+K'.length:=by simp;omega
 rw[e] at hr;exact Ps.add ho hA1.is (g4 _ (Ps.termEnd (hA1.head.2.app.no h42) (hA1.head.2.app.no h47))) hr
theorem aZ4{op:Int}(ho:op=7){K K':List (Nat × List Nat)}{t u:Tr}(h:Rd ts 2 K t)(h':Rd ts 3 K' u):Rd ts 2 (K++[sgT (opC op)]++K') (aF op 0 [t,u]):=by
 refine Rd.ofTerm Ad (fun _ i l cs hA h94 hc=>?_) Ad
 have hA':At ts i (K++(sgT (opC op)::(K'++l))):=by
  have e:K++[sgT (opC op)]++K'++l=K++(sgT (opC op)::(K'++l)):=by simp
  rwa [e] at hA
 have hop:∀s,s≠[42]->lL (sgT (opC op)::(K'++l)) s:=fun s a=>aS5 (by subst ho;exact a)
 obtain⟨c1,g1,g2⟩:=h.term Ad i _ cs hA' (hop _ Ad) hc;have hA1:=hA'.app;obtain⟨c2,g3,g4⟩:=h'.fac Ad _ l c1 hA1.head.2 h94 g1;refine⟨c2,g3,fun r hr=>g2 r ?_⟩
 have e:i+(K++[sgT (opC op)]++K').length=i+K.length+1+K'.length:=by simp;omega
 rw[e] at hr;exact Ps.mul ho hA1.is g4 hr
theorem aZ5{arg:Int}(h1:0<=arg)(h2:arg<=32){K:List (Nat × List Nat)}{t:Tr}(h:Rd ts 5 K t):Rd ts 4 (K++([sgT 94]++itK arg)) (aF 9 arg [t]):=by
 refine Rd.ofFac (fun h=>absurd h Ad) (fun h=>absurd h Ad) fun i l cs hA h94 hc=>?_
 have hm:=hA.no (by rw[bDb];exact h.head Ad _);have e:K++([sgT 94]++itK arg)++l=K++((0,[94])::(1,aY arg.natAbs)::l):=by unfold itK;simp[sgT]
 rw[e] at hA;obtain⟨c1,g1,g2⟩:=h.atom Ad i _ cs hA hc;have hA1:=hA.app;have hA2:=hA1.head.2;obtain⟨c2,g3,g4⟩:=aZu (low:=0) (high:=32) hA2 Aa Aa g1;refine⟨c2,g3,?_⟩;have:=Ps.pow hm g2 hA1.is (hA2.no (aEn Ad)) g4;rw[show ((arg.natAbs:Nat):Int)=arg by omega] at this
 rw[show i+(K++([sgT 94]++itK arg)).length=i+K.length+2 by unfold itK;simp;omega]
 exact this
end
theorem aWy(ts:List Tk):∀(t:Tr) (d:Nat),okT d t->aZ t->Rd ts (dB t.op) (nL t) (reT t):=by
 refine bN fun t ih=>?_
 intro d h hp;obtain⟨op,arg,neg,l,m,name,ks⟩:=t;rw[okT] at h;rw[aZ] at hp;obtain⟨-,⟨n1,n2,n3,n4,n5⟩,hk⟩:=h;obtain⟨hpo,hpk⟩:=hp;have kid:∀t∈ks,Rd ts (dB t.op) (nL t) (reT t):=fun t ht=>by
  obtain⟨i,hi,rfl⟩:=List.mem_iff_getElem.1 ht;have e:=bC8 hi;exact ih _ (aP e) (d+1) (aAb hk e) (iE hpk ht)
 rw[nL,reT];show Rd ts (dB op) _ _;by_cases e:op=1
 .rw[if_pos e];unfold xA;rw[if_pos e];exact aZ0
 by_cases e2:op=2
 .rw[if_neg e,if_pos e2];unfold xA;rw[if_neg e,if_pos e2];exact aZ1
 rw[if_neg e,if_neg e2];have hl:∀o:Int,op=o->aR o=(ks.length:Int)/\jP o<=arg/\arg<=eO o:=fun o x=>by subst x;exact⟨n1.symm,n2,n3⟩
 unfold xA;rw[if_neg e,if_neg e2];by_cases e4:op=4
 .subst e4;obtain⟨k1,k2,k3⟩:=hl 4 rfl;obtain⟨k,rfl⟩:=aL5 k1.symm Ad;rw[show jP 4=0 by decide] at k2
  rw[show eO 4=0 by decide] at k3
  obtain rfl:arg=0:=Aa;rw[if_pos rfl,gN,gN,pP,pP];exact aZ2 ((kid k (bDe ..)).place Ad)
 rw[if_neg e4];by_cases e5:op=5\/op=6
 .obtain⟨k1,k2,k3⟩:=hl op rfl;rw[show aR op=2 by rcases e5 with rfl|rfl<;>decide] at k1
  rw[show jP op=0 by rcases e5 with rfl|rfl<;>decide] at k2
  rw[show eO op=0 by rcases e5 with rfl|rfl<;>decide] at k3
  obtain⟨a,b,rfl⟩:=aHb k1.symm rfl;obtain rfl:arg=0:=Aa;rw[if_pos e5,gN,gN,gN,pP,pP,pP];rw[show dB op=1 from if_pos e5];exact aZ3 e5 ((kid a (bDe ..)).place Ad) ((kid b (bDh _ (bDe ..))).place Ad)
 rw[if_neg e5];by_cases e7:op=7
 .subst e7;obtain⟨k1,k2,k3⟩:=hl 7 rfl;rw[show jP 7=0 by decide] at k2
  rw[show eO 7=0 by decide] at k3
  obtain⟨a,b,rfl⟩:=aHb k1.symm Ad;obtain rfl:arg=0:=Aa;rw[if_pos rfl,gN,gN,gN,pP,pP,pP];exact aZ4 rfl ((kid a (bDe ..)).place Ad) ((kid b (bDh _ (bDe ..))).place Ad)
 rw[if_neg e7];obtain⟨rfl,ha⟩:op=9/\0<=arg:=Aa;obtain⟨k1,k2,k3⟩:=hl 9 rfl;obtain⟨k,rfl⟩:=aL5 k1.symm Ad;rw[show eO 9=32 by decide] at k3
 rw[gN,gN,pP,pP];exact aZ5 ha k3 ((kid k (bDe ..)).place Ad)
end Go.Proofs.Y
/- The text of a tree leads back to the tree; printing again changes nothing: plain. -/
namespace Go.Proofs.Y
open Go Go.Vc Go.Dig
/-! numbers among the tokens -/
def KwT:List (List Nat):=[[112,105],[97,98,115],[115,113,114,116],[109,105,110],[109,97,120],[105,102],[114,111,111,116]]
def aZ6(x:Nat × List Nat):Prop:=(x.1=1->∃q,fits q/\0<=q/\x.2=kA q)/\(x.1=1\/x.1=2\/(x.1=0/\x.2∉KwT))
theorem aS6{n:Nat}(h:n<=9223372036854775807):aZ6 (1,aY n):=⟨fun _=>by
  have hf:fits ((n:Int):Rat):=qX n Aa Aa;have h0:(0:Rat)<=((n:Int):Rat):=by
    rw[<-Rat.num_nonneg];show (0:Int)<=n;omega
  refine⟨_,hf,h0,?_⟩;unfold kA;rw[aJu h0,if_pos (uA n),zA];simp,.inl rfl⟩
def eU(l:List (Nat × List Nat)):Prop:=∀x∈l,aZ6 x
theorem eU.app{a b:List (Nat × List Nat)}(h:eU a)(h':eU b):eU (a++b):=fun x hx=>(bDf.1 hx).elim (h x) (h' x)
theorem eU.one{x:Nat × List Nat}(h:aZ6 x):eU [x]:=fun y hy=>by rw[bDk.1 hy];exact h
theorem eU.nil:eU []:=fun x hx=>by cases hx
theorem eU.sg(c:Nat):eU [sgT c]:=eU.one ⟨fun e=>(by cases e),.inr (.inr ⟨rfl,by unfold KwT sgT;simp⟩)⟩
theorem eU.place{x:List (Nat × List Nat) × Int}(h:eU x.1)(low:Int):eU (lK x low):=by
 unfold lK
 split
 .exact h
 .exact eU.app (eU.app (eU.sg 40) h) (eU.sg 41)
theorem eU.getD{xs:List (List (Nat × List Nat) × Int)}(h:∀x∈xs,eU x.1)(i:Nat):eU (xs.getD i ([],0)).1:=by
 rw[bC7];cases hx:xs[i]? with
 | none=>exact eU.nil
 | some x=>exact h x (bDc hx)
theorem eU.node{op arg:Int}{neg:Bool}{l m name:List Nat}{n:Nat}{xs:List (List (Nat × List Nat) × Int)}(hn:fQ op arg neg l m name n)(hp:(1<=op/\op<=7/\op≠3)\/(op=9/\0<=arg))(h:∀x∈xs,eU x.1):eU (xA op arg (aN neg l m) name xs):=by
 obtain⟨n1,n2,n3,n4,n5⟩:=hn;have p:=fun i low=>eU.place (eU.getD h i) low
 unfold xA;by_cases e:op=1
 .rw[if_pos e];rw[if_pos e] at n5;exact eU.one ⟨fun _=>⟨_,n5.1.2.2,n5.2,rfl⟩,.inl rfl⟩
 rw[if_neg e];by_cases e:op=2
 .rw[if_pos e];exact eU.one ⟨fun e=>(by cases e),.inr (.inl rfl)⟩
 rw[if_neg e];by_cases e:op=4
 .rw[if_pos e];exact eU.app (eU.sg 45) (p 0 3)
 rw[if_neg e];by_cases e:op=5\/op=6
 .rw[if_pos e];exact eU.app (eU.app (p 0 1) (eU.sg _)) (p 1 2)
 rw[if_neg e];by_cases e:op=7
 .rw[if_pos e];exact eU.app (eU.app (p 0 2) (eU.sg _)) (p 1 3)
 rw[if_neg e];obtain⟨rfl,ha⟩:op=9/\0<=arg:=Aa;rw[show eO 9=32 by decide] at n3
 exact eU.app (p 0 5) (eU.app (eU.sg 94) (eU.one (aS6 Aa)))
mutual
theorem aAq:∀{d:Nat} {t:Tr},okT d t->aZ t->eU (nL t)
 | d,.mk op arg neg l m name ks,h,hp=>by
  rw[okT] at h;rw[aZ] at hp;rw[nL];exact eU.node h.2.1 hp.1 (aCk h.2.2 hp.2)
theorem aCk:∀{d:Nat} {ts:List Tr},dJ d ts->bK ts->∀x∈gN ts,eU x.1
 | d,[],_,_=>by rw[gN];intro x hx;cases hx
 | d,t::ts,h,hp=>by
  rw[dJ] at h;rw[bK] at hp;have h1:=aAq h.1 hp.1;have h2:=aCk h.2 hp.2;rw[gN];intro x hx;rcases bDp.1 hx with rfl|hx
  .exact h1
  .exact h2 x hx
end
theorem pQ:∀{a b:List Nat},(∀x∈a,dgt x=true)->cD (a++b)=a.length+cD b
 | [],b,_=>by simp
 | c::a,b,h=>by
  have h1:=eN.1 (h c (bDe ..));rw[bEn,cD,if_neg Aa,pQ fun x hx=>h x (bDh _ hx),bDa]
  omega
theorem aAr:∀{l:List Nat},(∀c∈l,c=48)->dM l=0
 | [],_=>rfl
 | c::l,h=>by
  rw[aCj,aAr fun x hx=>h x (bDh _ hx),h c (bDe ..)]
  simp
theorem aJv{q:Rat}(h0:0<=q):¬nP (kA q):=by
 unfold kA nP;rw[aJu h0];show ¬(cD (aY (nu q)++_)<(aY (nu q)++_).length/\_);by_cases e:q.den=1
 .rw[if_pos e,pQ (eE _),bDg]
  rintro⟨h,-⟩
  omega
 .rw[if_neg e,pQ (eE _)]
  rintro⟨-,h⟩
  have e2:(aY (nu q)++([47]++aY q.den)).drop ((aY (nu q)).length+cD ([47]++aY q.den)+1)=aY q.den:=by
   rw[show cD ([47]++aY q.den)=0 from if_pos rfl,bEh,<-bG2,bGn]
   rfl
  rw[show (if false=true then [45]++aY (nu q) else aY (nu q))=aY (nu q) from rfl,pQ (eE _),e2] at h
  have:=aAr h;rw[mE] at this;exact q.den_nz this
theorem aZ7{ts:List Tk}{cs:List Cn}(h:eU (ts.map kt))(hc:okC cs):oM ts cs=(0,0):=by
 have hq:∀t∈ts,t.kind=1->∃q,fits q/\0<=q/\t.text=kA q:=fun t ht e=>(h (kt t) (bDy ht)).1 e
 unfold oM;have h1:ts.find? (fun t=>decide (gV t))=none:=List.find?_eq_none.2 fun t ht=>by
  rw[decide_eq_true_eq]
  rintro⟨a,b⟩
  obtain⟨q,-,h0,e⟩:=hq t ht a;rw[e] at b;exact aJv h0 b
 have h2:ts.filter (fun t=>decide (fJ t))=[]:=List.filter_eq_nil_iff.2 fun t ht=>by
  rw[decide_eq_true_eq]
  rintro⟨a,b⟩
  obtain⟨q,hf,-,e⟩:=hq t ht a;rw[e,aB0 hf] at b;exact b rfl
 have h3:cs.find? (fun c=>decide (tF c))=none:=List.find?_eq_none.2 fun c hm=>by
  rw[decide_eq_true_eq];exact hc c hm
 rw[h1,h2,h3]
/-! the tree that is read back is right -/
mutual
theorem aEp:∀{d:Nat} {t:Tr},okT d t->okT d (reT t)/\key (reT t)=key t
 | d,.mk op arg neg l m name ks,h=>by
  rw[okT] at h;obtain⟨hd,⟨n1,n2,n3,n4,n5⟩,hk⟩:=h;obtain⟨k1,k2⟩:=aL6 hk;rw[reT];by_cases e:op=1
  .subst e;rw[if_pos rfl];rw[if_pos rfl] at n5;rw[if_neg Ad] at n4;rw[show jP 1=0 by decide] at n2
   rw[show eO 1=0 by decide] at n3
   rw[show aR 1=0 by decide] at n1
   obtain rfl:ks=[]:=bD7.1 Aa;obtain rfl:arg=0:=Aa;obtain rfl:=n4;have hf:=n5.1.2.2;unfold aF8 prs;rw[aB0 hf];refine⟨aEl (q:=aN neg l m) hd n5.2 hf,?_⟩;rw[key,key,gI,jF]
  rw[if_neg e];rw[if_neg e] at n5;have hr:aN neg l m=0:=sA n5;have hr0:aN false [] []=0:=sA (show evl 4294967296 []=0 from aU _);by_cases e2:op=2
  .subst e2;rw[if_pos rfl];rw[if_pos rfl] at n4;rw[show jP 2=0 by decide] at n2
   rw[show eO 2=0 by decide] at n3
   rw[show aR 2=0 by decide] at n1
   obtain rfl:ks=[]:=bD7.1 Aa;obtain rfl:arg=0:=Aa;unfold tE;refine⟨?_,by rw[key,key,gI,hr,hr0]⟩
   rw[okT,dJ];exact⟨hd,⟨rfl,Ad,Ad,by rw[if_pos rfl];exact n4,by rw[if_neg Ad];exact aU _⟩,trivial⟩
  .rw[if_neg e2];rw[if_neg e2] at n4;subst n4;unfold aF;refine⟨?_,by rw[key,key,k2,hr,hr0]⟩
   rw[okT];exact⟨hd,⟨by rw[aG6];exact n1,n2,n3,by rw[if_neg e2],by rw[if_neg e];exact aU _⟩,k1⟩
theorem aL6:∀{d:Nat} {ts:List Tr},dJ d ts->dJ d (pP ts)/\gI (pP ts)=gI ts
 | d,[],_=>by rw[pP];exact⟨by rw[dJ];trivial,rfl⟩
 | d,t::ts,h=>by
  rw[dJ] at h;obtain⟨a1,a2⟩:=aEp h.1;obtain⟨b1,b2⟩:=aL6 h.2;rw[pP];exact⟨by rw[dJ];exact⟨a1,b1⟩,by rw[gI,gI,a2,b2]⟩
end
theorem aL7{t:Tr}(h:dN t):dN (reT t):=⟨(aEp h.1).1,by rw[aL2 (aEp h.1).2];exact h.2⟩
theorem aJw{t:Tr}(h:dN t)(hp:aZ t)(hl:(aK t).length<=4000):iW (aK t)=(iV (reT t),0,0)/\NkT (bQ (aK t).length (aK t) 0 []).1:=by
 obtain⟨ts,h1,h2⟩:=aOh h.1 hp;have hr:=aWy ts t 1 h.1 hp;refine⟨?_,fun x hx=>by rw[h1] at hx;have:=(aAq h.1 hp (kt x) (by rw[<-h2];exact bDy hx)).2;exact this⟩
 have hA:At ts 0 (nL t++[]):=by unfold At;rw[bDg,h2];rfl
 obtain⟨cs,g1,n,g2⟩:=hr.all hA aAp aAp aAp aAp aAp (cs:=[]) (fun c hc=>by cases hc)
 rw[bDu] at g2;have hlen:(nL t).length=ts.length:=by rw[<-h2,bDt]
 have hq:qZ ts prs=.ok (reT t) (nL t).length cs:=by
  have a:=iP ts prs g2 _ (bGu n (8*(ts.length+1)+4));have b:=iP ts prs (aB6 ts prs) _ (bGh n (8*(ts.length+1)+4));rw[a] at b;exact (Option.some.inj b).symm
 have ht:rA ts=.ok (reT t) (nL t).length cs:=by
  unfold rA;rw[hq];show (if (nL t).length<ts.length then _ else _)=_
  rw[if_neg Aa]
 have hk:=aZ7 (ts:=ts) (cs:=cs) (by rw[h2];exact aAq h.1 hp) g1;unfold iW;rw[if_neg Aa,h1];show (if (0:Int)<=-1 then _ else _)=_
 rw[if_neg Ad];show (match rA ts with|.bad j=>_|.ok tr _ cs=>_)=_
 rw[ht];show (if (oM ts cs).1≠0 then _ else _)=_
 rw[hk,if_neg Ao,qE,if_pos (aL7 h)]
theorem aS7{t:Tr}(h:dN t):key (iV (reT t))=key t:=by rw[wG (aL7 h).1,(aEp h.1).2]
/-! texts depend on gI alone -/
mutual
theorem sC:∀{t u:Tr},key t=key u->aK t=aK u
 | .mk op arg neg l m name ks,.mk op' arg' neg' l' m' name' ks',e=>by
  rw[key,key,Kt.mk.injEq] at e;obtain⟨rfl,rfl,e3,rfl,e5⟩:=e;rw[aK,aK,e3,aAs e5]
theorem aAs:∀{ts us:List Tr},gI ts=gI us->dC ts=dC us
 | [],us,e=>by rw[pA e]
 | t::ts,us,e=>by
  obtain⟨u,us',rfl,e1,e2⟩:=mG e;rw[dC,dC,sC e1,aAs e2];obtain⟨op,arg,neg,l,m,name,ks⟩:=t;obtain⟨op',arg',neg',l',m',name',ks'⟩:=u;rw[key,key,Kt.mk.injEq] at e1;show (_,dB op)::_=(_,dB op')::_;rw[e1.1]
end
end Go.Proofs.Y