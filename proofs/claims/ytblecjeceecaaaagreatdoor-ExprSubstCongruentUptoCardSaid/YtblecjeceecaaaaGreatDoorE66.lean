/- Subst: plain. -/
import Derived.Test.YtblecjeceecaaaaGreatDoorPF3
set_option linter.all false
set_option maxHeartbeats 2000000
set_option maxRecDepth 20000
namespace Go.Proofs.Y
open Go Go.Vc Go.Dig
def eS{α:Type}(bs:List (List Nat × α)):Prop:=(∀b∈bs,fD b.1)/\(bs.map (·.1)).Nodup
def nN(bs:List (List Nat × Tr)):Prop:=∀b∈bs,bB b.2
instance {α:Type} (bs:List (List Nat × α)):Decidable (eS bs):=by unfold eS;exact inferInstance
instance (bs:List (List Nat × Tr)):Decidable (nN bs):=by unfold nN;exact inferInstance
def iS(bs:List (List Nat × Tr))(t:Tr):Tr × Nat:=if ¬(bB t/\nN bs) then (bI,40) else if ¬eS bs then (bI,41) else mF (lK (byR bs) t)
def bHs(bs:List (List Nat × Tr))(t:Tr):Tr × Nat:=if ¬(bB t/\nN bs) then (bI,40) else if ¬eS bs then (bI,41) else if bB (lK (byR bs) t) then (lK (byR bs) t,0) else (bI,4)
end Go.Proofs.Y
/- Maps with names for iX; nodes replaced by a function value with one captured cell. -/
namespace Go.Vc
open Go Go.Dig
theorem bDi{v:Value}{z:List Value}(h:v.cells=z.toArray)(hz:z.length≠1):v=.agg z.toArray:=by
 have hs:=congrArg Array.size h;cases v
 case agg cs=>exact congrArg Value.agg h
 all_goals exact absurd (show 1=z.length by simpa[Value.cells] using hs).symm hz
theorem aVw{T:Tab}(ok:T.Ok){w:World}{t kt et:TypeId}{d:TypeDesc}{key v:Value}{b i:Nat}{es:Array MapEntry}{clock:Nat}(hg:w.heap[b]?=some (.map es clock))(hm:T.und t=some (.map kt et))(hd:T.und kt=some d)
  (hkey:MapKept.IsKey d key) (hf:Instr.findNow d key es.toList 0=some (some (i,v))):(Instr.lookup t (.map (some b)) key true).run T.prog w=.ok (.tuple #[v,.bool true]) w:=by
 have hck:=MapKept.run_checkKey (P:=T.prog) (w:=w) (ok.und _ _ hd) hkey es.isEmpty 9999;simp[Instr.lookup,run_underlying (ok.und _ _ hm),MapKept.run_getObj_map hg,hck,MapKept.run_findKey (ok.und _ _ hd) hf,Result.andThen]
theorem aRl{T:Tab}(ok:T.Ok){w:World}{t kt et:TypeId}{d:TypeDesc}{key:Value}{b n:Nat}{es:Array MapEntry}{clock:Nat}{z:List Value}(hg:w.heap[b]?=some (.map es clock))(hm:T.und t=some (.map kt et))(hd:T.und kt=some d)
  (hz:T.inf et=some (z,n)) (hz1:z.length≠1) (hkey:MapKept.IsKey d key) (hf:Instr.findNow d key es.toList 0=some none):(Instr.lookup t (.map (some b)) key true).run T.prog w=.ok (.tuple #[.agg z.toArray,.bool false]) w:=by
 have hck:=MapKept.run_checkKey (P:=T.prog) (w:=w) (ok.und _ _ hd) hkey es.isEmpty 9999;obtain⟨v,hzr,hc⟩:=nC (w:=w) ok hz;rw[bDi hc hz1] at hzr;simp[Instr.lookup,run_underlying (ok.und _ _ hm),MapKept.run_getObj_map hg,hck,MapKept.run_findKey (ok.und _ _ hd) hf,hzr,Result.andThen]
def bF6(h:aA)(L:Vc.Own)(b:Nat)(es:Array MapEntry)(clock:Nat):Prop:=(b,.map es clock)∈L\/h b=some (.map es clock)
theorem Ext.mapFind{T:Tab}{t kt et:TypeId}{d:TypeDesc}{m kO:Operand}{key:Value}{b n:Nat}{es:Array MapEntry}{clock:Nat}{z:List Value}{h:aA}{L:Vc.Own}{k:Value->aA->Vc.Own->Prop}
  (ha:bF6 h L b es clock) (hm:T.und t=some (.map kt et)) (hd:T.und kt=some d) (hz:T.inf et=some (z,n)) (hz1:z.length≠1) (hkey:MapKept.IsKey d key)
  (hk:(∃i v,Instr.findNow d key es.toList 0=some (some (i,v))/\k (.tuple #[v,.bool true]) h L)\/(Instr.findNow d key es.toList 0=some none/\k (.tuple #[.agg z.toArray,.bool false]) h L)):Ext T (.lookup t m kO true) [m,kO] [.map (some b),key] h L k:=by
 refine⟨fun ok o ρ K Q w h0' L0 w' hop' hargs inv hout hP hK=>.inl ?_⟩
 simp only[bJw,bK4,List.cons.injEq,and_true] at hargs;obtain⟨a1,a2⟩:=hargs;have hg:w'.heap[b]?=some (.map es clock):=by
  rcases ha with ha|ha
  .exact inv.own _ ha
  .exact inv.imm _ _ ha
 rcases hk with ⟨i,v,hf,hk⟩|⟨hf,hk⟩
 .have hr:=aVw ok hg hm hd hkey hf;refine bU (w':=w') (v:=.tuple #[v,.bool true]) ?_ (hK _ _ _ _ inv hk);simp only[execOp,hop',a1,a2,bJy,hr]
  rfl
 .have hr:=aRl ok hg hm hd hz hz1 hkey hf;refine bU (w':=w') (v:=.tuple #[.agg z.toArray,.bool false]) ?_ (hK _ _ _ _ inv hk);simp only[execOp,hop',a1,a2,bJy,hr]
  rfl
theorem aG5{A Fe G tl:Vc.Own}{x:Nat × Obj}:(A++(Fe++(G++x::tl)))[A.length+Fe.length+G.length]?=some x:=by
 rw[bJa Aa,bJa Aa,bJa Aa];simp[show A.length+Fe.length+G.length-A.length-Fe.length-G.length=0 by omega]
theorem aO6{A Fe G tl:Vc.Own}{x y:Nat × Obj}:(A++(Fe++(G++x::tl))).set (A.length+Fe.length+G.length) y=A++(Fe++(G++y::tl)):=by
 rw[bJ5 _ _ Aa,bJ5 _ _ Aa,bJ5 _ _ Aa];simp[show A.length+Fe.length+G.length-A.length-Fe.length-G.length=0 by omega]
theorem Ext.mapSet{T:Tab}{op:Op}{t kt et:TypeId}{d:TypeDesc}{m kO vO:Operand}{key v:Value}{b:Nat}{es:Array MapEntry}{clock:Nat}{h:aA}{A Fe G tl:Vc.Own}{k:Value->aA->Vc.Own->Prop}(hop:op=.insert t m kO vO\/op=.mapUpdate t m kO vO)
  (hm:T.und t=some (.map kt et)) (hd:T.und kt=some d) (hkey:MapKept.IsKey d key)
  (hk:(Instr.findNow d key es.toList 0=some none/\k undef h (A++(Fe++(G++(b,.map (es.push { key:=key,val:=v,born:=clock }) (clock+1))::tl))))\/
    (∃i e,Instr.findNow d key es.toList 0=some (some (i,e.val))/\es[i]?=some e/\e.key=key/\k undef h (A++(Fe++(G++(b,.map (es.modify i fun e=>{ e with key:=key,val:=v }) clock)::tl))))):
  Ext T op [m,kO,vO] [.map (some b),key,v] h (A++(Fe++(G++(b,.map es clock)::tl))) k:=by
 rcases hk with ⟨hf,hk⟩|⟨i,e,hf,he,hek,hk⟩
 .exact Ext.mapNew _ hop aG5 hm hd hkey hf (by rw[aO6];exact hk)
 .refine⟨fun ok o ρ K Q w h0' L0 w' hop' hargs inv hout hP hK=>.inl ?_⟩
  simp only[bJw,bK4,List.cons.injEq,and_true] at hargs;obtain⟨a1,a2,a3⟩:=hargs;have hg:w'.heap[b]?=some (.map es clock):=inv.own _ (bIu aG5);have hst:(Instr.keyThatStays ((Option.map (fun x=>x.key) es[i]?).getD key) key).run T.prog w'=.ok key w':=by
   rw[he];show (Instr.keyThatStays e.key key).run T.prog w'=.ok key w';rw[hek];exact MapKept.run_keyThatStays hkey
  have hr:(Instr.mapUpdate t (.map (some b)) key v).run T.prog w'=.ok () { w' with heap:=w'.heap.setIfInBounds b (.map (es.modify i fun e=>{ e with key:=key,val:=v }) clock) }:=by
   simp[Instr.mapUpdate,run_underlying (ok.und _ _ hm),MapKept.run_getObj_map hg,MapKept.run_checkKey (ok.und _ _ hd) hkey false 9999,MapKept.run_findKey (ok.und _ _ hd) hf,hst,MapKept.run_setObj_map _ hg,Result.andThen]
  refine sC (w':=_) ?_ (hK undef _ _ _ (inv.upd aG5 (aAj _ hg)) (by rw[aO6];exact hk));rcases hop with rfl|rfl <;>
  .simp only[execOp,hop',a1,a2,a3,bJy,hr]
   rfl
theorem CN.keepTl{T:Tab}{f:FuncId}{args:List Value}{h:aA}{k:Value->aA->Vc.Own->Prop}{Fe tl:Vc.Own}{b c:Nat}{p q:Obj}(hf:T.fn f=true)
  (hk:∀h',h.le h'->h' b=some p->h' c=some q->CN T f args h' (Fe++tl) k):CN T f args h (Fe++((b,p)::(c,q)::tl)) k:=by
 have e1:(Fe++(b,p)::(c,q)::tl).eraseIdx Fe.length=Fe++(c,q)::tl:=by rw[bLb (bJf _)];simp
 have e2:(Fe++(c,q)::tl).eraseIdx Fe.length=Fe++tl:=by rw[bLb (bJf _)];simp
 refine CN.keep (b:=b) (o:=p) Fe.length Aq hf fun h1=>?_
 rw[e1];refine CN.keep (b:=c) (o:=q) Fe.length Aq hf fun h2=>?_
 rw[e2];exact hk _ (aA.lt h1 h2) (h2 _ _ AE) AE
end Go.Vc
namespace Go.Proofs.Y
open Go Go.Vc Go.Dig
class UpV {α:Type} (P:aA->Value->α->Prop):Prop where
 up:∀{h h':aA} {v:Value} {a:α},h.le h'->P h v a->P h' v a
instance:UpV VE:=⟨fun hl ⟨op,arg,neg,n,d,name,s,e,w⟩=>⟨op,arg,neg,n,d,name,s,e,w.mono hl⟩⟩
def bDj{α:Type}(P:aA->Value->α->Prop)(h:aA)(x:MapEntry)(b:List Nat × α):Prop:=x.key=.string (txt b.1)/\(∀y∈b.1,y<256)/\P h x.val b.2
def gN{α:Type}(P:aA->Value->α->Prop)(h:aA):List MapEntry->List (List Nat × α)->Prop
 | [],[]=>True
 | x::xs,b::bs=>bDj P h x b/\gN P h xs bs
 | _,_=>False
theorem gN.mono{α:Type}{P:aA->Value->α->Prop}[UpV P]{h h':aA}(hl:h.le h'):∀{xs:List MapEntry} {bs:List (List Nat × α)},gN P h xs bs->gN P h' xs bs
 | [],[],_=>trivial
 | [],_::_,w=>w.elim
 | _::_,[],w=>w.elim
 | _::_,_::_,⟨⟨h1,h2,h3⟩,r⟩=>⟨⟨h1,h2,UpV.up hl h3⟩,gN.mono hl r⟩
theorem gN.push{α:Type}{P:aA->Value->α->Prop}{h:aA}{x:MapEntry}{b:List Nat × α}(hx:bDj P h x b):∀{xs:List MapEntry} {bs:List (List Nat × α)},gN P h xs bs->gN P h (xs++[x]) (bs++[b])
 | [],[],_=>⟨hx,trivial⟩
 | [],_::_,w=>w.elim
 | _::_,[],w=>w.elim
 | _::_,_::_,⟨h1,r⟩=>⟨h1,gN.push hx r⟩
theorem gN.set{α:Type}{P:aA->Value->α->Prop}{h:aA}{x:MapEntry}{b:List Nat × α}(hx:bDj P h x b):∀{j:Nat} {xs:List MapEntry} {bs:List (List Nat × α)},gN P h xs bs->gN P h (xs.set j x) (bs.set j b)
 | _,[],[],w=>w
 | _,[],_::_,w=>w.elim
 | _,_::_,[],w=>w.elim
 | 0,_::_,_::_,⟨_,r⟩=>⟨hx,r⟩
 | _+1,_::_,_::_,⟨h1,r⟩=>⟨h1,gN.set hx r⟩
def eN{α:Type}:List (List Nat × α)->List Nat->Option α
 | [],_=>none
 | (n,u)::bs,name=>if n=name then some u else eN bs name
theorem gN.find{α:Type}{P:aA->Value->α->Prop}{h:aA}{nm:List Nat}(hnm:∀y∈nm,y<256):∀{xs:List MapEntry} {bs:List (List Nat × α)} (i0:Nat),gN P h xs bs->
  (∃j x t,Instr.findNow .string (.string (txt nm)) xs i0=some (some (i0+j,x.val))/\xs[j]?=some x/\bs[j]?=some (nm,t)/\x.key=.string (txt nm)/\P h x.val t/\eN bs nm=some t)\/
  (Instr.findNow .string (.string (txt nm)) xs i0=some none/\nm∉bs.map (·.1)/\eN bs nm=none)
 | [],[],_,_=>.inr ⟨rfl,by simp,rfl⟩
 | [],_::_,_,w=>w.elim
 | _::_,[],_,w=>w.elim
 | x::xs,(n,t)::bs,i0,⟨⟨k1,k2,k3⟩,r⟩=>by
  by_cases e:n=nm
  .subst e;refine .inl ⟨0,x,t,?_,rfl,rfl,k1,k3,by rw[eN,if_pos rfl]⟩
   rw[Instr.findNow,k1,show Instr.sameNow .string (.string (txt n)) (.string (txt n))=some true from congrArg some ((MapKept.bytes_beq _ _).2 rfl)]
   rfl
  .have hs:Instr.sameNow .string (.string (txt nm)) x.key=some false:=by
    rw[k1];show some (txt nm == txt n)=some false
    congr 1
    cases hb:(txt nm == txt n) with
    | false=>rfl
    | true=>exact absurd (aAg hnm k2 ((MapKept.bytes_beq _ _).1 hb)).symm e
   rcases gN.find hnm (i0+1) r with ⟨j,x',t',h1,h2,h3,h4,h5,h6⟩|⟨h1,h2,h3⟩
   .exact .inl ⟨j+1,x',t',by rw[Instr.findNow,hs];simpa[bL5,Nat.add_left_comm] using h1,by simpa using h2,by simpa using h3,h4,h5,by rw[eN,if_neg e];exact h6⟩
   .refine .inr ⟨by rw[Instr.findNow,hs];exact h1,?_,by rw[eN,if_neg e];exact h3⟩
    simp only[bJw,bI7,not_or];exact⟨fun x=>e x.symm,h2⟩
theorem rU{α:Type}{f:α->α}:∀{l:List α} {i:Nat} {e:α},l[i]?=some e->l.modify i f=l.set i (f e)
 | [],_,_,h=>by simp at h
 | x::xs,0,e,h=>by
  simp at h;subst h;rfl
 | x::xs,i+1,e,h=>by
  rw[List.modify_succ_cons,bK9,rU (by simpa using h)]
theorem modify_set{es:Array MapEntry}{i:Nat}{e:MapEntry}(he:es[i]?=some e)(f:MapEntry->MapEntry):(es.modify i f).toList=es.toList.set i (f e):=by
 rw[Array.toList_modify,rU (by rw[Array.getElem?_toList];exact he)]
theorem aEl{name:List Nat}{D:Tr}:∀{bs:List (List Nat × Tr)},aVt bs name D=(eN bs name).getD D
 | []=>rfl
 | (n,u)::bs=>by
  rw[aVt,eN];by_cases e:n=name
  .rw[if_pos e,if_pos e];rfl
  .rw[if_neg e,if_neg e];exact aEl
def byM(bs:List (List Nat × Tr)):Tr->Option Tr
 | .mk op _ _ _ _ name _=>if op=2 then eN bs name else none
mutual
theorem aO7{bs:List (List Nat × Tr)}:∀{d:Nat} {t:Tr},okT d t->lK (byM bs) t=lK (byR bs) t
 | d,.mk op arg neg l m name ks,h=>by
  rw[okT] at h;by_cases e:op=2
  .have h0:ks=[]:=by
    have:=h.2.1.1;rw[e] at this;have h2:bM 2=0:=rfl;exact bJp.1 Aa
   have hr:byR bs (.mk op arg neg l m name ks)=some (aVt bs name (.mk op arg neg l m name ks)):=if_pos e;have hm:byM bs (.mk op arg neg l m name ks)=eN bs name:=if_pos e;rw[uB hr,aEl];cases hf:eN bs name with
   | some u=>rw[uB (hm.trans hf)];rfl
   | none=>rw[nA (hm.trans hf),h0,fZ];rfl
  .have hr:byR bs (.mk op arg neg l m name ks)=none:=if_neg e;have hm:byM bs (.mk op arg neg l m name ks)=none:=if_neg e;rw[nA hr,nA hm,aJp h.2.2]
theorem aJp{bs:List (List Nat × Tr)}:∀{d:Nat} {ts:List Tr},dB d ts->fZ (byM bs) ts=fZ (byR bs) ts
 | _,[],_=>by rw[fZ,fZ]
 | d,t::ts,h=>by
  rw[dB] at h;rw[fZ,fZ,aO7 h.1,aJp h.2]
end
theorem aG6{fb:FuncId}{x:Value}{g:Tr->Option Tr}(hf:T.fn fb=true)(h0:aA)(hby:ByC fb [x] g h0):∀t:Tr,∀(h:aA) (vs:List Value) (d:Nat),h0.le h->IsE h vs t->okT d t->Fn0 T F.q69 [.agg vs.toArray,.func (.func fb) #[] #[x]] h fun v h'=>VE h' v (lK g t):=by
 refine eE fun t ih=>?_
 intro h vs d h0l w hok;obtain⟨op,arg,neg,l,m,name,ks⟩:=t;have c1:=fun h h0l w=>hby _ d h vs hok h0l w
 obtain⟨a,b,s,rfl,ho,ha,hv,hb,hk⟩:=w.isK;rw[okT] at hok;obtain⟨hd,hnb,hoks⟩:=hok;have hks:ks.length<=3:=by
  have h1:=hnb.1;have h2:=fS op;omega
 have hkl:=hk.len;have r1:∀u,g (.mk op arg neg l m name ks)=some u->lK g (.mk op arg neg l m name ks)=u:=fun u e=>uB e
 have r2:g (.mk op arg neg l m name ks)=none->lK g (.mk op arg neg l m name ks)=.mk op arg neg l m name (fZ g ks):=nA;obtain⟨R,hR⟩:=AH (lK g (.mk op arg neg l m name ks));obtain⟨G,hG⟩:=AH (g (.mk op arg neg l m name ks));rw[<-hR] at r1 r2 ⊢;rw[<-hG] at c1 r1 r2;clear hR hG;refine f0C ok D.q69 rfl ?_;conv=>whnf
 repeat' first|((first|(show LdN _ _ _ _ _;first|(first|refine LdN.o 0 rfl rfl ?_|refine LdN.oA 0 rfl rfl ?_)|refine LdN.o 1 rfl rfl ?_)|(show CN _ _ _ _ _ _;(refine CN.f hf (c1 _ (by first|assumption|exact aA.lt h0l Ab) Ab) (fun v h' hl2 hr=>?_);obtain⟨_,bb,u,rfl,⟨op2,ar2,ng2,nn2,dd2,nm2,ss2,rfl,hE2⟩,g1,g2⟩:=hr))|((first|apply oI.z|apply cI.z))|intro (_:Nat)|refine Ld.o 2 rfl rfl ?_|(show Sto _ _ _ _;first|refine Sto.l 0 rfl rfl rfl ?_|refine Sto.l 1 rfl rfl rfl ?_))<;>conv=>whnf)|(refine bO (fun hb=>?_) (fun hb=>?_)<;>(first|cases hb|subst hb)<;>(conv=>whnf))
 .rw[r1 _ (g1 rfl)];exact RN.a ⟨op2,ar2,ng2,nn2,dd2,nm2,ss2,rfl,hE2⟩
 .rw[r2 (g2 rfl)];clear r1 r2 g1 g2;rename_i be bz bn;have h0l':=aA.lt h0l hl2;refine LpN.of (fun r ρ hx L=>∃(j:Nat) (V:Value) (F1:Vc.Own) (xs:List Value),r=ks.length-j/\h'.le hx/\j<=ks.length/\rd ρ 21=.int .i64 j/\rd ρ 7=V/\
    L=F1++((bn,.cells [.int .i64 op2,.int .i64 ar2,.bool ng2,nn2.val,dd2.val,.string (txt nm2),ss2.val].toArray Ty.api_Expr (0,0))::(bz,.cells [.int .i64 0,.int .i64 0,.bool false,.slice none 0 0,.slice none 0 0,.string (txt []),.slice none 0 0].toArray Ty.api_Expr (0,0))::(be,.cells [.int .i64 op,.int .i64 arg,.bool neg,a.val,b.val,.string (txt name),s.val].toArray Ty.api_Expr (0,0))::[])/\
    aF Ty.api_Expr 7 V j xs F1/\KC hx xs (fZ g (ks.take j))) ks.length
   ⟨0,_,[],[],rfl,aA.lr _,bJe _,rfl,rfl,rfl,aF.nil _ _ _,by rw[bKq,fZ];rfl⟩ ?_
  conv=>whnf
  repeat intro _
  rename_i r hx L2 hI;obtain⟨j,V,F1,xs,rfl,hle,hj,e21,e7,rfl,gF,hK⟩:=hI;conv at e21=>lhs;whnf
  subst e21;conv at e7=>lhs;whnf
  subst e7;by_cases hjl:j=ks.length
  .subst hjl;rw[bI4] at hK;obtain⟨sv,rfl⟩:=gF.sl;conv=>whnf
   repeat' ((first|(show Sto _ _ _ _;first|refine Sto.tl (A:=F1) (X:=[_,_]) rfl rfl ?_|refine Sto.tl (A:=F1) (X:=[_]) rfl rfl ?_)|(show LdN _ _ _ _ _;first|refine LdN.tl (A:=F1) (F:=[_,_]) rfl ?_|refine LdN.tl (A:=F1) (F:=[_]) rfl ?_)|((first|apply oI.z|apply cI.z))|(apply aB<;>intro _<;>try (exfalso;omega)))<;>conv=>whnf)
   refine RN.rowA (X:=F1) gF hK (aEk g ks).symm fun h'' s' hl hs hk'=>?_
   rw[hs];exact⟨op,arg,neg,a,b,name,s',rfl,IsE.mkK ho ha (((hv.mono hl2).mono hle).mono hl) hb hk'⟩
  .obtain⟨t,ht⟩:∃t,ks[j]?=some t:=⟨_,bIq Aa⟩
   have c2:=fun h vs h0l w=>ih t (bD ht) h vs (d+1) h0l w (eF hoks (bIu ht))
   have hkx:=hk.mono (aA.lt hl2 hle);have h0x:=aA.lt h0l' hle;conv=>whnf
   repeat' ((first|(show Idx _ _ _ _ _;refine Idx.kid hkx j t Aa ht (fun ad op3 arg3 neg3 a3 b3 name3 s3 hE hld=>?_))|refine hld _ _ _ (aA.lr _) ?_|((first|apply oI.z|apply cI.z))|intro (_:Nat)|(show CN _ _ _ _ _ _;(refine CN.f rfl (c2 _ _ h0x Ab) (fun v h' hl2 hr=>?_);obtain⟨op4,ar4,ng4,nn4,dd4,nm4,ss4,rfl,hE2⟩:=hr;have hK2:=hK.mono hl2))|(show App _ _ _ _ _ _ _ _ _;refine App.growK (A:=[_,_]) (F:=F1) (size:=7) (bytes:=112) (z:=[.int .i64 0,.int .i64 0,.bool false,.slice none 0 0,.slice none 0 0,.string (txt []),.slice none 0 0]) rfl rfl gF ⟨_,0,none⟩ 1 1 [_,_,_,_,_,_,_] rfl (Has.front _) rfl Ae Aa Aa Ae (fun v' F' g'=>?_))|refine WN.i64 Aa Aa ?_|refine LdN.o 0 rfl rfl ?_|refine Sto.l 0 rfl rfl rfl ?_|(apply aB<;>intro _<;>try (exfalso;omega)))<;>conv=>whnf)
   exact⟨rfl,ks.length-(j+1),Aa,j+1,_,_::_::F',_,rfl,Ac,Aa,vi Aa,rfl,rfl,(g'.cons _).cons _,by rw[aY ht,xE,fZ,fZ];exact KC.snoc rfl hE2 hK2⟩
theorem aMv(h0:aA)(bc bm:Nat)(Tc:TypeId)(fc:Nat × Nat)(es:Array MapEntry)(clock:Nat)(bs:List (List Nat × Tr))(mc:h0 bc=some (.cells #[.map (some bm)] Tc fc))(mm:h0 bm=some (.map es clock))(me:gN VE h0 es.toList bs):
  ByC 70 [.pointer (some ⟨bc,0,none⟩)] (byM bs) h0:=by
 intro u d h vs hok hle w;obtain⟨op,arg,neg,l,m,name,ks⟩:=u;obtain⟨a,b,s,rfl,ho,ha,hv,hb,hk⟩:=w.isK;have mc':=hle _ _ mc;have mm':=hle _ _ mm;have f1:¬op=2->byM bs (.mk op arg neg l m name ks)=none:=fun x=>if_neg x
 have f2:op=2->byM bs (.mk op arg neg l m name ks)=eN bs name:=fun x=>if_pos x
 have fe:=gN.find hb 0 (me.mono hle);rcases fe with ⟨j,x,t,e1,e2,e3,e4,⟨op2,ar2,ng2,nn2,dd2,nm2,ss2,e5,hE⟩,e6⟩|⟨e1,e2,e3⟩
 .rw[e5] at e1;refine f0C ok D.q70 rfl ?_;conv=>whnf
  repeat' ((first|(show Ld _ _ _ _;first|refine Ld.of (Has.imm mc' rfl) ?_|refine Ld.o 1 rfl rfl ?_)|(show Ext _ _ _ _ _ _ _;refine Ext.mapFind (.inr mm') rfl rfl rfl Ae trivial (.inl ⟨_,_,e1,?_⟩))|(show DrN _ _ _ _ _ _;refine DrN.own [_,_] (by exact List.Sublist.cons_cons _ (List.Sublist.cons _ (List.Sublist.cons_cons _ (bJ9 _)))) Ak ?_)|(refine⟨fun _=>⟨aJ.o As,by repeat first|exact bJ9 _|apply List.Sublist.cons_cons|refine List.Sublist.trans ?_ (bK6 _ _)|apply List.Sublist.cons⟩,?_⟩)|((first|apply oI.z|apply cI.z))|intro (_:Nat)|(show LdN _ _ _ _ _;first|refine LdN.o 0 rfl rfl ?_|refine LdN.o 1 rfl rfl ?_)|(show Sto _ _ _ _;first|refine Sto.l 0 rfl rfl rfl ?_|refine Sto.l 1 rfl rfl rfl ?_))<;>conv=>whnf)
  all_goals
   by_cases o2:op=2
   .exact RN.a ⟨_,eq op 2,_,rfl,⟨op2,ar2,ng2,nn2,dd2,nm2,ss2,rfl,hE⟩,(fun _=>by rw[f2 o2,e6]),fun x=>absurd x (by rw[lF,aX o2];decide)⟩
   .exact RN.a ⟨_,eq op 2,_,rfl,⟨op2,ar2,ng2,nn2,dd2,nm2,ss2,rfl,hE⟩,(fun x=>absurd x (by rw[lF,aH o2];decide)),fun _=>f1 o2⟩
 .refine f0C ok D.q70 rfl ?_;conv=>whnf
  repeat' ((first|(show Ld _ _ _ _;first|refine Ld.of (Has.imm mc' rfl) ?_|refine Ld.o 1 rfl rfl ?_)|(show Ext _ _ _ _ _ _ _;refine Ext.mapFind (.inr mm') rfl rfl rfl Ae trivial (.inr ⟨e1,?_⟩))|(show DrN _ _ _ _ _ _;refine DrN.own [_,_] (by exact List.Sublist.cons_cons _ (List.Sublist.cons _ (List.Sublist.cons_cons _ (bJ9 _)))) Ak ?_)|(refine⟨fun _=>⟨aJ.o As,by repeat first|exact bJ9 _|apply List.Sublist.cons_cons|refine List.Sublist.trans ?_ (bK6 _ _)|apply List.Sublist.cons⟩,?_⟩)|((first|apply oI.z|apply cI.z))|intro (_:Nat)|(show LdN _ _ _ _ _;first|refine LdN.o 0 rfl rfl ?_|refine LdN.o 1 rfl rfl ?_)|(show Sto _ _ _ _;first|refine Sto.l 0 rfl rfl rfl ?_|refine Sto.l 1 rfl rfl rfl ?_))<;>conv=>whnf)
  all_goals
   exact RN.a ⟨_,false,bI,rfl,VE.zero _,(fun x=>by cases x),fun _=>by
     by_cases o2:op=2
     .rw[f2 o2,e3]
     .exact f1 o2⟩
end Go.Proofs.Y
/- Contracts of the roots of natural numbers: package word's and the reference's. -/
namespace Go.Proofs.Y
open Go Go.Vc Go.Dig

theorem eV.i64v{a b:Int}{k:Int->Prop}(c:Int)(ha:0<=a)(hb:0<b)(hm:a<=9223372036854775807)(hc:a / b=c)(hk:k c):eV .i64 a b k:=eV.i64 ha hb hm (by rw[hc];exact hk)
theorem bF7(h:aA)(a:Sl)(m:Nat)(n:Int)(P:Nat)(hn:n=P)(ha:aM h a m)(la:ln 4294967296 m<=17179869184)(hp:P<=549755813888):
  Fn0 T F.q278 [a.val,.int .i64 n] h fun v h'=>∃s:Sl,v=s.val/\aM h' s (m*2^P):=by
 subst hn;exact aLi h a m P ha la hp
theorem bCh(h:aA)(a:Sl)(A:Nat)(n:Int)(P:Nat)(hn:n=P)(ha:aM h a A)(hb:P*ln 4294967296 A<=8589934590)(la:ln 4294967296 A<=8589934592)(hp:P<=65536):
  Fn0 T F.q241 [a.val,.int .i64 n] h fun v h'=>∃s:Sl,v=s.val/\aM h' s (A^P):=by
 subst hn;exact aF8 h a A P ha hb la hp
theorem bA0(h:aA)(n:Int)(P:Nat)(hn:n=P)(hp:P<18446744073709551616):Fn0 T F.q131 [.int .u64 n] h fun v h'=>∃s':Sl,v=s'.val/\aM h' s' P:=by
 subst hn;exact gH h P hp
theorem aJq{m n:Nat}:gU m n=0↔m=n:=by unfold gU;split<;>(try split)<;>omega
theorem aJr{m n:Nat}(h:gU m n<0):m<n:=by unfold gU at h;split at h<;>(try split at h)<;>omega

theorem bA1(h:aA)(a:Sl)(A n:Nat)(ha:aM h a A)(la:ln 4294967296 A<=4096)(hn1:2<=n)(hn2:n<=8):
  Fn0 T F.q243 [a.val,.int .i64 n] h fun v h'=>∃s:Sl,v=.tuple #[s.val,.bool (dec (rt A n^n=A))]/\aM h' s (rt A n):=by
 have hal:=ha.len;have hz:=bA tlB (n:=A);by_cases h00:A=0
 .have hz0:=hz.2 h00;clear hz;refine f0C ok D.q243 rfl ?_;conv=>whnf
  repeat' ((first|((first|apply oI.z|apply cI.z))|(apply aD<;>intro _<;>try (exfalso;omega)))<;>conv=>whnf)
  subst h00;exact RN.a ⟨⟨none,0,0⟩,by rw[aX (by rw[aF2,Nat.zero_pow Aa])]<;>rfl,by rw[aF2];exact aM.nil rfl⟩
 have hz0:ln 4294967296 A≠0:=fun e=>h00 (hz.1 e)
 clear hz;have hbl:bl A<=131072:=bJd (wJ A) Aa;have hbA:=fN.1 (bJf (bl A));obtain⟨B0,hB0⟩:=AH (bl A);rw[<-hB0] at hbl hbA;obtain⟨C,hC⟩:=AH ((B0+n-1) / n);have hCi:((B0:Int)+(n:Int)-1) / (n:Int)=(C:Int):=by
  rw[hC,show (B0:Int)+(n:Int)-1=((B0+n-1:Nat):Int) by omega];rfl
 have hCn:B0<=n*C:=by
  have h1:=bK3 (B0+n-1) n;have h2:=bKl (B0+n-1) (show n>0 by omega)
  rw[<-hC] at h1;omega
 have hCb:C<=131080:=by rw[hC];exact bJd (bLe _ _) Aa
 have hst:rt A n<=2^(C+1):=bJd (aIi Aa hbA hCn) (bJq Ae Aa);have hl0:=aLp (C+1);obtain⟨X0,hX0⟩:=AH (2^(C+1));have hX0p:0<X0:=by rw[hX0];exact bJ6 _
 rw[<-hX0] at hst hl0;clear hC hCn hbA;refine f0C ok D.q243 rfl ?_;conv=>whnf
 repeat' ((first|(show CN _ _ _ _ _ _;first|(refine CN.f rfl (gH _ 1 Aa) (fun v h' hl hr=>?_);obtain⟨s',rfl,hs'⟩:=hr)|(refine CN.quiet rfl (aNw _ _ A Ah Aa) ?_;rw[<-hB0])|(refine CN.f rfl (bF7 _ _ 1 _ (C+1) Aa Ab (by rw[jA _ tlB];decide) Aa) (fun v h' hl hr=>?_);rw[bLi,<-hX0] at hr;obtain⟨s',rfl,hs'⟩:=hr))|(show eV _ _ _ _;refine eV.i64v (C:Int) Aa Aa Aa hCi ?_)|((first|apply oI.z|apply cI.z))|refine WN.i64 Aa Aa ?_|(apply aD<;>intro _<;>try (exfalso;omega)))<;>conv=>whnf)
 rename_i hx0;refine LpN.of (fun r ρ h' L=>∃xs:Sl,h.le h'/\rd ρ 6=xs.val/\aM h' xs r/\Hq (rt A n<=r)/\0<r/\ln 4294967296 r<=131082) X0
  ⟨_,Ac,rfl,Ab,⟨hst⟩,hX0p,Aa⟩ ?_
 clear hz0 hal hx0;conv=>whnf
 repeat intro _
 rename_i X h1 L1 hI;obtain⟨xs,hle,e6,hxs,hrX,hXp,hXl⟩:=hI;conv at e6=>lhs;whnf
 subst e6;have ha1:=ha.mono hle;have q1:=oY tlB X (n-1);have q2:=oY tlB X n;have r1:(n-1)*ln 4294967296 X<=7*131082:=bJ8 Aa hXl;have r2:n*ln 4294967296 X<=8*131082:=bJ8 hn2 hXl;obtain⟨P1,hP1⟩:=AH (X^(n-1));obtain⟨P2,hP2⟩:=AH (X^n);have hP1p:P1≠0:=by rw[hP1];exact bNn (bKv hXp)
 rw[<-hP1] at q1;rw[<-hP2] at q2;have q3:=aBi A P1;have q4:=cX tlB X (n-1);have q5:ln 4294967296 (n-1)<=1:=(aR tlB).2 Aa;obtain⟨Q1,hQ1⟩:=AH (A / P1);rw[<-hQ1] at q3;obtain⟨M1,hM1⟩:=AH (X*(n-1));rw[<-hM1] at q4;have q6:=uZ tlB M1 Q1;obtain⟨Y,hY⟩:=AH ((M1+Q1) / n);have hYn:Y=aQb A n X:=by rw[hY,hM1,hQ1,hP1];rfl
 have hYl:Y<X->ln 4294967296 Y<=131082:=fun hh=>bJd (cK (bLw hh)) hXl
 have hYr:rt A n<=Y:=by rw[hYn];exact aN5 Aa hXp
 have hstop:X<=Y->X=rt A n:=fun hh=>aD0 Aa hXp (by rw[<-hYn];exact hh) hrX.out
 have hYp:0<Y:=bJr (aF3 Aa h00) hYr;have hYb:ln 4294967296 Y<=1048576:=by rw[hY];exact bJd (aBi _ _) Aa
 replace hYr:=Hq.mk hYr;replace hstop:=Hq.mk hstop;clear hYn hrX ha;conv=>whnf
 repeat' ((first|(show CN _ _ _ _ _ _;first|(refine CN.f rfl (bCh _ _ X _ (n-1) Aa Ab Aa Aa Aa) (fun v h' hl hr=>?_);rw[<-hP1] at hr;obtain⟨s',rfl,hs'⟩:=hr)|(refine CN.f rfl (bCh _ _ X _ n rfl Ah Aa Aa Aa) (fun v h' hl hr=>?_);rw[<-hP2] at hr;obtain⟨s',rfl,hs'⟩:=hr)|(refine CN.f rfl (aLl _ _ _ A P1 Ah Ab Aa Aa hP1p) (fun v h' hl hr=>?_);rw[<-hQ1] at hr;obtain⟨q',r',rfl,hq',hr'⟩:=hr)|(refine CN.f rfl (bA0 _ _ (n-1) Aa Aa) (fun v h' hl hr=>?_);obtain⟨s',rfl,hs'⟩:=hr)|(refine CN.f rfl (sF _ _ _ X (n-1) Ah Ab Aa Aa) (fun v h' hl hr=>?_);rw[<-hM1] at hr;obtain⟨s',rfl,hs'⟩:=hr)|(refine CN.f rfl (aLh _ _ _ M1 Q1 Ab Ah Aa Aa) (fun v h' hl hr=>?_);obtain⟨s',rfl,hs'⟩:=hr)|(refine CN.f rfl (sH _ _ (M1+Q1) n Ab Aa Aa Aa) (fun v h' hl hr=>?_);rw[<-hY] at hr;obtain⟨s',rfl,hs'⟩:=hr)|(refine CN.quiet rfl (yG _ _ _ Y X Ah Ah Aa Aa) ?_)|(refine CN.quiet rfl (yG _ _ _ P2 A Ab Ah Aa Aa) ?_))|((first|apply oI.z|apply cI.z))|(show WN _ _ _;first|refine WN.i64 Aa Aa ?_|refine WN.u64 Aa Aa ?_|refine WN.u32 Aa Aa ?_)|(apply bX<;>intro _<;>try (exfalso;omega)))<;>conv=>whnf)
 .have hc:X<=Y:=aF6 Ab;have hXr:=hstop.out hc;refine RN.a ⟨xs,?_,by rw[<-hXr];exact Ah⟩
  by_cases hp:rt A n^n=A
  .rw[aX hp,Vc.eq_true' (aJq.2 (by rw[hP2,hXr];exact hp))]
  .rw[aH hp,Vc.eq_false' (fun e=>hp (by rw[<-hXr,<-hP2];exact aJq.1 e))]
 .have hc:Y<X:=aJr Ab;exact⟨rfl,Y,hc,_,Ac,rfl,Ab,hYr,hYp,hYl hc⟩

end Go.Proofs.Y
/- Rational roots: number.Root, the reference's Exact and Root; what the statement on roots computes: true. -/
namespace Go.Dig
theorem aAq(a:Nat){n:Nat}(hn:1<=n):rt a n<=a:=bJd (zK hn) (aN4 hn)
def cJ(q:Rat)(n:Nat):Rat × Bool:=
 if sg q=true/\n%2=0 then (0,false) else if rt (nu q) n^n=nu q/\rt q.den n^n=q.den then (mkQ (sg q) (rt (nu q) n) (rt q.den n),true) else (0,false)
theorem aVx{q:Rat}{n:Nat}(hn:1<=n):rt q.den n≠0:=bNn (aF3 hn q.den_nz)
theorem vP{q:Rat}{n:Nat}(hn:1<=n)(h1:rt (nu q) n^n=nu q)(h2:rt q.den n^n=q.den):
  sg (mkQ (sg q) (rt (nu q) n) (rt q.den n))=sg q/\nu (mkQ (sg q) (rt (nu q) n) (rt q.den n))=rt (nu q) n/\(mkQ (sg q) (rt (nu q) n) (rt q.den n)).den=rt q.den n:=by
 have hd:=aVx (q:=q) hn;have hc:Nat.gcd (rt (nu q) n) (rt q.den n)=1:=by
  have hq:=cop q;have d1:=Nat.gcd_dvd_left (rt (nu q) n) (rt q.den n);have d2:=Nat.gcd_dvd_right (rt (nu q) n) (rt q.den n);have k1:rt (nu q) n^1 ∣ rt (nu q) n^n:=Nat.pow_dvd_pow _ hn;have k2:rt q.den n^1 ∣ rt q.den n^n:=Nat.pow_dvd_pow _ hn;rw[h1,Nat.pow_one] at k1;rw[h2,Nat.pow_one] at k2;have e1:=Nat.dvd_trans d1 k1;have e2:=Nat.dvd_trans d2 k2;have:=Nat.dvd_gcd e1 e2;rw[hq] at this;exact Nat.dvd_one.1 this
 refine⟨?_,by rw[aBe _ hd,hc,bMx],by rw[wH _ hd,hc,bMx]⟩
 rw[aFx _ hd];cases hs:sg q with
 | false=>rfl
 | true=>
  have:nu q≠0:=fun e=>by rw[cE.1 e,qS] at hs;cases hs
  have h3:rt (nu q) n≠0:=bNn (aF3 hn this);simp[h3]
end Go.Dig
namespace Go.Proofs.Y
open Go Go.Vc Go.Dig
def nO(n1:Bool)(l1 m1:List Nat)(n:Int):Rat × Bool × Int:=
 if okR n1 l1 m1 then (if n<2\/8<n then (0,false,2) else ((cJ (aK n1 l1 m1) n.toNat).1,(cJ (aK n1 l1 m1) n.toNat).2,0)) else (0,false,1)
def uO(h:aA)(v:Value)(x:Rat × Bool × Int):Prop:=∃a b:Sl,v=.tuple #[.agg #[.bool (sg x.1),a.val,b.val],.bool x.2.1,.int .i64 x.2.2]/\eA h a b x.1
theorem uO.err(h:aA)(e:Int):uO h (.tuple #[.agg #[.bool false,.slice none 0 0,.slice none 0 0],.bool false,.int .i64 e]) (0,false,e):=
 ⟨⟨none,0,0⟩,⟨none,0,0⟩,by rw[show sg (0,false,e).1=false from qS]<;>rfl,eA.zero _⟩
theorem aVy(h:aA)(a:Sl)(A:Nat)(n:Int)(N:Nat)(hn:n=N)(ha:aM h a A)(la:ln 4294967296 A<=4096)(hn1:2<=N)(hn2:N<=8):
  Fn0 T F.q243 [a.val,.int .i64 n] h fun v h'=>∃s:Sl,v=.tuple #[s.val,.bool (dec (rt A N^N=A))]/\aM h' s (rt A N):=by
 subst hn;exact bA1 h a A N ha la hn1 hn2
theorem bDk(h:aA)(s:Bool)(a b:Sl)(q:Rat)(hs:sg q=s)(hq:eJ h a b q)(hz:Sz 1073741824 q):
  Fn0 T F.q49 [.agg #[.bool s,a.val,b.val]] h fun v h'=>Res h' v (eO q):=by
 subst hs;exact jZ h a b q hq hz
theorem aVz(h:aA)(tb:Tb h)(n1:Bool)(a1 b1:Sl)(l1 m1:List Nat)(hv1:bV h a1 b1 l1 m1)(n:Int)(lo:-9223372036854775808<=n)(hi:n<=9223372036854775807):
  Fn0 T F.q166 [.agg #[.bool n1,a1.val,b1.val],.int .i64 n] h fun v h'=>uO h' v (nO n1 l1 m1 n):=by
 have f2:¬okR n1 l1 m1->nO n1 l1 m1 n=(0,false,1):=fun x=>if_neg x
 have f3:okR n1 l1 m1->(n<2\/8<n)->nO n1 l1 m1 n=(0,false,2):=fun x y=>by unfold nO;rw[if_pos x,if_pos y]
 have f4:okR n1 l1 m1->¬(n<2\/8<n)->nO n1 l1 m1 n=((cJ (aK n1 l1 m1) n.toNat).1,(cJ (aK n1 l1 m1) n.toNat).2,0):=fun x y=>by unfold nO;rw[if_pos x,if_neg y]
 refine f0C ok D.q166 rfl ?_;conv=>whnf
 repeat' first|((first|(show CN _ _ _ _ _ _;(refine CN.f rfl (iU _ Ab _ _ _ l1 m1 Ab) (fun v h' hle1 hr=>?_);obtain⟨s1,c1,d1,rfl,hok1⟩:=hr))|((first|apply oI.z|apply cI.z))|intro (_:Nat)|refine LdN.o 1 rfl rfl ?_|refine Ld.o 0 rfl rfl ?_|(show Sto _ _ _ _;first|refine Sto.l 0 rfl rfl rfl ?_|refine Sto.l 1 rfl rfl rfl ?_))<;>conv=>whnf)|(show cnd _ _ _;first|(apply aB<;>intro _<;>first|(exfalso;omega)|conv=>whnf)|(refine aI ?_)|(apply aU<;>intro _<;>first|(exfalso;omega)|conv=>whnf)|(refine bO (fun hb=>?_) (fun hb=>?_)<;>(first|cases hb|subst hb)<;>(conv=>whnf)))
 all_goals first
  | (rw[f2 Ab];exact RN.a (uO.err _ _))
  | (rw[f3 Ab Aa];exact RN.a (uO.err _ _))
  | skip
 all_goals
  obtain⟨hs,g1⟩:=hok1 Ab;have k1:okR n1 l1 m1:=Ab;have z1:=okR.sz k1;have hfq:=k1.2.2;obtain⟨N,hN⟩:∃N:Nat,n=N:=⟨n.toNat,Aa⟩
  rw[f4 k1 Aa,show n.toNat=N by omega]
  clear f2 f3 f4 hok1;obtain⟨q,hq⟩:=AH (aK n1 l1 m1);rw[<-hq] at hs g1 z1 hfq;rw[<-hq];have hn2:2<=N:=Aa;have hn8:N<=8:=Aa;have i1:=g1.num;have i2:=g1.den;have t1:=z1.num;have t2:=z1.den;have w1:=cK (aAq (nu q) (n:=N) Aa);have w2:=cK (aAq q.den (n:=N) Aa);have E1:sg q=true->N%2=0->cJ q N=(0,false):=fun a b=>if_pos ⟨a,b⟩
  have E2:¬(sg q=true/\N%2=0)->rt (nu q) N^N=nu q->rt q.den N^N=q.den->cJ q N=(mkQ (sg q) (rt (nu q) N) (rt q.den N),true):=fun a b c=>by unfold cJ;rw[if_neg a,if_pos ⟨b,c⟩]
  have E3:¬(sg q=true/\N%2=0)->¬(rt (nu q) N^N=nu q/\rt q.den N^N=q.den)->cJ q N=(0,false):=fun a b=>by unfold cJ;rw[if_neg a,if_neg b]
  have R:=vP (q:=q) (n:=N) Aa;obtain⟨r,hr0⟩:=AH (mkQ (sg q) (rt (nu q) N) (rt q.den N));rw[<-hr0] at E2 R;rw[<-hs] at E1 E2 E3 R;obtain⟨X1,hX1⟩:=AH (rt (nu q) N);obtain⟨X2,hX2⟩:=AH (rt q.den N);rw[<-hX1,<-hX2] at E2 E3 R;rw[<-hX1] at w1;rw[<-hX2] at w2;have hfr:X1^N=nu q->X2^N=q.den->fits r:=fun a b=>⟨by rw[(R a b).2.1];omega,by rw[(R a b).2.2];omega⟩
  have hzr:X1^N=nu q->X2^N=q.den->Sz 1073741824 r:=fun a b=>⟨bJd (hfr a b).1 Ae,bJd (hfr a b).2 Ae⟩
  have hout:X1^N=nu q->X2^N=q.den->eO r=(r,0):=fun a b=>if_pos (hfr a b)
  clear hr0 hq hs
 all_goals (repeat' first|((first|(show gZ _ _ _;refine gZ.nn Aa Aa ?_)|(show CN _ _ _ _ _ _;first|(refine CN.f rfl (aVy _ _ (nu q) n N hN Ah Aa hn2 hn8) (fun v h' hl hr=>?_);rw[<-hX1] at hr;obtain⟨s',rfl,hs'⟩:=hr)|(refine CN.f rfl (aVy _ _ q.den n N hN Ah Aa hn2 hn8) (fun v h' hl hr=>?_);rw[<-hX2] at hr;obtain⟨s',rfl,hs'⟩:=hr)|(refine CN.f rfl (bDk _ _ _ _ r (R Ab Ab).1 ⟨by rw[(R Ab Ab).2.1];exact Ah,by rw[(R Ab Ab).2.2];exact Ab⟩ (hzr Ab Ab)) (fun v h' hl hr=>?_);rw[hout Ab Ab] at hr;obtain⟨e1,e2,rfl,hq'⟩:=Res.two hr))|((first|apply oI.z|apply cI.z))|intro (_:Nat)|(show LdN _ _ _ _ _;first|refine LdN.o 0 rfl rfl ?_|refine LdN.o 1 rfl rfl ?_|refine LdN.o 2 rfl rfl ?_)|refine Ld.o 0 rfl rfl ?_|(show Sto _ _ _ _;first|refine Sto.l 0 rfl rfl rfl ?_|refine Sto.l 1 rfl rfl rfl ?_|refine Sto.l 2 rfl rfl rfl ?_))<;>conv=>whnf)|(show cnd _ _ _;first|(apply aD<;>intro _<;>first|(exfalso;omega)|conv=>whnf)|(refine aI ?_)|(apply aU<;>intro _<;>first|(exfalso;omega)|conv=>whnf)))
 all_goals first
  | (rw[E1 rfl Aa];exact RN.a (uO.err _ _))
  | (rw[E2 (fun hh=>by first|(have:=hh.2;omega)|(have:=hh.1;contradiction)) Ab Ab];exact RN.a ⟨_,_,by rw[Vc.eq_true' rfl]<;>rfl,Ab⟩)
  | (rw[E3 (fun hh=>by first|(have:=hh.2;omega)|(have:=hh.1;contradiction)) (fun hh=>by first|exact absurd hh.1 Ab|exact absurd hh.2 Ab)];exact RN.a (uO.err _ _))
end Go.Proofs.Y
/- The values of trees at values of the variables: plain. -/
namespace Go.Proofs.Y
open Go Go.Vc Go.Dig
def dZ(q:Rat):Option Rat:=if fits q then some q else none
def iL(fn:Int)(q:Rat):Option Rat:=
 if fn=1\/fn=4 then (if q=0 then some 1 else none) else if fn=2\/fn=7 then (if q=1 then some 0 else none) else if q=0 then some 0 else none
def unQ(op arg:Int)(q:Rat):Option Rat:=
 if op=4 then dZ (-q) else if op=9 then (if arg<0/\q=0 then none else dZ (oX q arg)) else if op=12 then dZ (gP q)
 else if op=10 then (if (cJ q arg.toNat).2 then dZ (cJ q arg.toNat).1 else none) else iL arg q
def biQ(op:Int)(q r:Rat):Option Rat:=
 if op=5 then dZ (q+r) else if op=6 then dZ (q-r) else if op=7 then dZ (q*r) else if op=8 then (if r=0 then none else dZ (q / r))
 else if op=13 then some (if r<q then r else q) else some (if q<r then r else q)
def aEn(op arg:Int):List (Option Rat)->Option Rat
 | [a]=>a.bind (unQ op arg)
 | [a,b]=>a.bind fun x=>b.bind fun y=>biQ op x y
 | [a,y,z]=>a.bind fun c=>if 0<=c then y else z
 | _=>none
mutual
def bL(vals:List (List Nat × Rat)):Tr->Option Rat
 | .mk op arg neg l m name ks=>if op=1 then some (aK neg l m) else if op=2 then eN vals name else if op=3 then none else aEn op arg (bY vals ks)
def bY(vals:List (List Nat × Rat)):List Tr->List (Option Rat)
 | []=>[]
 | t::ts=>bL vals t::bY vals ts
end
theorem uC{q r:Rat}(h:q<r)(h':r<q):False:=absurd (Rat.le_of_lt h') (Rat.not_le.2 h)
theorem fU:fits 1:=by
 have:=wN 1 Ae Ae;exact this
end Go.Proofs.Y
/- The polynomial form of a tree: plain words. -/
namespace Go.Proofs.Y
open Go Go.Vc Go.Dig
abbrev Pol:Type:=List (Mon × Rat)
def tmL(a b:Pol):Pol:=a.flatMap fun x=>b.map fun y=>(jn x.1 y.1,x.2*y.2)
def plL(a b:Pol)(k:Rat):Pol:=a++b.map fun t=>(t.1,t.2*k)
theorem aV3(f:Mon->Rat)(m:Mon)(c:Rat):∀b:Pol,sm f (b.map fun y=>(jn m y.1,c*y.2))=c*sm (fun y=>f (jn m y)) b
 | []=>(bNd _).symm
 | t::b=>by rw[bJw,dQ,dQ,aV3 f m c b,Rat.mul_add,bLc]
theorem nP(f:Mon->Rat)(b:Pol):∀a:Pol,sm f (tmL a b)=sm (fun x=>sm (fun y=>f (jn x y)) b) a
 | []=>rfl
 | t::a=>by
  have e:tmL (t::a) b=(b.map fun y=>(jn t.1 y.1,t.2*y.2))++tmL a b:=rfl
  rw[e,aMq,aV3,nP f b a,dQ]
theorem aJt(f:Mon->Rat)(k:Rat):∀b:Pol,sm f (b.map fun t=>(t.1,t.2*k))=k*sm f b
 | []=>(bNd _).symm
 | t::b=>by rw[bJw,dQ,dQ,aJt f k b,Rat.mul_add,<-bLc,bMz t.2 k]
theorem mH(f:Mon->Rat)(a b:Pol)(k:Rat):sm f (plL a b k)=sm f a+k*sm f b:=by unfold plL;rw[aMq,aJt]
def aG7(p:Pol):Prop:=200<p.length\/∃t∈p,∃f∈t.1,64<f.2
def aG8(p:Pol):Prop:=∃t∈p,¬fits t.2
instance (p:Pol):Decidable (aG7 p):=by unfold aG7;exact inferInstance
instance (p:Pol):Decidable (aG8 p):=by unfold aG8;exact inferInstance
def bS(l:Pol):Except Nat Pol:=if aG7 (bZ l) then .error 4 else if aG8 (bZ l) then .error 1 else .ok (bZ l)
def jU(q:Rat):Pol:=if q=0 then [] else [([],q)]
def cH(s:List UInt8):Except Nat Pol:=if 4000<s.length then .error 4 else .ok [([(s,1)],1)]
def cA(b:Tr)(a:Pol):Except Nat Pol:=match a with
 | [([],c)]=>.ok [([],1 / c)]
 | _=>if 4000<(aE b).length then .error 4 else cH (eR++b8 (aN (aE b,aT b.op) 3))
def gQ(a:Pol):Nat->Except Nat Pol
 | 0=>.ok [([],1)]
 | n+1=>match gQ a n with
  | .error e=>.error e
  | .ok o=>bS (tmL o a)
def gO(e:Tr)(op arg:Int)(q:Rat)(rs:List (Tr × Except Nat Pol)):Except Nat Pol:=
 if op=1 then .ok (jU q)
 else if 4<=op/\op<=9 then
  match rs with
  | []=>.error 0
  | (_,.error n)::_=>.error n
  | (k,.ok a)::r=>
   if op=4 then bS (plL [] a (-1))
   else if op=9 then
    if arg<0 then match cA k a with
     | .error n=>.error n
     | .ok c=>gQ c arg.natAbs
    else gQ a arg.natAbs
   else match r with
    | []=>.error 0
    | (_,.error n)::_=>.error n
    | (k',.ok b)::_=>
     if op=5 then bS (plL a b 1)
     else if op=6 then bS (plL a b (-1))
     else if op=7 then bS (tmL a b)
     else match cA k' b with
      | .error n=>.error n
      | .ok c=>bS (tmL a c)
 else cH (b8 (aE e))
mutual
def aO:Tr->Except Nat Pol
 | .mk op arg neg l m name ks=>gO (.mk op arg neg l m name ks) op arg (aK neg l m) (dC ks)
def dC:List Tr->List (Tr × Except Nat Pol)
 | []=>[]
 | t::ts=>(t,aO t)::dC ts
end
structure lG (p:Pol):Prop where
 can:sX p
 red:∀t∈p,aB4 t.1
 deg:∀t∈p,∀f∈t.1,f.2<=64
 fit:∀t∈p,fits t.2
 len:p.length<=200
theorem tB{K V:Type}[eI K][DecidableEq K][Add V][OfNat V 0][gY V][DecidableEq V]{P:K->Prop}{l:List (K × V)}(h:∀t∈l,P t.1):∀t∈bZ l,P t.1:=fun t ht=>by
 have h1:∀(k:K) (v:V) (q:List (K × V)),P k->(∀t∈q,P t.1)->∀t∈iR k v q,P t.1:=by
  intro k v q hk
  induction q with
  | nil=>intro _ t ht;unfold iR at ht;rw[bI2] at ht;subst ht;exact hk
  | cons n q ih=>
   intro hq t ht;obtain⟨n,d⟩:=n;unfold iR at ht
   split at ht
   .rcases bI7.1 ht with rfl|ht
    .exact hk
    .exact hq t ht
   .split at ht
    .rcases bI7.1 ht with rfl|ht
     .exact hq (n,d) (bIw ..)
     .exact hq t (bIz _ ht)
    .rcases bI7.1 ht with rfl|ht
     .exact hq (n,d) (bIw ..)
     .exact ih (fun t ht=>hq t (bIz _ ht)) t ht
 have h2:∀t∈kP l,P t.1:=by
  clear ht
  induction l with
  | nil=>intro t ht;exact absurd ht (by simp[kP])
  | cons u l ih=>exact h1 _ _ _ (h u (bIw ..)) (ih fun t ht=>h t (bIz _ ht))
 exact h2 t (List.mem_filter.1 ht).1
theorem aEp{l p:Pol}(h:∀t∈l,aB4 t.1)(e:bS l=.ok p):lG p:=by
 unfold bS at e
 split at e
 .cases e
 .rename_i h1
  split at e
  .cases e
  .rename_i h2;cases e;refine⟨eH l,tB h,fun t ht f hf=>?_,fun t ht=>?_,?_⟩
   .exact Nat.le_of_not_lt fun x=>h1 (.inr ⟨t,ht,f,hf,x⟩)
   .exact Decidable.byContradiction fun x=>h2 ⟨t,ht,x⟩
   .exact Nat.le_of_not_lt fun x=>h1 (.inl x)
theorem bDl(a b:Pol):∀t∈tmL a b,aB4 t.1:=fun t ht=>by
 unfold tmL at ht;obtain⟨x,hx,ht⟩:=List.mem_flatMap.1 ht;obtain⟨y,hy,rfl⟩:=List.mem_map.1 ht;exact bDc _ _
theorem bDm{a b:Pol}(k:Rat)(ha:∀t∈a,aB4 t.1)(hb:∀t∈b,aB4 t.1):∀t∈plL a b k,aB4 t.1:=fun t ht=>by
 unfold plL at ht;rcases bIx.1 ht with ht|ht
 .exact ha t ht
 .obtain⟨y,hy,rfl⟩:=List.mem_map.1 ht;exact hb y hy
/-! the ring -/
end Go.Proofs.Y
/- The value of a monomial at values of its atoms: plain mathematics. -/
namespace Go.Dig
def pr{K:Type}(f:K->Rat)(l:List K):Rat:=l.foldr (fun t s=>f t*s) 1
section
variable {K L:Type}
theorem oU(f:K->Rat)(t:K)(l:List K):pr f (t::l)=f t*pr f l:=rfl
theorem tC{f g:K->Rat}{l:List K}(h:∀t∈l,f t=g t):pr f l=pr g l:=by
 induction l with
 | nil=>rfl
 | cons t l ih=>rw[oU,oU,h t (bIw ..),ih fun u hu=>h u (bIz _ hu)]
theorem aPa(a b c d:Rat):a*b*(c*d)=a*c*(b*d):=by
 rw[bLc,<-bLc b,bMz b c,bLc c,<-bLc]
theorem yT(f g:K->Rat)(l:List K):pr (fun k=>f k*g k) l=pr f l*pr g l:=by
 induction l with
 | nil=>exact (bK5 1).symm
 | cons t l ih=>rw[oU,oU,oU,ih,aPa]
theorem aCc{f:K->Rat}{l:List K}(h:∀t∈l,f t=1):pr f l=1:=by
 induction l with
 | nil=>rfl
 | cons t l ih=>rw[oU,h t (bIw ..),ih fun u hu=>h u (bIz _ hu),bK5]
theorem aPb(f:K->L->Rat)(b:List L):∀a:List K,pr (fun x=>pr (f x) b) a=pr (fun y=>pr (fun x=>f x y) a) b
 | []=>(aCc fun _ _=>rfl).symm
 | t::a=>by
  rw[oU,aPb f b a];have e:(fun y=>pr (fun x=>f x y) (t::a))=fun y=>f t y*pr (fun x=>f x y) a:=rfl
  rw[e,yT]
end
section
variable (al:List UInt8->Rat)
def ph(m:Mon):Rat:=pr (fun t=>al t.1^t.2) m
theorem lH(t:Fac)(m:Mon):ph al (t::m)=al t.1^t.2*ph al m:=rfl
theorem aV5:∀a b:Mon,ph al (a++b)=ph al a*ph al b
 | [],b=>(bKb _).symm
 | t::a,b=>by rw[bJ7,lH,lH,aV5 a b,bLc]
theorem aCd(x:Rat)(i:Nat):∀j:Nat,x^(i+j)=x^i*x^j
 | 0=>by rw[bJz,bLx,bK5]
 | j+1=>by rw[<-bKd,bL7,bL7,aCd x i j,bLc]
theorem aJv(x y:Rat):∀n:Nat,(x*y)^n=x^n*y^n
 | 0=>by rw[bLx,bLx,bLx,bK5]
 | n+1=>by rw[bL7,bL7,bL7,aJv x y n,aPa]
theorem aJw:∀n:Nat,(1:Rat)^n=1
 | 0=>bLx ..
 | n+1=>by rw[bL7,aJw n,bK5]
theorem aV6(k:List UInt8)(v:Nat):∀l:Mon,ph al (iR k v l)=al k^v*ph al l
 | []=>rfl
 | (n,d)::q=>by
  unfold iR
  split
  .rfl
  .split
   .rename_i h;subst h;rw[lH,lH,aCd,bLc]
   .rw[lH,lH,aV6 k v q,<-bLc,<-bLc,bMz (al n^d)]
theorem aMx:∀l:Mon,ph al (kP l)=ph al l
 | []=>rfl
 | t::l=>by
  show ph al (iR t.1 t.2 (kP l))=_
  rw[aV6,aMx l];rfl
theorem yU:∀l:Mon,ph al (l.filter fun t=>!decide (t.2=0))=ph al l
 | []=>rfl
 | t::l=>by
  by_cases h:t.2=0
  .rw[bL3 (by simp[h]),yU l,lH,h,bLx,bKb]
  .rw[bLv (by simp[h]),lH,lH,yU l]
theorem bA2(l:Mon):ph al (bZ l)=ph al l:=by unfold bZ;rw[yU,aMx]
def Aok(s:List UInt8):Prop:=nmA s\/∀u,inv s=some u->al s*al u=1
theorem bA3{s u:List UInt8}(h:inv s=some u)(hn:nmA s):¬nmA u:=fun hu=>by
 unfold inv at h;rw[if_pos hn] at h;cases h;exact aGu s hu
theorem bDn{s u:List UInt8}(h:inv s=some u)(hn:¬nmA s):nmA u:=by
 unfold inv at h;rw[if_neg hn] at h
 split at h
 .rename_i x;cases h;exact x.2.2
 .cases h
def pg(t u:Fac):Rat:=if inv t.1=some u.1 then al t.1^min t.2 u.2 else 1
theorem bF9{q:Mon}(h:kN q)(t:Fac):pr (pg al t) q=al t.1^min t.2 (rv q t.1):=by
 unfold rv;cases hi:inv t.1 with
 | none=>
  show _=al t.1^min t.2 0
  rw[Nat.min_zero,bLx];exact aCc fun u _=>by unfold pg;rw[hi,if_neg Aq]
 | some z=>
  show _=al t.1^min t.2 (cf q z)
  have hp:∀u:Fac,pg al t u=if u.1=z then al t.1^min t.2 u.2 else 1:=fun u=>by
   unfold pg;rw[hi];by_cases e:u.1=z
   .rw[if_pos e,if_pos (by rw[e])]
   .rw[if_neg e,if_neg fun x=>e (Option.some.inj x).symm]
  induction q with
  | nil=>rw[pF,Nat.min_zero,bLx];rfl
  | cons u q ih=>
   have h':=List.pairwise_cons.1 h;rw[oU,hp,aV];by_cases e:u.1=z
   .rw[if_pos e,if_pos e,aCc fun v hv=>?_,bK5,nL (by rw[<-e];exact h'.1),bJz]
    rw[hp,if_neg fun x=>?_]
    have:=h'.1 v hv;rw[x,e] at this;exact eI.irr _ this
   .rw[if_neg e,if_neg e,bKb,ih h'.2]
theorem aV7{q:Mon}(h:kN q)(ho:∀t∈q,Aok al t.1):pr (fun t=>al t.1^min t.2 (rv q t.1)) q=1:=by
 have e1:pr (fun t=>al t.1^min t.2 (rv q t.1)) q=pr (fun t=>pr (pg al t) q) q:=tC fun t _=>(bF9 al h t).symm
 have e2:pr (fun t=>pr (pg al t) q) q=pr (fun t=>pr (fun u=>(if nmA t.1 then pg al t u else 1)*if nmA t.1 then 1 else pg al t u) q) q:=
  tC fun t _=>tC fun u _=>by split<;>simp[bK5,bKb]
 have e3:pr (fun t=>pr (fun u=>(if nmA t.1 then pg al t u else 1)*if nmA t.1 then 1 else pg al t u) q) q =
   pr (fun t=>pr (fun u=>if nmA t.1 then pg al t u else 1) q) q*pr (fun t=>pr (fun u=>if nmA t.1 then 1 else pg al t u) q) q:=by
  rw[<-yT];exact tC fun t _=>yT ..
 rw[e1,e2,e3,aPb (fun t u=>if nmA t.1 then 1 else pg al t u),<-yT]
 refine aCc fun t ht=>?_
 rw[<-yT];refine aCc fun u hu=>?_
 show (if nmA t.1 then pg al t u else 1)*(if nmA u.1 then 1 else pg al u t)=1
 by_cases hi:inv t.1=some u.1
 .have hi':=aAl hi;by_cases hn:nmA t.1
  .have hnu:=bA3 hi hn;rw[if_pos hn,if_neg hnu];unfold pg;rw[if_pos hi,if_pos hi',Nat.min_comm u.2 t.2,<-aJv,bMz,((ho u hu).resolve_left hnu) _ hi',aJw]
  .have hnu:=bDn hi hn;rw[if_neg hn,if_pos hnu,bK5]
 .have hi':inv u.1≠some t.1:=fun x=>hi (aAl x)
  unfold pg;rw[if_neg hi,if_neg hi']
  split<;>split<;>exact bK5 1
theorem bCi{a b:Mon}(ha:∀t∈a,Aok al t.1)(hb:∀t∈b,Aok al t.1):ph al (jn a b)=ph al a*ph al b:=by
 have hq:∀t∈kP (a++b),Aok al t.1:=by
  have h1:∀(k:List UInt8) (v:Nat) (q:Mon),Aok al k->(∀t∈q,Aok al t.1)->∀t∈iR k v q,Aok al t.1:=by
   intro k v q hk
   induction q with
   | nil=>intro _ t ht;unfold iR at ht;rw[bI2] at ht;subst ht;exact hk
   | cons n q ih=>
    intro hq t ht;obtain⟨n,d⟩:=n;unfold iR at ht
    split at ht
    .rcases bI7.1 ht with rfl|ht
     .exact hk
     .exact hq t ht
    .split at ht
     .rcases bI7.1 ht with rfl|ht
      .exact hq (n,d) (bIw ..)
      .exact hq t (bIz _ ht)
     .rcases bI7.1 ht with rfl|ht
      .exact hq (n,d) (bIw ..)
      .exact ih (fun t ht=>hq t (bIz _ ht)) t ht
  have h2:∀t∈a++b,Aok al t.1:=fun t ht=>(bIx.1 ht).elim (ha t) (hb t)
  generalize a++b=l at h2
  induction l with
  | nil=>intro t ht;exact absurd ht (by simp[kP])
  | cons u l ih=>exact h1 _ _ _ (h2 u (bIw ..)) (ih fun t ht=>h2 t (bIz _ ht))
 have hs:=aAk (a++b);have hr:∀s,rv (kP (a++b)) s=rv (a++b) s:=fun s=>by
  unfold rv;cases inv s with
  | none=>rfl
  | some u=>exact aGs u _
 have hp:=aV7 al hs hq;unfold jn;rw[bA2,<-aV5,<-aMx al (a++b)];have e:ph al (kP (a++b))=ph al ((kP (a++b)).map fun t=>(t.1,t.2-min t.2 (rv (a++b) t.1)))*pr (fun t=>al t.1^min t.2 (rv (kP (a++b)) t.1)) (kP (a++b)):=by
  have e1:∀q:Mon,ph al (q.map fun t=>(t.1,t.2-min t.2 (rv (a++b) t.1)))=pr (fun t=>al t.1^(t.2-min t.2 (rv (a++b) t.1))) q:=fun q=>by
   induction q with
   | nil=>rfl
   | cons t q ih=>rw[bJw,lH,ih];rfl
  rw[e1,<-yT];unfold ph;refine tC fun t _=>?_
  rw[hr,<-aCd,Nat.sub_add_cancel (Nat.min_le_left ..)]
 rw[e,hp,bK5]
end
end Go.Dig
/- Literals of a tree, on both sides; Has. -/
namespace Go.Proofs.Y
open Go Go.Vc Go.Dig
def bIi(h:aA)(v:Value)(o:Option Rat):Prop:=∃(b:Bool) (c e:Sl) (i:Bool),v=.tuple #[.agg #[.bool b,c.val,e.val],.bool i]/\(i=true->∃q,o=some q/\Sz 64 q/\b=sg q/\eJ h c e q)/\(i=false->o=none)
def bIj(h:aA)(v:Value)(o:Option Rat):Prop:=∃(b:Bool) (c e:Sl) (i:Bool),v=.tuple #[.agg #[.bool b,c.val,e.val],.bool i]/\(i=true->∃q,o=some q/\Sz 64 q/\b=sg q/\IsQ h c e q)/\(i=false->o=none)
end Go.Proofs.Y
/- Simplify: plain. -/
namespace Go.Proofs.Y
open Go Go.Vc Go.Dig
def numQ(q:Rat):Tr:=.mk 1 0 (sg q) (dg 4294967296 (nu q)) (dg 4294967296 (dn q)) [] []
def mkL(q:Rat):Tr:=if q<0 then aG 4 0 [numQ (-q)] else numQ q
def aJx:Tr->Prop
 | .mk op _ _ _ _ _ _=>op=4
instance (t:Tr):Decidable (aJx t):=by cases t;unfold aJx;exact inferInstance
def bDo:Tr->Tr
 | .mk _ _ _ _ _ _ (k::_)=>k
 | t=>t
def bDp(e a:Tr):Tr:=match uN a with
 | some v=>mkL (-v)
 | none=>if aJx a then bDo a else e
def bGa(op:Int)(x y:Rat):Option Rat:=if op=5 then dZ (x+y) else if op=6 then dZ (x-y) else if op=7 then dZ (x*y) else if y=0 then none else dZ (x / y)
def bGb(op:Int)(a b:Tr):Option Rat:=(uN a).bind fun x=>(uN b).bind fun y=>bGa op x y
def addS(e a b:Tr):Tr:=if uN a=some 0 then b else if uN b=some 0 then a else if aJx b then aG 6 0 [a,bDo b] else e
def bHt(e a b:Tr):Tr:=if uN b=some 0 then a else if uN a=some 0 then bDp (aG 4 0 [b]) b else if aJx b then aG 5 0 [a,bDo b] else e
def mulS(e a b:Tr):Tr:=if uN a=some 0\/uN b=some 0 then mkL 0 else if uN a=some 1 then b else if uN b=some 1 then a else if uN a=some (-1) then bDp (aG 4 0 [b]) b else e
def bHu(e a b:Tr):Tr:=if uN a=some 0 then mkL 0 else if uN b=some 1 then a else e
def bHv(e:Tr)(op:Int)(a b:Tr):Tr:=match bGb op a b with
 | some q=>mkL q
 | none=>if op=5 then addS e a b else if op=6 then bHt e a b else if op=7 then mulS e a b else bHu e a b
def bHw(arg:Int)(a:Tr):Option Rat:=(uN a).bind fun x=>if arg<0/\x=0 then none else dZ (oX x arg)
def bHx(e:Tr)(arg:Int)(a:Tr):Tr:=match bHw arg a with
 | some q=>mkL q
 | none=>if arg=0 then mkL 1 else if arg=1 then a else e
def bGc(op arg:Int)(e:Tr):List Tr->Tr
 | [a]=>if op=4 then bDp e a else if op=9 then bHx e arg a else e
 | [a,b]=>if op=5\/op=6\/op=7\/op=8 then bHv e op a b else e
 | _=>e
mutual
def bDq:Tr->Tr
 | .mk op arg neg l m name ks=>bGc op arg (.mk op arg neg l m name (aV8 ks)) (aV8 ks)
def aV8:List Tr->List Tr
 | []=>[]
 | t::ts=>bDq t::aV8 ts
end
/-! nodes that are right, and their sizes -/
theorem aHa{d:Nat}{q:Rat}(hd:d<=30)(h0:0<=q)(hf:fits q):okT d (numQ q):=by
 unfold numQ;rw[okT,dB];refine⟨hd,⟨rfl,Ae,Ae,rfl,?_⟩,trivial⟩;rw[if_pos rfl];exact⟨aTc hf,by rw[jO];exact h0⟩
theorem aJy{q:Rat}(h:fits q):fits (-q):=⟨by rw[yH];exact h.1,by rw[bNs];exact h.2⟩
mutual
theorem aCe{d d':Nat}(hd:d<=d'):∀{t:Tr},okT d' t->okT d t
 | .mk op arg neg l m name ks,h=>by
  rw[okT] at h ⊢;exact⟨bJd hd h.1,h.2.1,aPc (Nat.add_le_add_right hd 1) h.2.2⟩
theorem aPc{d d':Nat}(hd:d<=d'):∀{ts:List Tr},dB d' ts->dB d ts
 | [],_=>by rw[dB];trivial
 | t::ts,h=>by
  rw[dB] at h ⊢;exact⟨aCe hd h.1,aPc hd h.2⟩
end
theorem bGd{d:Nat}:∀{t:Tr},okT d t->d<=30
 | .mk op arg neg l m name ks,h=>by rw[okT] at h;exact h.1
theorem aV9{d:Nat}{op arg:Int}{a:Tr}(hk:bM op=1)(h1:jC op<=arg)(h2:arg<=eZ op)(h:okT (d+1) a):okT d (aG op arg [a]):=by
 have hd:=bGd h;have hop:op≠2/\op≠1:=⟨fun e=>by rw[e] at hk;exact absurd hk Ae,fun e=>by rw[e] at hk;exact absurd hk Ae⟩
 unfold aG;rw[okT,dB,dB];refine⟨Aa,⟨hk.symm,h1,h2,?_,?_⟩,h,trivial⟩
 .rw[if_neg hop.1]
 .rw[if_neg hop.2];simp[bH]
theorem bDr{d:Nat}{q:Rat}(hd:d+1<=30)(hf:fits q):okT d (mkL q):=by
 unfold mkL
 split
 .rename_i h;refine aV9 Ae Ae Ae (aHa hd ?_ (aJy hf));have:=Rat.neg_lt_neg h;rw[Rat.neg_zero] at this;exact Rat.le_of_lt this
 .rename_i h;exact aHa Aa (Rat.not_lt.1 h) hf
theorem bDs(q:Rat):szT (mkL q)<=2:=by
 unfold mkL
 split
 .unfold aG numQ;simp[szT,fO]
 .unfold numQ;simp[szT,fO]
def Fit(d n:Nat)(t:Tr):Prop:=okT d t/\szT t<=n
theorem aJz{q:Rat}(h:0<=q):gP q=q:=by
 unfold gP;have e:sg q=false:=by
  unfold sg;exact decide_eq_false (by have:=Rat.num_nonneg.2 h;omega)
 rw[<-e];exact nF q
theorem aWa{q:Rat}(h:¬0<=q):gP q=-q:=by
 have h1:0<=-q:=by
  have:=Rat.neg_lt_neg (Rat.not_le.1 h);rw[Rat.neg_zero] at this;exact Rat.le_of_lt this
 rw[<-aJz h1];unfold gP;rw[yH,bNs]
end Go.Proofs.Y
/- A tree keeps its value when it is simplified: plain. -/
namespace Go.Proofs.Y
open Go Go.Vc Go.Dig
section
variable {vals:List (List Nat × Rat)} (hv:∀b∈vals,fits b.2)
include hv
end
end Go.Proofs.Y
/- A form has the value of its tree: plain mathematics. -/
namespace Go.Proofs.Y
open Go Go.Vc Go.Dig
def Mok(al:List UInt8->Rat)(p:Pol):Prop:=∀t∈p,∀f∈t.1,Aok al f.1
structure aWd (vals:List (List Nat × Rat)) (al:List UInt8->Rat):Prop where
 atom:∀(u:Tr) (w:Rat),okT 1 u->szT u<=300->(aE u).length<=4000->u.op≠1->¬(4<=u.op/\u.op<=9)->bL vals u=some w->al (b8 (aE u))=w
 atomI:∀(u:Tr),okT 1 u->u.op≠1->¬(4<=u.op/\u.op<=9)->nmA (b8 (aE u))\/inv (b8 (aE u))=none
 recip:∀(b:Tr) (w:Rat),okT 2 b->szT b<=299->(aN (aE b,aT b.op) 3).length<=3996->bL vals b=some w->w≠0->al (eR++b8 (aN (aE b,aT b.op) 3))=1 / w/\Aok al (eR++b8 (aN (aE b,aT b.op) 3))
theorem aM1{ks:List Tr}{n:Int}(h:(ks.length:Int)=n)(hn:n=1):∃k,ks=[k]:=by
 match ks,h with
 | [k],_=>exact⟨k,rfl⟩
 | [],h=>simp at h;omega
 | _::_::r,h=>simp at h;omega
theorem aWe{ks:List Tr}{n:Int}(h:(ks.length:Int)=n)(hn:n=2):∃a b,ks=[a,b]:=by
 match ks,h with
 | [a,b],_=>exact⟨a,b,rfl⟩
 | [_],h=>simp at h;omega
 | [],h=>simp at h;omega
 | _::_::_::r,h=>simp at h;omega
end Go.Proofs.Y
/- The tokens of the text of a tree: plain. -/
namespace Go.Proofs.Y
open Go Go.Vc Go.Dig
def aCi(c:Nat):Prop:=aln c=false/\c≠46/\c≠47
def xH(rest:List Nat):Prop:=∀c,rest.head?=some c->aCi c
def kt(t:Tk):Nat × List Nat:=(t.kind,t.text)
def Sc(b:Bool)(a:List Nat)(ks:List (Nat × List Nat)):Prop:=
 ∀(rest:List Nat) (n i:Nat) (acc:List Tk),(b=true->xH rest)->(a++rest).length<=n->∃n' ts,rest.length<=n'/\ts.map kt=ks/\dD n (a++rest) i acc=dD n' rest (i+a.length) (acc++ts)
/-! numbers -/
/-! the tokens of a tree -/
def sgT(c:Nat):Nat × List Nat:=(0,[c])
def itK(n:Int):List (Nat × List Nat):=if n<0 then [sgT 45,(1,bN n.natAbs)] else [(1,bN n.natAbs)]
def mL(x:List (Nat × List Nat) × Int)(low:Int):List (Nat × List Nat):=if low<=x.2 then x.1 else [sgT 40]++x.1++[sgT 41]
def dG:Bool->List (List (Nat × List Nat) × Int)->List (Nat × List Nat)
 | _,[]=>[]
 | true,x::r=>x.1++dG false r
 | false,x::r=>[sgT 44]++x.1++dG false r
def opC(op:Int):Nat:=if op=5 then 43 else if op=6 then 45 else if op=7 then 42 else 47
def aJ3(op arg:Int):List (Nat × List Nat):=
 if op=10 then (if arg=2 then [(0,[115,113,114,116]),sgT 40] else [(0,[114,111,111,116]),sgT 40]++itK arg++[sgT 44])
 else if op=11 then [(3,aW.getD (arg.toNat-1) []),sgT 40]
 else if op=12 then [(0,[97,98,115]),sgT 40] else if op=13 then [(0,[109,105,110]),sgT 40] else if op=14 then [(0,[109,97,120]),sgT 40] else if op=15 then [(0,[105,102]),sgT 40] else []
def zO(op arg:Int)(q:Rat)(name:List Nat)(xs:List (List (Nat × List Nat) × Int)):List (Nat × List Nat):=
 if op=1 then [(1,jB q)] else if op=2 then [(2,name)] else if op=3 then [(0,[112,105])]
 else if op=4 then [sgT 45]++mL (xs.getD 0 ([],0)) 3
 else if op=5\/op=6 then mL (xs.getD 0 ([],0)) 1++[sgT (opC op)]++mL (xs.getD 1 ([],0)) 2
 else if op=7\/op=8 then mL (xs.getD 0 ([],0)) 2++[sgT (opC op)]++mL (xs.getD 1 ([],0)) 3
 else if op=9 then mL (xs.getD 0 ([],0)) 5++([sgT 94]++itK arg)
 else aJ3 op arg++dG true xs++[sgT 41]
mutual
def nQ:Tr->List (Nat × List Nat)
 | .mk op arg neg l m name ks=>zO op arg (aK neg l m) name (fV ks)
def fV:List Tr->List (List (Nat × List Nat) × Int)
 | []=>[]
 | t::ts=>(nQ t,aT t.op)::fV ts
end
def bDu(x:List Nat × Int)(y:List (Nat × List Nat) × Int):Prop:=x.2=y.2/\Sc true x.1 y.1
def aCk:List (List Nat × Int)->List (List (Nat × List Nat) × Int)->Prop
 | [],[]=>True
 | x::xs,y::ys=>bDu x y/\aCk xs ys
 | _,_=>False
end Go.Proofs.Y
/- The text of a tree, parsed: plain. -/
namespace Go.Dig
end Go.Dig
namespace Go.Proofs.Y
open Go Go.Vc Go.Dig
section
variable (ts:List Tk)
def Ps(md:Md)(i:Nat)(cs:List Cn)(r:Pr Tr):Prop:=∃n,pp ts prs n md i cs=some r
end
section
variable {ts:List Tk}
/-! tokens from a place on -/
def At(ts:List Tk)(i:Nat)(l:List (Nat × List Nat)):Prop:=(ts.map kt).drop i=l
def lL(l:List (Nat × List Nat))(s:List Nat):Prop:=l.head?≠some (0,s)
/-! counts that are in range -/
def okC(cs:List Cn):Prop:=∀c∈cs,¬vK c
/-! the tree that is read back -/
end
mutual
def reT:Tr->Tr
 | .mk op arg neg l m name ks=>if op=1 then aI3 (jB (aK neg l m)) prs else if op=2 then gA name else aG op arg (mI ks)
def mI:List Tr->List Tr
 | []=>[]
 | t::ts=>reT t::mI ts
end
section
variable (ts:List Tk)
structure Rd (lev:Int) (K:List (Nat × List Nat)) (t:Tr):Prop where
 head:5<=lev->∀l,lL (K++l) [45]
 atom:5<=lev->∀i l cs,At ts i (K++l)->okC cs->∃cs',okC cs'/\Ps ts .atom i cs (.ok t (i+K.length) cs')
 fac:3<=lev->∀i l cs,At ts i (K++l)->lL l [94]->okC cs->∃cs',okC cs'/\Ps ts .fac i cs (.ok t (i+K.length) cs')
 term:2<=lev->∀i l cs,At ts i (K++l)->lL l [94]->okC cs->∃cs',okC cs'/\∀r,Ps ts (.termL t) (i+K.length) cs' r->Ps ts .term i cs r
 sum:∀i l cs,At ts i (K++l)->lL l [94]->lL l [42]->lL l [47]->okC cs->∃cs',okC cs'/\∀r,Ps ts (.sumL t) (i+K.length) cs' r->Ps ts .sum i cs r
end
section
variable {ts:List Tk}
end
end Go.Proofs.Y
/- Simplify, plain, of trees of any depth. -/
namespace Go.Proofs.Y
open Go Go.Vc Go.Dig
end Go.Proofs.Y
/- Derivatives: plain. -/
namespace Go.Proofs.Y
open Go Go.Vc Go.Dig
/-! trees with equal iX -/
theorem tD{us:List Tr}(h:iX []=iX us):us=[]:=by
 match us,h with
 | [],_=>rfl
 | _::_,h=>rw[iX,iX] at h;cases h
theorem qD{t:Tr}{ts us:List Tr}(h:iX (t::ts)=iX us):∃u us',us=u::us'/\key t=key u/\iX ts=iX us':=by
 match us,h with
 | [],h=>rw[iX,iX] at h;cases h
 | u::us,h=>
  rw[iX,iX,List.cons.injEq] at h;exact⟨u,us,rfl,h.1,h.2⟩
/-! the derivative: `g` tells how a node stands for itself -/
def bHy(e:Tr)(arg:Int)(a da:Tr):Tr:=if arg=0 then mkL 0 else aG 7 0 [aG 7 0 [mkL (arg:Rat),if -32<arg then aG 9 (arg-1) [a] else aG 8 0 [e,a]],da]
def bGf(e:Tr)(arg:Int)(da:Tr):Tr:=aG 8 0 [da,aG 7 0 [mkL (arg:Rat),aG 9 (arg-1) [e]]]
def bGg(a:Tr):Tr:=aG 10 2 [aG 6 0 [mkL 1,aG 9 2 [a]]]
def bGh(e:Tr)(arg:Int)(a da:Tr):Tr:=
 if arg=1 then aG 7 0 [e,da] else if arg=2 then aG 8 0 [da,a] else if arg=3 then aG 7 0 [aG 11 4 [a],da]
 else if arg=4 then aG 4 0 [aG 7 0 [aG 11 3 [a],da]] else if arg=5 then aG 7 0 [aG 5 0 [mkL 1,aG 9 2 [e]],da]
 else if arg=6 then aG 8 0 [da,bGg a] else if arg=7 then aG 4 0 [aG 8 0 [da,bGg a]] else aG 8 0 [da,aG 5 0 [mkL 1,aG 9 2 [a]]]
def bHz(op:Int)(a b da db:Tr):Tr:=
 if op=5\/op=6 then aG op 0 [da,db] else if op=7 then aG 5 0 [aG 7 0 [da,b],aG 7 0 [a,db]]
 else aG 8 0 [aG 6 0 [aG 7 0 [da,b],aG 7 0 [a,db]],aG 9 2 [b]]
def bGi(e:Tr)(op arg:Int):List Tr->List Tr->Tr
 | [a],[da]=>if op=4 then aG 4 0 [da] else if op=9 then bHy e arg a da else if op=10 then bGf e arg da else bGh e arg a da
 | [a,b],[da,db]=>bHz op a b da db
 | _,_=>bI
mutual
def bDx(g:Tr->Tr)(nm:List Nat):Tr->Tr
 | .mk op arg neg l m name ks=>if op=1\/op=3 then mkL 0 else if op=2 then (if name=nm then mkL 1 else mkL 0) else bGi (g (.mk op arg neg l m name ks)) op arg ks (bCj g nm ks)
def bCj(g:Tr->Tr)(nm:List Nat):List Tr->List Tr
 | []=>[]
 | t::ts=>bDx g nm t::bCj g nm ts
end
def bare:Tr->Tr
 | .mk op arg _ _ _ _ ks=>aG op arg ks
mutual
def smT:Tr->Prop
 | .mk op _ _ _ _ _ ks=>¬aG3 op/\bGj ks
def bGj:List Tr->Prop
 | []=>True
 | t::ts=>smT t/\bGj ts
end
/-! what Derive answers, on both sides -/
def bIk(nm:List Nat)(t:Tr):Tr × Nat:=if ¬bB t then (bI,40) else if ¬fD nm then (bI,41) else if bAy t≠none then (bI,42) else mF (bDq (bDx id nm t))
def bH0(t:Tr):Tr × Nat:=if bB t then (t,0) else (bI,4)
def bIl(nm:List Nat)(t:Tr):Tr × Nat:=if ¬bB t then (bI,40) else if ¬fD nm then (bI,41) else if bAy t≠none then (bI,42) else bH0 (bDq (bDx bare nm t))
end Go.Proofs.Y
/- The text of a tree, parsed: each kind of node; the whole. -/
namespace Go.Proofs.Y
open Go Go.Vc Go.Dig
section
variable {ts:List Tk}
def Rds(ts:List Tk):List (List (Nat × List Nat) × Int)->List Tr->Prop
 | [],[]=>True
 | x::xs,u::us=>Rd ts x.2 x.1 u/\Rds ts xs us
 | _,_=>False
end
end Go.Proofs.Y
/- The text of a tree leads back to the tree; printing again changes nothing: plain. -/
namespace Go.Proofs.Y
open Go Go.Vc Go.Dig
/-! numbers among the tokens -/
def bBb(x:Nat × List Nat):Prop:=x.1=1->∃q,fits q/\0<=q/\x.2=jB q
def cU(l:List (Nat × List Nat)):Prop:=∀x∈l,bBb x
/-! the tree that is read back is right -/
/-! texts depend on iX alone -/
mutual
theorem uF:∀{t u:Tr},key t=key u->aE t=aE u
 | .mk op arg neg l m name ks,.mk op' arg' neg' l' m' name' ks',e=>by
  rw[key,key,Kt.mk.injEq] at e;obtain⟨rfl,rfl,e3,rfl,e5⟩:=e;rw[aE,aE,e3,aCo e5]
theorem aCo:∀{ts us:List Tr},iX ts=iX us->aL ts=aL us
 | [],us,e=>by rw[tD e]
 | t::ts,us,e=>by
  obtain⟨u,us',rfl,e1,e2⟩:=qD e;rw[aL,aL,uF e1,aCo e2];obtain⟨op,arg,neg,l,m,name,ks⟩:=t;obtain⟨op',arg',neg',l',m',name',ks'⟩:=u;rw[key,key,Kt.mk.injEq] at e1;show (_,aT op)::_=(_,aT op')::_;rw[e1.1]
end
end Go.Proofs.Y
/- Values of trees in which literals stand for variables, of copies, of resolved case distinctions: plain. -/
namespace Go.Proofs.Y
open Go Go.Vc Go.Dig
def dS(vals:List (List Nat × Rat)):List (List Nat × Tr):=vals.map fun b=>(b.1,mkL b.2)
theorem aCp{name:List Nat}:∀{vals:List (List Nat × Rat)},eN (dS vals) name=(eN vals name).map mkL
 | []=>rfl
 | (n,q)::l=>by
  show (if n=name then some (mkL q) else eN (dS l) name)=_
  rw[eN]
  split
  .rfl
  .exact aCp
section
variable {vals:List (List Nat × Rat)} (hv:∀b∈vals,fits b.2)
include hv
end
section
variable {vals:List (List Nat × Rat)} (hv:∀b∈vals,fits b.2)
include hv
end
end Go.Proofs.Y