/- Subst: plain. -/
import Derived.Test.YtiohcpiloenmoaaGreatDoorPF3
set_option linter.all false
set_option maxHeartbeats 2000000
set_option maxRecDepth 20000
namespace Go.Proofs.Y
open Go Go.Vc Go.Dig
def gM{α:Type}(bs:List (List Nat × α)):Prop:=(∀b∈bs,dH b.1)/\(bs.map (·.1)).Nodup
def mQ(bs:List (List Nat × Tr)):Prop:=∀b∈bs,aS b.2
instance {α:Type} (bs:List (List Nat × α)):Decidable (gM bs):=by unfold gM;exact inferInstance
instance (bs:List (List Nat × Tr)):Decidable (mQ bs):=by unfold mQ;exact inferInstance
def pT(bs:List (List Nat × Tr))(t:Tr):Tr × Nat:=if ¬(aS t/\mQ bs) then (aL,40) else if ¬gM bs then (aL,41) else dR (jJ (byR bs) t)
end Go.Proofs.Y
/- Maps with names for pR; nodes replaced by a function value with one captured cell. -/
namespace Go.Vc
open Go Go.Dig
theorem aVu{v:Value}{z:List Value}(h:v.cells=z.toArray)(hz:z.length≠1):v=.agg z.toArray:=by
 have hs:=congrArg Array.size h;cases v
 case agg cs=>exact congrArg Value.agg h
 all_goals exact absurd (show 1=z.length by simpa[Value.cells] using hs).symm hz
theorem aPk{T:Tab}(ok:T.Ok){w:World}{t kt et:TypeId}{d:TypeDesc}{key v:Value}{b i:Nat}{es:Array MapEntry}{clock:Nat}(hg:w.heap[b]?=some (.map es clock))(hm:T.und t=some (.map kt et))(hd:T.und kt=some d)
  (hkey:MapKept.IsKey d key) (hf:Instr.findNow d key es.toList 0=some (some (i,v))):(Instr.lookup t (.map (some b)) key true).run T.prog w=.ok (.tuple #[v,.bool true]) w:=by
 have hck:=MapKept.run_checkKey (P:=T.prog) (w:=w) (ok.und _ _ hd) hkey es.isEmpty 9999;simp[Instr.lookup,run_underlying (ok.und _ _ hm),MapKept.run_getObj_map hg,hck,MapKept.run_findKey (ok.und _ _ hd) hf,Result.andThen]
theorem aK4{T:Tab}(ok:T.Ok){w:World}{t kt et:TypeId}{d:TypeDesc}{key:Value}{b n:Nat}{es:Array MapEntry}{clock:Nat}{z:List Value}(hg:w.heap[b]?=some (.map es clock))(hm:T.und t=some (.map kt et))(hd:T.und kt=some d)
  (hz:T.inf et=some (z,n)) (hz1:z.length≠1) (hkey:MapKept.IsKey d key) (hf:Instr.findNow d key es.toList 0=some none):(Instr.lookup t (.map (some b)) key true).run T.prog w=.ok (.tuple #[.agg z.toArray,.bool false]) w:=by
 have hck:=MapKept.run_checkKey (P:=T.prog) (w:=w) (ok.und _ _ hd) hkey es.isEmpty 9999;obtain⟨v,hzr,hc⟩:=kW (w:=w) ok hz;rw[aVu hc hz1] at hzr;simp[Instr.lookup,run_underlying (ok.und _ _ hm),MapKept.run_getObj_map hg,hck,MapKept.run_findKey (ok.und _ _ hd) hf,hzr,Result.andThen]
def aX0(h:aA)(L:Vc.Own)(b:Nat)(es:Array MapEntry)(clock:Nat):Prop:=(b,.map es clock)∈L\/h b=some (.map es clock)
theorem Ext.mapFind{T:Tab}{t kt et:TypeId}{d:TypeDesc}{m kO:Operand}{key:Value}{b n:Nat}{es:Array MapEntry}{clock:Nat}{z:List Value}{h:aA}{L:Vc.Own}{k:Value->aA->Vc.Own->Prop}
  (ha:aX0 h L b es clock) (hm:T.und t=some (.map kt et)) (hd:T.und kt=some d) (hz:T.inf et=some (z,n)) (hz1:z.length≠1) (hkey:MapKept.IsKey d key)
  (hk:(∃i v,Instr.findNow d key es.toList 0=some (some (i,v))/\k (.tuple #[v,.bool true]) h L)\/(Instr.findNow d key es.toList 0=some none/\k (.tuple #[.agg z.toArray,.bool false]) h L)):Ext T (.lookup t m kO true) [m,kO] [.map (some b),key] h L k:=by
 refine⟨fun ok o ρ K Q w h0' L0 w' hop' hargs inv hout hP hK=>.inl ?_⟩
 simp only[bAa,bBd,List.cons.injEq,and_true] at hargs;obtain⟨a1,a2⟩:=hargs;have hg:w'.heap[b]?=some (.map es clock):=by
  rcases ha with ha|ha
  .exact inv.own _ ha
  .exact inv.imm _ _ ha
 rcases hk with ⟨i,v,hf,hk⟩|⟨hf,hk⟩
 .have hr:=aPk ok hg hm hd hkey hf;refine bA (w':=w') (v:=.tuple #[v,.bool true]) ?_ (hK _ _ _ _ inv hk);simp only[execOp,hop',a1,a2,bAc,hr]
  rfl
 .have hr:=aK4 ok hg hm hd hz hz1 hkey hf;refine bA (w':=w') (v:=.tuple #[.agg z.toArray,.bool false]) ?_ (hK _ _ _ _ inv hk);simp only[execOp,hop',a1,a2,bAc,hr]
  rfl
theorem aCj{A Fe G tl:Vc.Own}{x:Nat × Obj}:(A++(Fe++(G++x::tl)))[A.length+Fe.length+G.length]?=some x:=by
 rw[aZo Aa,aZo Aa,aZo Aa];simp[show A.length+Fe.length+G.length-A.length-Fe.length-G.length=0 by omega]
theorem aIw{A Fe G tl:Vc.Own}{x y:Nat × Obj}:(A++(Fe++(G++x::tl))).set (A.length+Fe.length+G.length) y=A++(Fe++(G++y::tl)):=by
 rw[bAj _ _ Aa,bAj _ _ Aa,bAj _ _ Aa];simp[show A.length+Fe.length+G.length-A.length-Fe.length-G.length=0 by omega]
theorem Ext.mapSet{T:Tab}{op:Op}{t kt et:TypeId}{d:TypeDesc}{m kO vO:Operand}{key v:Value}{b:Nat}{es:Array MapEntry}{clock:Nat}{h:aA}{A Fe G tl:Vc.Own}{k:Value->aA->Vc.Own->Prop}(hop:op=.insert t m kO vO\/op=.mapUpdate t m kO vO)
  (hm:T.und t=some (.map kt et)) (hd:T.und kt=some d) (hkey:MapKept.IsKey d key)
  (hk:(Instr.findNow d key es.toList 0=some none/\k undef h (A++(Fe++(G++(b,.map (es.push { key:=key,val:=v,born:=clock }) (clock+1))::tl))))\/
    (∃i e,Instr.findNow d key es.toList 0=some (some (i,e.val))/\es[i]?=some e/\e.key=key/\k undef h (A++(Fe++(G++(b,.map (es.modify i fun e=>{ e with key:=key,val:=v }) clock)::tl))))):
  Ext T op [m,kO,vO] [.map (some b),key,v] h (A++(Fe++(G++(b,.map es clock)::tl))) k:=by
 rcases hk with ⟨hf,hk⟩|⟨i,e,hf,he,hek,hk⟩
 .exact Ext.mapNew _ hop aCj hm hd hkey hf (by rw[aIw];exact hk)
 .refine⟨fun ok o ρ K Q w h0' L0 w' hop' hargs inv hout hP hK=>.inl ?_⟩
  simp only[bAa,bBd,List.cons.injEq,and_true] at hargs;obtain⟨a1,a2,a3⟩:=hargs;have hg:w'.heap[b]?=some (.map es clock):=inv.own _ (aY8 aCj);have hst:(Instr.keyThatStays ((Option.map (fun x=>x.key) es[i]?).getD key) key).run T.prog w'=.ok key w':=by
   rw[he];show (Instr.keyThatStays e.key key).run T.prog w'=.ok key w';rw[hek];exact MapKept.run_keyThatStays hkey
  have hr:(Instr.mapUpdate t (.map (some b)) key v).run T.prog w'=.ok () { w' with heap:=w'.heap.setIfInBounds b (.map (es.modify i fun e=>{ e with key:=key,val:=v }) clock) }:=by
   simp[Instr.mapUpdate,run_underlying (ok.und _ _ hm),MapKept.run_getObj_map hg,MapKept.run_checkKey (ok.und _ _ hd) hkey false 9999,MapKept.run_findKey (ok.und _ _ hd) hf,hst,MapKept.run_setObj_map _ hg,Result.andThen]
  refine oZ (w':=_) ?_ (hK undef _ _ _ (inv.upd aCj (vM _ hg)) (by rw[aIw];exact hk));rcases hop with rfl|rfl <;>
  .simp only[execOp,hop',a1,a2,a3,bAc,hr]
   rfl
theorem CN.keepTl{T:Tab}{f:FuncId}{args:List Value}{h:aA}{k:Value->aA->Vc.Own->Prop}{Fe tl:Vc.Own}{b c:Nat}{p q:Obj}(hf:T.fn f=true)
  (hk:∀h',h.le h'->h' b=some p->h' c=some q->CN T f args h' (Fe++tl) k):CN T f args h (Fe++((b,p)::(c,q)::tl)) k:=by
 have e1:(Fe++(b,p)::(c,q)::tl).eraseIdx Fe.length=Fe++(c,q)::tl:=by rw[bBj (aZt _)];simp
 have e2:(Fe++(c,q)::tl).eraseIdx Fe.length=Fe++tl:=by rw[bBj (aZt _)];simp
 refine CN.keep (b:=b) (o:=p) Fe.length Ar hf fun h1=>?_
 rw[e1];refine CN.keep (b:=c) (o:=q) Fe.length Ar hf fun h2=>?_
 rw[e2];exact hk _ (aA.lt h1 h2) (h2 _ _ AB) AB
end Go.Vc
namespace Go.Proofs.Y
open Go Go.Vc Go.Dig
class UpV {α:Type} (P:aA->Value->α->Prop):Prop where
 up:∀{h h':aA} {v:Value} {a:α},h.le h'->P h v a->P h' v a
instance:UpV VE:=⟨fun hl ⟨op,arg,neg,n,d,name,s,e,w⟩=>⟨op,arg,neg,n,d,name,s,e,w.mono hl⟩⟩
def aVv{α:Type}(P:aA->Value->α->Prop)(h:aA)(x:MapEntry)(b:List Nat × α):Prop:=x.key=.string (txt b.1)/\(∀y∈b.1,y<256)/\P h x.val b.2
def fD{α:Type}(P:aA->Value->α->Prop)(h:aA):List MapEntry->List (List Nat × α)->Prop
 | [],[]=>True
 | x::xs,b::bs=>aVv P h x b/\fD P h xs bs
 | _,_=>False
theorem fD.mono{α:Type}{P:aA->Value->α->Prop}[UpV P]{h h':aA}(hl:h.le h'):∀{xs:List MapEntry} {bs:List (List Nat × α)},fD P h xs bs->fD P h' xs bs
 | [],[],_=>trivial
 | [],_::_,w=>w.elim
 | _::_,[],w=>w.elim
 | _::_,_::_,⟨⟨h1,h2,h3⟩,r⟩=>⟨⟨h1,h2,UpV.up hl h3⟩,fD.mono hl r⟩
theorem fD.push{α:Type}{P:aA->Value->α->Prop}{h:aA}{x:MapEntry}{b:List Nat × α}(hx:aVv P h x b):∀{xs:List MapEntry} {bs:List (List Nat × α)},fD P h xs bs->fD P h (xs++[x]) (bs++[b])
 | [],[],_=>⟨hx,trivial⟩
 | [],_::_,w=>w.elim
 | _::_,[],w=>w.elim
 | _::_,_::_,⟨h1,r⟩=>⟨h1,fD.push hx r⟩
theorem fD.set{α:Type}{P:aA->Value->α->Prop}{h:aA}{x:MapEntry}{b:List Nat × α}(hx:aVv P h x b):∀{j:Nat} {xs:List MapEntry} {bs:List (List Nat × α)},fD P h xs bs->fD P h (xs.set j x) (bs.set j b)
 | _,[],[],w=>w
 | _,[],_::_,w=>w.elim
 | _,_::_,[],w=>w.elim
 | 0,_::_,_::_,⟨_,r⟩=>⟨hx,r⟩
 | _+1,_::_,_::_,⟨h1,r⟩=>⟨h1,fD.set hx r⟩
def lJ{α:Type}:List (List Nat × α)->List Nat->Option α
 | [],_=>none
 | (n,u)::bs,name=>if n=name then some u else lJ bs name
theorem fD.find{α:Type}{P:aA->Value->α->Prop}{h:aA}{nm:List Nat}(hnm:∀y∈nm,y<256):∀{xs:List MapEntry} {bs:List (List Nat × α)} (i0:Nat),fD P h xs bs->
  (∃j x t,Instr.findNow .string (.string (txt nm)) xs i0=some (some (i0+j,x.val))/\xs[j]?=some x/\bs[j]?=some (nm,t)/\x.key=.string (txt nm)/\P h x.val t/\lJ bs nm=some t)\/
  (Instr.findNow .string (.string (txt nm)) xs i0=some none/\nm∉bs.map (·.1)/\lJ bs nm=none)
 | [],[],_,_=>.inr ⟨rfl,by simp,rfl⟩
 | [],_::_,_,w=>w.elim
 | _::_,[],_,w=>w.elim
 | x::xs,(n,t)::bs,i0,⟨⟨k1,k2,k3⟩,r⟩=>by
  by_cases e:n=nm
  .subst e;refine .inl ⟨0,x,t,?_,rfl,rfl,k1,k3,by rw[lJ,if_pos rfl]⟩
   rw[Instr.findNow,k1,show Instr.sameNow .string (.string (txt n)) (.string (txt n))=some true from congrArg some ((MapKept.bytes_beq _ _).2 rfl)]
   rfl
  .have hs:Instr.sameNow .string (.string (txt nm)) x.key=some false:=by
    rw[k1];show some (txt nm == txt n)=some false
    congr 1
    cases hb:(txt nm == txt n) with
    | false=>rfl
    | true=>exact absurd (sD hnm k2 ((MapKept.bytes_beq _ _).1 hb)).symm e
   rcases fD.find hnm (i0+1) r with ⟨j,x',t',h1,h2,h3,h4,h5,h6⟩|⟨h1,h2,h3⟩
   .exact .inl ⟨j+1,x',t',by rw[Instr.findNow,hs];simpa[bCu,Nat.add_left_comm] using h1,by simpa using h2,by simpa using h3,h4,h5,by rw[lJ,if_neg e];exact h6⟩
   .refine .inr ⟨by rw[Instr.findNow,hs];exact h1,?_,by rw[lJ,if_neg e];exact h3⟩
    simp only[bAa,aZl,not_or];exact⟨fun x=>e x.symm,h2⟩
theorem oU{α:Type}{f:α->α}:∀{l:List α} {i:Nat} {e:α},l[i]?=some e->l.modify i f=l.set i (f e)
 | [],_,_,h=>by simp at h
 | x::xs,0,e,h=>by
  simp at h;subst h;rfl
 | x::xs,i+1,e,h=>by
  rw[List.modify_succ_cons,bBc,oU (by simpa using h)]
theorem modify_set{es:Array MapEntry}{i:Nat}{e:MapEntry}(he:es[i]?=some e)(f:MapEntry->MapEntry):(es.modify i f).toList=es.toList.set i (f e):=by
 rw[Array.toList_modify,oU (by rw[Array.getElem?_toList];exact he)]
theorem aAo{name:List Nat}{D:Tr}:∀{bs:List (List Nat × Tr)},aPf bs name D=(lJ bs name).getD D
 | []=>rfl
 | (n,u)::bs=>by
  rw[aPf,lJ];by_cases e:n=name
  .rw[if_pos e,if_pos e];rfl
  .rw[if_neg e,if_neg e];exact aAo
def byM(bs:List (List Nat × Tr)):Tr->Option Tr
 | .mk op _ _ _ _ name _=>if op=2 then lJ bs name else none
mutual
theorem aIx{bs:List (List Nat × Tr)}:∀{d:Nat} {t:Tr},okT d t->jJ (byM bs) t=jJ (byR bs) t
 | d,.mk op arg neg l m name ks,h=>by
  rw[okT] at h;by_cases e:op=2
  .have h0:ks=[]:=by
    have:=h.2.1.1;rw[e] at this;have h2:aV 2=0:=rfl;exact aZ3.1 Aa
   have hr:byR bs (.mk op arg neg l m name ks)=some (aPf bs name (.mk op arg neg l m name ks)):=if_pos e;have hm:byM bs (.mk op arg neg l m name ks)=lJ bs name:=if_pos e;rw[kV hr,aAo];cases hf:lJ bs name with
   | some u=>rw[kV (hm.trans hf)];rfl
   | none=>rw[jQ (hm.trans hf),h0,dK];rfl
  .have hr:byR bs (.mk op arg neg l m name ks)=none:=if_neg e;have hm:byM bs (.mk op arg neg l m name ks)=none:=if_neg e;rw[jQ hr,jQ hm,aEt h.2.2]
theorem aEt{bs:List (List Nat × Tr)}:∀{d:Nat} {ts:List Tr},bZ d ts->dK (byM bs) ts=dK (byR bs) ts
 | _,[],_=>by rw[dK,dK]
 | d,t::ts,h=>by
  rw[bZ] at h;rw[dK,dK,aIx h.1,aEt h.2]
end
theorem aCk{fb:FuncId}{x:Value}{g:Tr->Option Tr}(hf:T.fn fb=true)(h0:aA)(hby:ByC fb [x] g h0):∀t:Tr,∀(h:aA) (vs:List Value) (d:Nat),h0.le h->IsE h vs t->okT d t->Fn0 T F.q35 [.agg vs.toArray,.func (.func fb) #[] #[x]] h fun v h'=>VE h' v (jJ g t):=by
 refine dX fun t ih=>?_
 intro h vs d h0l w hok;obtain⟨op,arg,neg,l,m,name,ks⟩:=t;have c1:=fun h h0l w=>hby _ d h vs hok h0l w
 obtain⟨a,b,s,rfl,ho,ha,hv,hb,hk⟩:=w.isK;rw[okT] at hok;obtain⟨hd,hnb,hoks⟩:=hok;have hks:ks.length<=3:=by
  have h1:=hnb.1;have h2:=cR op;omega
 have hkl:=hk.len;have r1:∀u,g (.mk op arg neg l m name ks)=some u->jJ g (.mk op arg neg l m name ks)=u:=fun u e=>kV e
 have r2:g (.mk op arg neg l m name ks)=none->jJ g (.mk op arg neg l m name ks)=.mk op arg neg l m name (dK g ks):=jQ;obtain⟨R,hR⟩:=AE (jJ g (.mk op arg neg l m name ks));obtain⟨G,hG⟩:=AE (g (.mk op arg neg l m name ks));rw[<-hR] at r1 r2 ⊢;rw[<-hG] at c1 r1 r2;clear hR hG;refine f0C ok D.q35 rfl ?_;conv=>whnf
 repeat' first|((first|(show LdN _ _ _ _ _;first|(first|refine LdN.o 0 rfl rfl ?_|refine LdN.oA 0 rfl rfl ?_)|refine LdN.o 1 rfl rfl ?_)|(show CN _ _ _ _ _ _;(refine CN.f hf (c1 _ (by first|assumption|exact aA.lt h0l Ab) Ab) (fun v h' hl2 hr=>?_);obtain⟨_,bb,u,rfl,⟨op2,ar2,ng2,nn2,dd2,nm2,ss2,rfl,hE2⟩,g1,g2⟩:=hr))|((first|apply oI.z|apply cI.z))|intro (_:Nat)|refine Ld.o 2 rfl rfl ?_|(show Sto _ _ _ _;first|refine Sto.l 0 rfl rfl rfl ?_|refine Sto.l 1 rfl rfl rfl ?_))<;>conv=>whnf)|(refine bQ (fun hb=>?_) (fun hb=>?_)<;>(first|cases hb|subst hb)<;>(conv=>whnf))
 .rw[r1 _ (g1 rfl)];exact RN.a ⟨op2,ar2,ng2,nn2,dd2,nm2,ss2,rfl,hE2⟩
 .rw[r2 (g2 rfl)];clear r1 r2 g1 g2;rename_i be bz bn;have h0l':=aA.lt h0l hl2;refine LpN.of (fun r ρ hx L=>∃(j:Nat) (V:Value) (F1:Vc.Own) (xs:List Value),r=ks.length-j/\h'.le hx/\j<=ks.length/\rd ρ 21=.int .i64 j/\rd ρ 7=V/\
    L=F1++((bn,.cells [.int .i64 op2,.int .i64 ar2,.bool ng2,nn2.val,dd2.val,.string (txt nm2),ss2.val].toArray Ty.api_Expr (0,0))::(bz,.cells [.int .i64 0,.int .i64 0,.bool false,.slice none 0 0,.slice none 0 0,.string (txt []),.slice none 0 0].toArray Ty.api_Expr (0,0))::(be,.cells [.int .i64 op,.int .i64 arg,.bool neg,a.val,b.val,.string (txt name),s.val].toArray Ty.api_Expr (0,0))::[])/\
    aE Ty.api_Expr 7 V j xs F1/\KC hx xs (dK g (ks.take j))) ks.length
   ⟨0,_,[],[],rfl,aA.lr _,aZs _,rfl,rfl,rfl,aE.nil _ _ _,by rw[bAt,dK];rfl⟩ ?_
  conv=>whnf
  repeat intro _
  rename_i r hx L2 hI;obtain⟨j,V,F1,xs,rfl,hle,hj,e21,e7,rfl,gF,hK⟩:=hI;conv at e21=>lhs;whnf
  subst e21;conv at e7=>lhs;whnf
  subst e7;by_cases hjl:j=ks.length
  .subst hjl;rw[aZi] at hK;obtain⟨sv,rfl⟩:=gF.sl;conv=>whnf
   repeat' ((first|(show Sto _ _ _ _;first|refine Sto.tl (A:=F1) (X:=[_,_]) rfl rfl ?_|refine Sto.tl (A:=F1) (X:=[_]) rfl rfl ?_)|(show LdN _ _ _ _ _;first|refine LdN.tl (A:=F1) (F:=[_,_]) rfl ?_|refine LdN.tl (A:=F1) (F:=[_]) rfl ?_)|((first|apply oI.z|apply cI.z))|(apply aB<;>intro _<;>try (exfalso;omega)))<;>conv=>whnf)
   refine RN.rowA (X:=F1) gF hK (qO g ks).symm fun h'' s' hl hs hk'=>?_
   rw[hs];exact⟨op,arg,neg,a,b,name,s',rfl,IsE.mkK ho ha (((hv.mono hl2).mono hle).mono hl) hb hk'⟩
  .obtain⟨t,ht⟩:∃t,ks[j]?=some t:=⟨_,aY4 Aa⟩
   have c2:=fun h vs h0l w=>ih t (bM ht) h vs (d+1) h0l w (dY hoks (aY8 ht))
   have hkx:=hk.mono (aA.lt hl2 hle);have h0x:=aA.lt h0l' hle;conv=>whnf
   repeat' ((first|(show Idx _ _ _ _ _;refine Idx.kid hkx j t Aa ht (fun ad op3 arg3 neg3 a3 b3 name3 s3 hE hld=>?_))|refine hld _ _ _ (aA.lr _) ?_|((first|apply oI.z|apply cI.z))|intro (_:Nat)|(show CN _ _ _ _ _ _;(refine CN.f rfl (c2 _ _ h0x Ab) (fun v h' hl2 hr=>?_);obtain⟨op4,ar4,ng4,nn4,dd4,nm4,ss4,rfl,hE2⟩:=hr;have hK2:=hK.mono hl2))|(show App _ _ _ _ _ _ _ _ _;refine App.growK (A:=[_,_]) (F:=F1) (size:=7) (bytes:=112) (z:=[.int .i64 0,.int .i64 0,.bool false,.slice none 0 0,.slice none 0 0,.string (txt []),.slice none 0 0]) rfl rfl gF ⟨_,0,none⟩ 1 1 [_,_,_,_,_,_,_] rfl (Has.front _) rfl Ag Aa Aa Ag (fun v' F' g'=>?_))|refine WN.i64 Aa Aa ?_|refine LdN.o 0 rfl rfl ?_|refine Sto.l 0 rfl rfl rfl ?_|(apply aB<;>intro _<;>try (exfalso;omega)))<;>conv=>whnf)
   exact⟨rfl,ks.length-(j+1),Aa,j+1,_,_::_::F',_,rfl,Ac,Aa,vi Aa,rfl,rfl,(g'.cons _).cons _,by rw[bB ht,oG,dK,dK];exact KC.snoc rfl hE2 hK2⟩
theorem aGy(h0:aA)(bc bm:Nat)(Tc:TypeId)(fc:Nat × Nat)(es:Array MapEntry)(clock:Nat)(bs:List (List Nat × Tr))(mc:h0 bc=some (.cells #[.map (some bm)] Tc fc))(mm:h0 bm=some (.map es clock))(me:fD VE h0 es.toList bs):
  ByC 36 [.pointer (some ⟨bc,0,none⟩)] (byM bs) h0:=by
 intro u d h vs hok hle w;obtain⟨op,arg,neg,l,m,name,ks⟩:=u;obtain⟨a,b,s,rfl,ho,ha,hv,hb,hk⟩:=w.isK;have mc':=hle _ _ mc;have mm':=hle _ _ mm;have f1:¬op=2->byM bs (.mk op arg neg l m name ks)=none:=fun x=>if_neg x
 have f2:op=2->byM bs (.mk op arg neg l m name ks)=lJ bs name:=fun x=>if_pos x
 have fe:=fD.find hb 0 (me.mono hle);rcases fe with ⟨j,x,t,e1,e2,e3,e4,⟨op2,ar2,ng2,nn2,dd2,nm2,ss2,e5,hE⟩,e6⟩|⟨e1,e2,e3⟩
 .rw[e5] at e1;refine f0C ok D.q36 rfl ?_;conv=>whnf
  repeat' ((first|(show Ld _ _ _ _;first|refine Ld.of (Has.imm mc' rfl) ?_|refine Ld.o 1 rfl rfl ?_)|(show Ext _ _ _ _ _ _ _;refine Ext.mapFind (.inr mm') rfl rfl rfl Ag trivial (.inl ⟨_,_,e1,?_⟩))|(show DrN _ _ _ _ _ _;refine DrN.own [_,_] (by exact List.Sublist.cons_cons _ (List.Sublist.cons _ (List.Sublist.cons_cons _ (bAd _)))) Al ?_)|(refine⟨fun _=>⟨aF.o Am,by repeat first|exact bAd _|apply List.Sublist.cons_cons|refine List.Sublist.trans ?_ (bAe _ _)|apply List.Sublist.cons⟩,?_⟩)|((first|apply oI.z|apply cI.z))|intro (_:Nat)|(show LdN _ _ _ _ _;first|refine LdN.o 0 rfl rfl ?_|refine LdN.o 1 rfl rfl ?_)|(show Sto _ _ _ _;first|refine Sto.l 0 rfl rfl rfl ?_|refine Sto.l 1 rfl rfl rfl ?_))<;>conv=>whnf)
  all_goals
   by_cases o2:op=2
   .exact RN.a ⟨_,eq op 2,_,rfl,⟨op2,ar2,ng2,nn2,dd2,nm2,ss2,rfl,hE⟩,(fun _=>by rw[f2 o2,e6]),fun x=>absurd x (by rw[jE,aW o2];decide)⟩
   .exact RN.a ⟨_,eq op 2,_,rfl,⟨op2,ar2,ng2,nn2,dd2,nm2,ss2,rfl,hE⟩,(fun x=>absurd x (by rw[jE,aG o2];decide)),fun _=>f1 o2⟩
 .refine f0C ok D.q36 rfl ?_;conv=>whnf
  repeat' ((first|(show Ld _ _ _ _;first|refine Ld.of (Has.imm mc' rfl) ?_|refine Ld.o 1 rfl rfl ?_)|(show Ext _ _ _ _ _ _ _;refine Ext.mapFind (.inr mm') rfl rfl rfl Ag trivial (.inr ⟨e1,?_⟩))|(show DrN _ _ _ _ _ _;refine DrN.own [_,_] (by exact List.Sublist.cons_cons _ (List.Sublist.cons _ (List.Sublist.cons_cons _ (bAd _)))) Al ?_)|(refine⟨fun _=>⟨aF.o Am,by repeat first|exact bAd _|apply List.Sublist.cons_cons|refine List.Sublist.trans ?_ (bAe _ _)|apply List.Sublist.cons⟩,?_⟩)|((first|apply oI.z|apply cI.z))|intro (_:Nat)|(show LdN _ _ _ _ _;first|refine LdN.o 0 rfl rfl ?_|refine LdN.o 1 rfl rfl ?_)|(show Sto _ _ _ _;first|refine Sto.l 0 rfl rfl rfl ?_|refine Sto.l 1 rfl rfl rfl ?_))<;>conv=>whnf)
  all_goals
   exact RN.a ⟨_,false,aL,rfl,VE.zero _,(fun x=>by cases x),fun _=>by
     by_cases o2:op=2
     .rw[f2 o2,e3]
     .exact f1 o2⟩
end Go.Proofs.Y
/- Contracts of the roots of natural numbers: package word's and the reference's. -/
namespace Go.Proofs.Y
open Go Go.Vc Go.Dig

theorem eM.i64v{a b:Int}{k:Int->Prop}(c:Int)(ha:0<=a)(hb:0<b)(hm:a<=9223372036854775807)(hc:a / b=c)(hk:k c):eM .i64 a b k:=eM.i64 ha hb hm (by rw[hc];exact hk)
theorem aX1(h:aA)(a:Sl)(m:Nat)(n:Int)(P:Nat)(hn:n=P)(ha:aJ h a m)(la:ln 4294967296 m<=17179869184)(hp:P<=549755813888):
  Fn0 T F.q220 [a.val,.int .i64 n] h fun v h'=>∃s:Sl,v=s.val/\aJ h' s (m*2^P):=by
 subst hn;exact aFw h a m P ha la hp
theorem aUo(h:aA)(a:Sl)(A:Nat)(n:Int)(P:Nat)(hn:n=P)(ha:aJ h a A)(hb:P*ln 4294967296 A<=8589934590)(la:ln 4294967296 A<=8589934592)(hp:P<=65536):
  Fn0 T F.q164 [a.val,.int .i64 n] h fun v h'=>∃s:Sl,v=s.val/\aJ h' s (A^P):=by
 subst hn;exact aBp h a A P ha hb la hp
theorem aTk(h:aA)(n:Int)(P:Nat)(hn:n=P)(hp:P<18446744073709551616):Fn0 T F.q137 [.int .u64 n] h fun v h'=>∃s':Sl,v=s'.val/\aJ h' s' P:=by
 subst hn;exact eX h P hp
theorem aEu{m n:Nat}:gS m n=0↔m=n:=by unfold gS;split<;>(try split)<;>omega
theorem aPl{m n:Nat}(h:gS m n<0):m<n:=by unfold gS at h;split at h<;>(try split at h)<;>omega

theorem aTl(h:aA)(a:Sl)(A n:Nat)(ha:aJ h a A)(la:ln 4294967296 A<=4096)(hn1:2<=n)(hn2:n<=8):
  Fn0 T F.q178 [a.val,.int .i64 n] h fun v h'=>∃s:Sl,v=.tuple #[s.val,.bool (dec (rt A n^n=A))]/\aJ h' s (rt A n):=by
 have hal:=ha.len;have hz:=aT tlB (n:=A);by_cases h00:A=0
 .have hz0:=hz.2 h00;clear hz;refine f0C ok D.q178 rfl ?_;conv=>whnf
  repeat' ((first|((first|apply oI.z|apply cI.z))|(apply aD<;>intro _<;>try (exfalso;omega)))<;>conv=>whnf)
  subst h00;exact RN.a ⟨⟨none,0,0⟩,by rw[aW (by rw[aHu,Nat.zero_pow Aa])]<;>rfl,by rw[aHu];exact aJ.nil rfl⟩
 have hz0:ln 4294967296 A≠0:=fun e=>h00 (hz.1 e)
 clear hz;have hbl:bl A<=131072:=aZr (wU A) Aa;have hbA:=fH.1 (aZt (bl A));obtain⟨B0,hB0⟩:=AE (bl A);rw[<-hB0] at hbl hbA;obtain⟨C,hC⟩:=AE ((B0+n-1) / n);have hCi:((B0:Int)+(n:Int)-1) / (n:Int)=(C:Int):=by
  rw[hC,show (B0:Int)+(n:Int)-1=((B0+n-1:Nat):Int) by omega];rfl
 have hCn:B0<=n*C:=by
  have h1:=bBm (B0+n-1) n;have h2:=bAw (B0+n-1) (show n>0 by omega)
  rw[<-hC] at h1;omega
 have hCb:C<=131080:=by rw[hC];exact aZr (bB8 _ _) Aa
 have hst:rt A n<=2^(C+1):=aZr (aMy Aa hbA hCn) (aZ4 Ag Aa);have hl0:=aF2 (C+1);obtain⟨X0,hX0⟩:=AE (2^(C+1));have hX0p:0<X0:=by rw[hX0];exact bAp _
 rw[<-hX0] at hst hl0;clear hC hCn hbA;refine f0C ok D.q178 rfl ?_;conv=>whnf
 repeat' ((first|(show CN _ _ _ _ _ _;first|(refine CN.f rfl (eX _ 1 Aa) (fun v h' hl hr=>?_);obtain⟨s',rfl,hs'⟩:=hr)|(refine CN.quiet rfl (aHm _ _ A Ah Aa) ?_;rw[<-hB0])|(refine CN.f rfl (aX1 _ _ 1 _ (C+1) Aa Ab (by rw[mJ _ tlB];decide) Aa) (fun v h' hl hr=>?_);rw[bBs,<-hX0] at hr;obtain⟨s',rfl,hs'⟩:=hr))|(show eM _ _ _ _;refine eM.i64v (C:Int) Aa Aa Aa hCi ?_)|((first|apply oI.z|apply cI.z))|refine WN.i64 Aa Aa ?_|(apply aD<;>intro _<;>try (exfalso;omega)))<;>conv=>whnf)
 rename_i hx0;refine LpN.of (fun r ρ h' L=>∃xs:Sl,h.le h'/\rd ρ 6=xs.val/\aJ h' xs r/\Hq (rt A n<=r)/\0<r/\ln 4294967296 r<=131082) X0
  ⟨_,Ac,rfl,Ab,⟨hst⟩,hX0p,Aa⟩ ?_
 clear hz0 hal hx0;conv=>whnf
 repeat intro _
 rename_i X h1 L1 hI;obtain⟨xs,hle,e6,hxs,hrX,hXp,hXl⟩:=hI;conv at e6=>lhs;whnf
 subst e6;have ha1:=ha.mono hle;have q1:=wZ tlB X (n-1);have q2:=wZ tlB X n;have r1:(n-1)*ln 4294967296 X<=7*131082:=bA1 Aa hXl;have r2:n*ln 4294967296 X<=8*131082:=bA1 hn2 hXl;obtain⟨P1,hP1⟩:=AE (X^(n-1));obtain⟨P2,hP2⟩:=AE (X^n);have hP1p:P1≠0:=by rw[hP1];exact Nat.ne_of_gt (bA9 hXp)
 rw[<-hP1] at q1;rw[<-hP2] at q2;have q3:=wW A P1;have q4:=dE tlB X (n-1);have q5:ln 4294967296 (n-1)<=1:=(aQ tlB).2 Aa;obtain⟨Q1,hQ1⟩:=AE (A / P1);rw[<-hQ1] at q3;obtain⟨M1,hM1⟩:=AE (X*(n-1));rw[<-hM1] at q4;have q6:=wI tlB M1 Q1;obtain⟨Y,hY⟩:=AE ((M1+Q1) / n);have hYn:Y=aMx A n X:=by rw[hY,hM1,hQ1,hP1];rfl
 have hYl:Y<X->ln 4294967296 Y<=131082:=fun hh=>aZr (bN (bBy hh)) hXl
 have hYr:rt A n<=Y:=by rw[hYn];exact aRh Aa hXp
 have hstop:X<=Y->X=rt A n:=fun hh=>aJq Aa hXp (by rw[<-hYn];exact hh) hrX.out
 have hYp:0<Y:=aZ5 (aF3 Aa h00) hYr;have hYb:ln 4294967296 Y<=1048576:=by rw[hY];exact aZr (wW _ _) Aa
 replace hYr:=Hq.mk hYr;replace hstop:=Hq.mk hstop;clear hYn hrX ha;conv=>whnf
 repeat' ((first|(show CN _ _ _ _ _ _;first|(refine CN.f rfl (aUo _ _ X _ (n-1) Aa Ab Aa Aa Aa) (fun v h' hl hr=>?_);rw[<-hP1] at hr;obtain⟨s',rfl,hs'⟩:=hr)|(refine CN.f rfl (aUo _ _ X _ n rfl Ah Aa Aa Aa) (fun v h' hl hr=>?_);rw[<-hP2] at hr;obtain⟨s',rfl,hs'⟩:=hr)|(refine CN.f rfl (aFz _ _ _ A P1 Ah Ab Aa Aa hP1p) (fun v h' hl hr=>?_);rw[<-hQ1] at hr;obtain⟨q',r',rfl,hq',hr'⟩:=hr)|(refine CN.f rfl (aTk _ _ (n-1) Aa Aa) (fun v h' hl hr=>?_);obtain⟨s',rfl,hs'⟩:=hr)|(refine CN.f rfl (pC _ _ _ X (n-1) Ah Ab Aa Aa) (fun v h' hl hr=>?_);rw[<-hM1] at hr;obtain⟨s',rfl,hs'⟩:=hr)|(refine CN.f rfl (aFv _ _ _ M1 Q1 Ab Ah Aa Aa) (fun v h' hl hr=>?_);obtain⟨s',rfl,hs'⟩:=hr)|(refine CN.f rfl (pE _ _ (M1+Q1) n Ab Aa Aa Aa) (fun v h' hl hr=>?_);rw[<-hY] at hr;obtain⟨s',rfl,hs'⟩:=hr)|(refine CN.quiet rfl (tR _ _ _ Y X Ah Ah Aa Aa) ?_)|(refine CN.quiet rfl (tR _ _ _ P2 A Ab Ah Aa Aa) ?_))|((first|apply oI.z|apply cI.z))|(show WN _ _ _;first|refine WN.i64 Aa Aa ?_|refine WN.u64 Aa Aa ?_|refine WN.u32 Aa Aa ?_)|(apply bH<;>intro _<;>try (exfalso;omega)))<;>conv=>whnf)
 .have hc:X<=Y:=aF5 Ab;have hXr:=hstop.out hc;refine RN.a ⟨xs,?_,by rw[<-hXr];exact Ah⟩
  by_cases hp:rt A n^n=A
  .rw[aW hp,Vc.eq_true' (aEu.2 (by rw[hP2,hXr];exact hp))]
  .rw[aG hp,Vc.eq_false' (fun e=>hp (by rw[<-hXr,<-hP2];exact aEu.1 e))]
 .have hc:Y<X:=aPl Ab;exact⟨rfl,Y,hc,_,Ac,rfl,Ab,hYr,hYp,hYl hc⟩

end Go.Proofs.Y
/- Rational roots: number.Root, the reference's Exact and Root; what the statement on roots computes: true. -/
namespace Go.Dig
theorem aIy(a:Nat){n:Nat}(hn:1<=n):rt a n<=a:=aZr (uL hn) (aMw hn)
def dV(q:Rat)(n:Nat):Rat × Bool:=
 if sg q=true/\n%2=0 then (0,false) else if rt (nu q) n^n=nu q/\rt q.den n^n=q.den then (mkQ (sg q) (rt (nu q) n) (rt q.den n),true) else (0,false)
theorem aVw{q:Rat}{n:Nat}(hn:1<=n):rt q.den n≠0:=Nat.ne_of_gt (aF3 hn q.den_nz)
theorem xY{q:Rat}{n:Nat}(hn:1<=n)(h1:rt (nu q) n^n=nu q)(h2:rt q.den n^n=q.den):
  sg (mkQ (sg q) (rt (nu q) n) (rt q.den n))=sg q/\nu (mkQ (sg q) (rt (nu q) n) (rt q.den n))=rt (nu q) n/\(mkQ (sg q) (rt (nu q) n) (rt q.den n)).den=rt q.den n:=by
 have hd:=aVw (q:=q) hn;have hc:Nat.gcd (rt (nu q) n) (rt q.den n)=1:=by
  have hq:=cop q;have d1:=Nat.gcd_dvd_left (rt (nu q) n) (rt q.den n);have d2:=Nat.gcd_dvd_right (rt (nu q) n) (rt q.den n);have k1:rt (nu q) n^1 ∣ rt (nu q) n^n:=Nat.pow_dvd_pow _ hn;have k2:rt q.den n^1 ∣ rt q.den n^n:=Nat.pow_dvd_pow _ hn;rw[h1,Nat.pow_one] at k1;rw[h2,Nat.pow_one] at k2;have e1:=Nat.dvd_trans d1 k1;have e2:=Nat.dvd_trans d2 k2;have:=Nat.dvd_gcd e1 e2;rw[hq] at this;exact Nat.dvd_one.1 this
 refine⟨?_,by rw[wR _ hd,hc,bCv],by rw[rV _ hd,hc,bCv]⟩
 rw[aBk _ hd];cases hs:sg q with
 | false=>rfl
 | true=>
  have:nu q≠0:=fun e=>by rw[dS.1 e,qE] at hs;cases hs
  have h3:rt (nu q) n≠0:=Nat.ne_of_gt (aF3 hn this);simp[h3]
end Go.Dig
namespace Go.Proofs.Y
open Go Go.Vc Go.Dig
def lK(n1:Bool)(l1 m1:List Nat)(n:Int):Rat × Bool × Int:=
 if okR n1 l1 m1 then (if n<2\/8<n then (0,false,2) else ((dV (aK n1 l1 m1) n.toNat).1,(dV (aK n1 l1 m1) n.toNat).2,0)) else (0,false,1)
def uX(h:aA)(v:Value)(x:Rat × Bool × Int):Prop:=∃a b:Sl,v=.tuple #[.agg #[.bool (sg x.1),a.val,b.val],.bool x.2.1,.int .i64 x.2.2]/\fI h a b x.1
theorem uX.err(h:aA)(e:Int):uX h (.tuple #[.agg #[.bool false,.slice none 0 0,.slice none 0 0],.bool false,.int .i64 e]) (0,false,e):=
 ⟨⟨none,0,0⟩,⟨none,0,0⟩,by rw[show sg (0,false,e).1=false from qE]<;>rfl,fI.zero _⟩
theorem aPm(h:aA)(a:Sl)(A:Nat)(n:Int)(N:Nat)(hn:n=N)(ha:aJ h a A)(la:ln 4294967296 A<=4096)(hn1:2<=N)(hn2:N<=8):
  Fn0 T F.q178 [a.val,.int .i64 n] h fun v h'=>∃s:Sl,v=.tuple #[s.val,.bool (dec (rt A N^N=A))]/\aJ h' s (rt A N):=by
 subst hn;exact aTl h a A N ha la hn1 hn2
theorem aVx(h:aA)(s:Bool)(a b:Sl)(q:Rat)(hs:sg q=s)(hq:bV h a b q)(hz:Sz 1073741824 q):
  Fn0 T F.q30 [.agg #[.bool s,a.val,b.val]] h fun v h'=>Res h' v (eA q):=by
 subst hs;exact iJ h a b q hq hz
theorem aPn(h:aA)(tb:Tb h)(n1:Bool)(a1 b1:Sl)(l1 m1:List Nat)(hv1:aY h a1 b1 l1 m1)(n:Int)(lo:-9223372036854775808<=n)(hi:n<=9223372036854775807):
  Fn0 T F.q128 [.agg #[.bool n1,a1.val,b1.val],.int .i64 n] h fun v h'=>uX h' v (lK n1 l1 m1 n):=by
 have f2:¬okR n1 l1 m1->lK n1 l1 m1 n=(0,false,1):=fun x=>if_neg x
 have f3:okR n1 l1 m1->(n<2\/8<n)->lK n1 l1 m1 n=(0,false,2):=fun x y=>by unfold lK;rw[if_pos x,if_pos y]
 have f4:okR n1 l1 m1->¬(n<2\/8<n)->lK n1 l1 m1 n=((dV (aK n1 l1 m1) n.toNat).1,(dV (aK n1 l1 m1) n.toNat).2,0):=fun x y=>by unfold lK;rw[if_pos x,if_neg y]
 refine f0C ok D.q128 rfl ?_;conv=>whnf
 repeat' first|((first|(show CN _ _ _ _ _ _;(refine CN.f rfl (fE _ Ab _ _ _ l1 m1 Ab) (fun v h' hle1 hr=>?_);obtain⟨s1,c1,d1,rfl,hok1⟩:=hr))|((first|apply oI.z|apply cI.z))|intro (_:Nat)|refine LdN.o 1 rfl rfl ?_|refine Ld.o 0 rfl rfl ?_|(show Sto _ _ _ _;first|refine Sto.l 0 rfl rfl rfl ?_|refine Sto.l 1 rfl rfl rfl ?_))<;>conv=>whnf)|(show cnd _ _ _;first|(apply aB<;>intro _<;>first|(exfalso;omega)|conv=>whnf)|(refine aI ?_)|(apply aN<;>intro _<;>first|(exfalso;omega)|conv=>whnf)|(refine bQ (fun hb=>?_) (fun hb=>?_)<;>(first|cases hb|subst hb)<;>(conv=>whnf)))
 all_goals first
  | (rw[f2 Ab];exact RN.a (uX.err _ _))
  | (rw[f3 Ab Aa];exact RN.a (uX.err _ _))
  | skip
 all_goals
  obtain⟨hs,g1⟩:=hok1 Ab;have k1:okR n1 l1 m1:=Ab;have z1:=okR.sz k1;have hfq:=k1.2.2;obtain⟨N,hN⟩:∃N:Nat,n=N:=⟨n.toNat,Aa⟩
  rw[f4 k1 Aa,show n.toNat=N by omega]
  clear f2 f3 f4 hok1;obtain⟨q,hq⟩:=AE (aK n1 l1 m1);rw[<-hq] at hs g1 z1 hfq;rw[<-hq];have hn2:2<=N:=Aa;have hn8:N<=8:=Aa;have i1:=g1.num;have i2:=g1.den;have t1:=z1.num;have t2:=z1.den;have w1:=bN (aIy (nu q) (n:=N) Aa);have w2:=bN (aIy q.den (n:=N) Aa);have E1:sg q=true->N%2=0->dV q N=(0,false):=fun a b=>if_pos ⟨a,b⟩
  have E2:¬(sg q=true/\N%2=0)->rt (nu q) N^N=nu q->rt q.den N^N=q.den->dV q N=(mkQ (sg q) (rt (nu q) N) (rt q.den N),true):=fun a b c=>by unfold dV;rw[if_neg a,if_pos ⟨b,c⟩]
  have E3:¬(sg q=true/\N%2=0)->¬(rt (nu q) N^N=nu q/\rt q.den N^N=q.den)->dV q N=(0,false):=fun a b=>by unfold dV;rw[if_neg a,if_neg b]
  have R:=xY (q:=q) (n:=N) Aa;obtain⟨r,hr0⟩:=AE (mkQ (sg q) (rt (nu q) N) (rt q.den N));rw[<-hr0] at E2 R;rw[<-hs] at E1 E2 E3 R;obtain⟨X1,hX1⟩:=AE (rt (nu q) N);obtain⟨X2,hX2⟩:=AE (rt q.den N);rw[<-hX1,<-hX2] at E2 E3 R;rw[<-hX1] at w1;rw[<-hX2] at w2;have hfr:X1^N=nu q->X2^N=q.den->fits r:=fun a b=>⟨by rw[(R a b).2.1];omega,by rw[(R a b).2.2];omega⟩
  have hzr:X1^N=nu q->X2^N=q.den->Sz 1073741824 r:=fun a b=>⟨aZr (hfr a b).1 Ag,aZr (hfr a b).2 Ag⟩
  have hout:X1^N=nu q->X2^N=q.den->eA r=(r,0):=fun a b=>if_pos (hfr a b)
  clear hr0 hq hs
 all_goals (repeat' first|((first|(show iC _ _ _;refine iC.nn Aa Aa ?_)|(show CN _ _ _ _ _ _;first|(refine CN.f rfl (aPm _ _ (nu q) n N hN Ah Aa hn2 hn8) (fun v h' hl hr=>?_);rw[<-hX1] at hr;obtain⟨s',rfl,hs'⟩:=hr)|(refine CN.f rfl (aPm _ _ q.den n N hN Ah Aa hn2 hn8) (fun v h' hl hr=>?_);rw[<-hX2] at hr;obtain⟨s',rfl,hs'⟩:=hr)|(refine CN.f rfl (aVx _ _ _ _ r (R Ab Ab).1 ⟨by rw[(R Ab Ab).2.1];exact Ah,by rw[(R Ab Ab).2.2];exact Ab⟩ (hzr Ab Ab)) (fun v h' hl hr=>?_);rw[hout Ab Ab] at hr;obtain⟨e1,e2,rfl,hq'⟩:=Res.two hr))|((first|apply oI.z|apply cI.z))|intro (_:Nat)|(show LdN _ _ _ _ _;first|refine LdN.o 0 rfl rfl ?_|refine LdN.o 1 rfl rfl ?_|refine LdN.o 2 rfl rfl ?_)|refine Ld.o 0 rfl rfl ?_|(show Sto _ _ _ _;first|refine Sto.l 0 rfl rfl rfl ?_|refine Sto.l 1 rfl rfl rfl ?_|refine Sto.l 2 rfl rfl rfl ?_))<;>conv=>whnf)|(show cnd _ _ _;first|(apply aD<;>intro _<;>first|(exfalso;omega)|conv=>whnf)|(refine aI ?_)|(apply aN<;>intro _<;>first|(exfalso;omega)|conv=>whnf)))
 all_goals first
  | (rw[E1 rfl Aa];exact RN.a (uX.err _ _))
  | (rw[E2 (fun hh=>by first|(have:=hh.2;omega)|(have:=hh.1;contradiction)) Ab Ab];exact RN.a ⟨_,_,by rw[Vc.eq_true' rfl]<;>rfl,Ab⟩)
  | (rw[E3 (fun hh=>by first|(have:=hh.2;omega)|(have:=hh.1;contradiction)) (fun hh=>by first|exact absurd hh.1 Ab|exact absurd hh.2 Ab)];exact RN.a (uX.err _ _))
end Go.Proofs.Y
/- The values of trees at values of the variables: plain. -/
namespace Go.Proofs.Y
open Go Go.Vc Go.Dig
def gU(q:Rat):Option Rat:=if fits q then some q else none
def qX(fn:Int)(q:Rat):Option Rat:=
 if fn=1\/fn=4 then (if q=0 then some 1 else none) else if fn=2\/fn=7 then (if q=1 then some 0 else none) else if q=0 then some 0 else none
def unQ(op arg:Int)(q:Rat):Option Rat:=
 if op=4 then gU (-q) else if op=9 then (if arg<0/\q=0 then none else gU (lN q arg)) else if op=12 then gU (gP q)
 else if op=10 then (if (dV q arg.toNat).2 then gU (dV q arg.toNat).1 else none) else qX arg q
def biQ(op:Int)(q r:Rat):Option Rat:=
 if op=5 then gU (q+r) else if op=6 then gU (q-r) else if op=7 then gU (q*r) else if op=8 then (if r=0 then none else gU (q / r))
 else if op=13 then some (if r<q then r else q) else some (if q<r then r else q)
def aPo(op arg:Int):List (Option Rat)->Option Rat
 | [a]=>a.bind (unQ op arg)
 | [a,b]=>a.bind fun x=>b.bind fun y=>biQ op x y
 | [a,y,z]=>a.bind fun c=>if 0<=c then y else z
 | _=>none
mutual
def fM(vals:List (List Nat × Rat)):Tr->Option Rat
 | .mk op arg neg l m name ks=>if op=1 then some (aK neg l m) else if op=2 then lJ vals name else if op=3 then none else aPo op arg (eZ vals ks)
def eZ(vals:List (List Nat × Rat)):List Tr->List (Option Rat)
 | []=>[]
 | t::ts=>fM vals t::eZ vals ts
end
theorem aAp{q r:Rat}(h:q<r)(h':r<q):False:=absurd (Rat.le_of_lt h') (Rat.not_le.2 h)
theorem aAq{q r:Rat}(h:gU q=some r):fits r:=by
 unfold gU at h
 split at h
 .cases h;assumption
 .cases h
theorem fA:fits 1:=by
 have:=pJ 1 Ag Ag;exact this
end Go.Proofs.Y
/- The polynomial form of a tree: plain words. -/
namespace Go.Proofs.Y
open Go Go.Vc Go.Dig
abbrev Pol:Type:=List (Mon × Rat)
def tmL(a b:Pol):Pol:=a.flatMap fun x=>b.map fun y=>(jn x.1 y.1,x.2*y.2)
def plL(a b:Pol)(k:Rat):Pol:=a++b.map fun t=>(t.1,t.2*k)
def aGz(p:Pol):Prop:=200<p.length\/∃t∈p,∃f∈t.1,64<f.2
def aG0(p:Pol):Prop:=∃t∈p,¬fits t.2
instance (p:Pol):Decidable (aGz p):=by unfold aGz;exact inferInstance
instance (p:Pol):Decidable (aG0 p):=by unfold aG0;exact inferInstance
def cN(l:Pol):Except Nat Pol:=if aGz (fP l) then .error 4 else if aG0 (fP l) then .error 1 else .ok (fP l)
def uY(q:Rat):Pol:=if q=0 then [] else [([],q)]
def eK(s:List UInt8):Except Nat Pol:=if 4000<s.length then .error 4 else .ok [([(s,1)],1)]
def fK(b:Tr)(a:Pol):Except Nat Pol:=match a with
 | [([],c)]=>.ok [([],1 / c)]
 | _=>if 4000<(aM b).length then .error 4 else eK (iS++b8 (bG (aM b,cX b.op) 3))
def nJ(a:Pol):Nat->Except Nat Pol
 | 0=>.ok [([],1)]
 | n+1=>match nJ a n with
  | .error e=>.error e
  | .ok o=>cN (tmL o a)
def gO(e:Tr)(op arg:Int)(q:Rat)(rs:List (Tr × Except Nat Pol)):Except Nat Pol:=
 if op=1 then .ok (uY q)
 else if 4<=op/\op<=9 then
  match rs with
  | []=>.error 0
  | (_,.error n)::_=>.error n
  | (k,.ok a)::r=>
   if op=4 then cN (plL [] a (-1))
   else if op=9 then
    if arg<0 then match fK k a with
     | .error n=>.error n
     | .ok c=>nJ c arg.natAbs
    else nJ a arg.natAbs
   else match r with
    | []=>.error 0
    | (_,.error n)::_=>.error n
    | (k',.ok b)::_=>
     if op=5 then cN (plL a b 1)
     else if op=6 then cN (plL a b (-1))
     else if op=7 then cN (tmL a b)
     else match fK k' b with
      | .error n=>.error n
      | .ok c=>cN (tmL a c)
 else eK (b8 (aM e))
mutual
def bT:Tr->Except Nat Pol
 | .mk op arg neg l m name ks=>gO (.mk op arg neg l m name ks) op arg (aK neg l m) (jG ks)
def jG:List Tr->List (Tr × Except Nat Pol)
 | []=>[]
 | t::ts=>(t,bT t)::jG ts
end
structure oV (p:Pol):Prop where
 can:aGs p
 red:∀t∈p,yW t.1
 deg:∀t∈p,∀f∈t.1,f.2<=64
 fit:∀t∈p,fits t.2
 len:p.length<=200
theorem aEv{K V:Type}[dM K][DecidableEq K][Add V][OfNat V 0][gC V][DecidableEq V]{P:K->Prop}{l:List (K × V)}(h:∀t∈l,P t.1):∀t∈fP l,P t.1:=fun t ht=>by
 have h1:∀(k:K) (v:V) (q:List (K × V)),P k->(∀t∈q,P t.1)->∀t∈mO k v q,P t.1:=by
  intro k v q hk
  induction q with
  | nil=>intro _ t ht;unfold mO at ht;rw[aZg] at ht;subst ht;exact hk
  | cons n q ih=>
   intro hq t ht;obtain⟨n,d⟩:=n;unfold mO at ht
   split at ht
   .rcases aZl.1 ht with rfl|ht
    .exact hk
    .exact hq t ht
   .split at ht
    .rcases aZl.1 ht with rfl|ht
     .exact hq (n,d) (aZa ..)
     .exact hq t (aZd _ ht)
    .rcases aZl.1 ht with rfl|ht
     .exact hq (n,d) (aZa ..)
     .exact ih (fun t ht=>hq t (aZd _ ht)) t ht
 have h2:∀t∈sM l,P t.1:=by
  clear ht
  induction l with
  | nil=>intro t ht;exact absurd ht (by simp[sM])
  | cons u l ih=>exact h1 _ _ _ (h u (aZa ..)) (ih fun t ht=>h t (aZd _ ht))
 exact h2 t (List.mem_filter.1 ht).1
theorem aAr{l p:Pol}(h:∀t∈l,yW t.1)(e:cN l=.ok p):oV p:=by
 unfold cN at e
 split at e
 .cases e
 .rename_i h1
  split at e
  .cases e
  .rename_i h2;cases e;refine⟨sN l,aEv h,fun t ht f hf=>?_,fun t ht=>?_,?_⟩
   .exact Nat.le_of_not_lt fun x=>h1 (.inr ⟨t,ht,f,hf,x⟩)
   .exact Decidable.byContradiction fun x=>h2 ⟨t,ht,x⟩
   .exact Nat.le_of_not_lt fun x=>h1 (.inl x)
theorem aVy(a b:Pol):∀t∈tmL a b,yW t.1:=fun t ht=>by
 unfold tmL at ht;obtain⟨x,hx,ht⟩:=List.mem_flatMap.1 ht;obtain⟨y,hy,rfl⟩:=List.mem_map.1 ht;exact aVm _ _
theorem aVz{a b:Pol}(k:Rat)(ha:∀t∈a,yW t.1)(hb:∀t∈b,yW t.1):∀t∈plL a b k,yW t.1:=fun t ht=>by
 unfold plL at ht;rcases aZb.1 ht with ht|ht
 .exact ha t ht
 .obtain⟨y,hy,rfl⟩:=List.mem_map.1 ht;exact hb y hy
/-! the ring -/
end Go.Proofs.Y
/- The value of a monomial at values of its atoms: plain mathematics. -/
namespace Go.Dig
def pr{K:Type}(f:K->Rat)(l:List K):Rat:=l.foldr (fun t s=>f t*s) 1
section
variable {K L:Type}
end
section
variable (al:List UInt8->Rat)
def ph(m:Mon):Rat:=pr (fun t=>al t.1^t.2) m
def pg(t u:Fac):Rat:=if inv t.1=some u.1 then al t.1^min t.2 u.2 else 1
end
end Go.Dig
/- Literals of a tree, on both sides; Has. -/
namespace Go.Proofs.Y
open Go Go.Vc Go.Dig
theorem xZ{arg:Int}{op:Int}{neg:Bool}{l m name:List Nat}{ks:List Tr}(h:op=1):bU (.mk op arg neg l m name ks)=some (aK neg l m):=by
 unfold bU;dsimp only;rw[if_pos h]
theorem yA{arg op:Int}{neg:Bool}{l m name:List Nat}{op0 arg0:Int}{neg0:Bool}{l0 m0 name0:List Nat}{ks0 ks:List Tr}(h:op=4):bU (.mk op arg neg l m name (.mk op0 arg0 neg0 l0 m0 name0 ks0::ks))=if op0=1 then some (-(aK neg0 l0 m0)) else none:=by
 unfold bU;dsimp only;rw[if_neg Aa,if_pos h]
theorem aCl{arg op:Int}{neg:Bool}{l m name:List Nat}{ks:List Tr}(h1:op≠1)(h4:op≠4):bU (.mk op arg neg l m name ks)=none:=by
 unfold bU;dsimp only;rw[if_neg h1,if_neg h4]
theorem aCm{k:Nat}{q:Rat}(h:Sz k q):Sz k (-q):=by
 refine⟨?_,?_⟩
 .have:nu (-q)=nu q:=by unfold nu;rw[Rat.neg_num,Int.natAbs_neg]
  rw[this];exact h.num
 .have:(-q).den=q.den:=bC3 q;rw[this];exact h.den
theorem yB{h:aA}{a b:Sl}{q:Rat}(w:bV h a b q):bV h a b (-q):=by
 refine⟨?_,?_⟩
 .have:nu (-q)=nu q:=by unfold nu;rw[Rat.neg_num,Int.natAbs_neg]
  rw[this];exact w.num
 .have:(-q).den=q.den:=bC3 q;rw[this];exact w.den
theorem LdN.part3{h h':aA}{L:Vc.Own}{bl off o:Nat}{ws:List Value}{x y z:Value}{k:Value->Prop}(hc:∀(i:Nat) v,h.le h'->ws[i]?=some v->Has h' L ⟨bl,off+i,none⟩ v)(hl:h.le h')(h0:ws[o]?=some x)
  (h1:ws[o+1]?=some y) (h2:ws[o+2]?=some z) (hk:k (.agg #[x,y,z])):LdN h' L ⟨bl,off+o,none⟩ 3 k:=
 ⟨[x,y,z],rfl,fun i hi=>by
   rw[aZ,bA6]
   match i,hi with
   | 0,_=>exact hc _ _ hl h0
   | 1,_=>exact hc _ _ hl h1
   | 2,_=>exact hc _ _ hl h2,hk⟩
theorem IsK.kidP{h:aA}{s:Sl}{ts:List Tr}(w:IsK h s ts)(j:Nat)(t:Tr)(ht:ts[j]?=some t):
  ∃(bl off:Nat) (op arg:Int) (neg:Bool) (a b:Sl) (name:List Nat) (s':Sl),IsE h [.int .i64 op,.int .i64 arg,.bool neg,a.val,b.val,.string (txt name),s'.val] t/\
   (∀h' (L:Vc.Own) (i:Nat) v,h.le h'->[.int .i64 op,.int .i64 arg,.bool neg,a.val,b.val,.string (txt name),s'.val][i]?=some v->Has h' L ⟨bl,off+i,none⟩ v)/\
   (∀h' (L:Vc.Own) (k':Value->Prop),h.le h'->k' (.agg #[.bool neg,a.val,b.val])->LdN h' L ⟨bl,off+2,none⟩ 3 k')/\
   ∀(i:Int) (k:Addr->Prop),i=j->k ⟨bl,off,none⟩->Idx s.a i s.l 7 k:=by
 obtain⟨hj,-⟩:=aY5.1 ht;rcases w.mem with e|⟨bl,off,c,T,fz,e1,e2,e3⟩
 .subst e;simp at ht
 .obtain⟨vs,h1,h2,h3⟩:=fL.get e3 ht;obtain⟨op,arg,neg,l,m,name,ks⟩:=t;have h3':=h3;rw[IsE] at h3;obtain⟨a,b,s',rfl,-⟩:=h3;have hc:∀h' (L:Vc.Own) (i:Nat) v,h.le h'->[.int .i64 op,.int .i64 arg,.bool neg,a.val,b.val,.string (txt name),s'.val][i]?=some v->Has h' L ⟨bl,off+j*7+i,none⟩ v:=fun h' L i v hl hv=>by
   have hi7:i<7:=(aY5.1 hv).1;exact Has.imm (hl _ _ e2) (by rw[h2 i hi7,hv])
  exact⟨bl,off+j*7,op,arg,neg,a,b,name,s',h3',hc,fun h' L k' hl hk'=>LdN.part3 (o:=2) (hc h' L) hl rfl rfl rfl hk',fun i k hi hk=>Idx.of j e1 hi (by rw[w.len];exact hj) hk⟩
def aK5(h:aA)(v:Value)(o:Option Rat):Prop:=∃(b:Bool) (c e:Sl) (i:Bool),v=.tuple #[.agg #[.bool b,c.val,e.val],.bool i]/\(i=true->∃q,o=some q/\Sz 64 q/\b=sg q/\bV h c e q)/\(i=false->o=none)
theorem uC(t:Tr)(hok:okG t)(h:aA)(vs:List Value)(tb:Tb h)(w:IsE h vs t):Fn0 T F.q99 [.agg vs.toArray] h fun v h'=>aK5 h' v (bU t):=by
 obtain⟨op,arg,neg,l,m,name,ks⟩:=t;obtain⟨a,b,s,rfl,ho,ha,hv,hb,hk⟩:=w.isK;rw[okG] at hok;obtain⟨hnb,hoks⟩:=hok;have hkl:=hk.len;have hq1:=hnb.2.2.2.2;have c1:=fun h tb hv=>fE h tb neg a b l m hv
 by_cases o4:op=4
 .have hks:=aVs hnb.1 (by rw[o4];rfl);obtain⟨⟨op0,arg0,neg0,l0,m0,name0,ks0⟩,hk0⟩:=AE (ks.getD 0 aL);rw[<-hk0] at hks;subst hks;rw[dN,okG] at hoks;have hq0:=hoks.1.1.2.2.2.2;have r1:=yA (arg:=arg) (neg:=neg) (l:=l) (m:=m) (name:=name) (op0:=op0) (arg0:=arg0) (neg0:=neg0) (l0:=l0) (m0:=m0) (name0:=name0) (ks0:=ks0) (ks:=[]) o4;have c2:=fun h tb a b hv=>fE h tb neg0 a b l0 m0 hv
  obtain⟨R,hR⟩:=AE (bU (.mk op arg neg l m name [.mk op0 arg0 neg0 l0 m0 name0 ks0]));rw[<-hR] at r1 ⊢;have hks1:([.mk op0 arg0 neg0 l0 m0 name0 ks0]:List Tr).length=1:=rfl;rw[hks1] at hkl;refine f0C ok D.q99 rfl ?_;conv=>whnf
  repeat' first|((first|(apply aO.go)|(show LdN _ _ _ _ _;((first|refine LdN.oA 0 rfl rfl ?_|refine LdN.oA 1 rfl rfl ?_|refine LdN.oA 2 rfl rfl ?_)))|(show Idx _ _ _ _ _;(refine Idx.kid hk 0 _ rfl rfl (fun ad op2 arg2 neg2 a2 b2 name2 s2 hE hld=>?_);obtain⟨rfl,rfl,rfl,hv2,hnm2,hb2,hk2⟩:=IsE.inv hE))|refine hld _ _ _ (aA.lr _) ?_|((first|apply oI.z|apply cI.z))|intro (_:Nat)|(show CN _ _ _ _ _ _;first|(refine CN.f rfl (c2 _ Ab _ _ hv2) (fun v h' hl2 hr=>?_);obtain⟨sb,cc,dd,rfl,hrr⟩:=hr;obtain⟨rfl,hfr⟩:=hrr (by rw[if_pos Ab] at hq0;exact hq0.1))|(refine CN.quiet rfl (kC _ _ _ _ Ab ((okR.sz (by rw[if_pos Ab] at hq0;exact hq0.1)).mono Ag)) ?_))|refine Ld.o 1 rfl rfl ?_|(show Sto _ _ _ _;first|refine Sto.l 0 rfl rfl rfl ?_|refine Sto.l 1 rfl rfl rfl ?_))<;>conv=>whnf)|(show cnd _ _ _;first|(apply aD<;>intro _<;>first|(exfalso;omega)|conv=>whnf)|(refine aI ?_))
  .have hq00:=hq0;rw[if_pos Ab] at hq00;refine RN.a (R:=fun v h'=>aK5 h' v R) ?_
   exact⟨_,cc,dd,true,rfl,fun _=>⟨_,by rw[r1,if_pos Ab],aCm (okR.sz hq00.1),rfl,yB (hfr)⟩,fun x=>by cases x⟩
  .refine RN.a ⟨_,⟨none,0,0⟩,⟨none,0,0⟩,false,rfl,(fun x=>by cases x),fun _=>by rw[r1,if_neg Ab]⟩
 .have r1:op=1->bU (.mk op arg neg l m name ks)=some (aK neg l m):=xZ;have r2:¬op=1->bU (.mk op arg neg l m name ks)=none:=fun x=>aCl x o4
  obtain⟨R,hR⟩:=AE (bU (.mk op arg neg l m name ks));rw[<-hR] at r1 r2 ⊢;refine f0C ok D.q99 rfl ?_;conv=>whnf
  repeat' first|((first|(apply aO.go)|(show LdN _ _ _ _ _;((first|refine LdN.oA 0 rfl rfl ?_|refine LdN.oA 1 rfl rfl ?_|refine LdN.oA 2 rfl rfl ?_)))|(show CN _ _ _ _ _ _;(refine CN.f rfl (c1 _ Ab Ab) (fun v h' hl2 hr=>?_);obtain⟨sb,cc,dd,rfl,hrr⟩:=hr;obtain⟨rfl,hfr⟩:=hrr (by rw[if_pos Ab] at hq1;exact hq1.1)))|((first|apply oI.z|apply cI.z))|intro (_:Nat)|refine Ld.o 1 rfl rfl ?_|(show Sto _ _ _ _;first|refine Sto.l 0 rfl rfl rfl ?_|refine Sto.l 1 rfl rfl rfl ?_))<;>conv=>whnf)|(show cnd _ _ _;first|(apply aD<;>intro _<;>first|(exfalso;omega)|conv=>whnf)|(refine aI ?_))
  .have hq00:=hq1;rw[if_pos Ab] at hq00;refine RN.a ⟨_,_,_,true,rfl,fun _=>⟨_,r1 Ab,okR.sz hq00.1,rfl,Ab⟩,fun x=>by cases x⟩
  .refine RN.a ⟨_,⟨none,0,0⟩,⟨none,0,0⟩,false,rfl,(fun x=>by cases x),fun _=>r2 Ab⟩
end Go.Proofs.Y
/- Simplify: plain. -/
namespace Go.Proofs.Y
open Go Go.Vc Go.Dig
def numQ(q:Rat):Tr:=.mk 1 0 (sg q) (dg 4294967296 (nu q)) (dg 4294967296 (dn q)) [] []
def mkL(q:Rat):Tr:=if q<0 then aH 4 0 [numQ (-q)] else numQ q
def jL:Tr->Prop
 | .mk op _ _ _ _ _ _=>op=4
instance (t:Tr):Decidable (jL t):=by cases t;unfold jL;exact inferInstance
def zA:Tr->Tr
 | .mk _ _ _ _ _ _ (k::_)=>k
 | t=>t
def oH(e a:Tr):Tr:=match bU a with
 | some v=>mkL (-v)
 | none=>if jL a then zA a else e
def yC(op:Int)(x y:Rat):Option Rat:=if op=5 then gU (x+y) else if op=6 then gU (x-y) else if op=7 then gU (x*y) else if y=0 then none else gU (x / y)
def kI(op:Int)(a b:Tr):Option Rat:=(bU a).bind fun x=>(bU b).bind fun y=>yC op x y
def zB(e a b:Tr):Tr:=if bU a=some 0 then b else if bU b=some 0 then a else if jL b then aH 6 0 [a,zA b] else e
def zC(e a b:Tr):Tr:=if bU b=some 0 then a else if bU a=some 0 then oH (aH 4 0 [b]) b else if jL b then aH 5 0 [a,zA b] else e
def uZ(e a b:Tr):Tr:=if bU a=some 0\/bU b=some 0 then mkL 0 else if bU a=some 1 then b else if bU b=some 1 then a else if bU a=some (-1) then oH (aH 4 0 [b]) b else e
def aTm(e a b:Tr):Tr:=if bU a=some 0 then mkL 0 else if bU b=some 1 then a else e
def lR(e:Tr)(op:Int)(a b:Tr):Tr:=match kI op a b with
 | some q=>mkL q
 | none=>if op=5 then zB e a b else if op=6 then zC e a b else if op=7 then uZ e a b else aTm e a b
def uD(arg:Int)(a:Tr):Option Rat:=(bU a).bind fun x=>if arg<0/\x=0 then none else gU (lN x arg)
def pU(e:Tr)(arg:Int)(a:Tr):Tr:=match uD arg a with
 | some q=>mkL q
 | none=>if arg=0 then mkL 1 else if arg=1 then a else e
def sW(op arg:Int)(e:Tr):List Tr->Tr
 | [a]=>if op=4 then oH e a else if op=9 then pU e arg a else e
 | [a,b]=>if op=5\/op=6\/op=7\/op=8 then lR e op a b else e
 | _=>e
mutual
def fN:Tr->Tr
 | .mk op arg neg l m name ks=>sW op arg (.mk op arg neg l m name (dB ks)) (dB ks)
def dB:List Tr->List Tr
 | []=>[]
 | t::ts=>fN t::dB ts
end
theorem qP:∀ts:List Tr,(dB ts).length=ts.length
 | []=>rfl
 | t::ts=>by rw[dB,aY6,aY6,qP ts]
theorem sX:∀(a b:List Tr),dB (a++b)=dB a++dB b
 | [],b=>by rw[bAi,dB,bAi]
 | t::a,b=>by rw[bAk,dB,dB,sX a b,bAk]
/-! nodes that are right, and their sizes -/
theorem aIz{d:Nat}{q:Rat}(hd:d<=30)(h0:0<=q)(hf:fits q):okT d (numQ q):=by
 unfold numQ;rw[okT,bZ];refine⟨hd,⟨rfl,Ag,Ag,rfl,?_⟩,trivial⟩;rw[if_pos rfl];exact⟨aM4 hf,by rw[wY];exact h0⟩
theorem nK{q:Rat}(h:fits q):fits (-q):=⟨by rw[tS];exact h.1,by rw[bC3];exact h.2⟩
mutual
theorem uE{d d':Nat}(hd:d<=d'):∀{t:Tr},okT d' t->okT d t
 | .mk op arg neg l m name ks,h=>by
  rw[okT] at h ⊢;exact⟨aZr hd h.1,h.2.1,aI0 (Nat.add_le_add_right hd 1) h.2.2⟩
theorem aI0{d d':Nat}(hd:d<=d'):∀{ts:List Tr},bZ d' ts->bZ d ts
 | [],_=>by rw[bZ];trivial
 | t::ts,h=>by
  rw[bZ] at h ⊢;exact⟨uE hd h.1,aI0 hd h.2⟩
end
theorem aEw{d:Nat}:∀{t:Tr},okT d t->d<=30
 | .mk op arg neg l m name ks,h=>by rw[okT] at h;exact h.1
theorem aEx{d:Nat}{op arg:Int}{a:Tr}(hk:aV op=1)(h1:jO op<=arg)(h2:arg<=fJ op)(h:okT (d+1) a):okT d (aH op arg [a]):=by
 have hd:=aEw h;have hop:op≠2/\op≠1:=⟨fun e=>by rw[e] at hk;exact absurd hk Ag,fun e=>by rw[e] at hk;exact absurd hk Ag⟩
 unfold aH;rw[okT,bZ,bZ];refine⟨Aa,⟨hk.symm,h1,h2,?_,?_⟩,h,trivial⟩
 .rw[if_neg hop.1]
 .rw[if_neg hop.2];simp[bD]
theorem aPp{d:Nat}{op:Int}{a b:Tr}(hk:aV op=2)(h1:jO op=0)(h2:fJ op=0)(h:okT (d+1) a)(h':okT (d+1) b):okT d (aH op 0 [a,b]):=by
 have hd:=aEw h;have hop:op≠2/\op≠1:=⟨fun e=>by rw[e] at hk;exact absurd hk Ag,fun e=>by rw[e] at hk;exact absurd hk Ag⟩
 unfold aH;rw[okT,bZ,bZ,bZ];refine⟨Aa,⟨hk.symm,Aa,Aa,?_,?_⟩,h,h',trivial⟩
 .rw[if_neg hop.1]
 .rw[if_neg hop.2];simp[bD]
theorem aCn{d:Nat}{q:Rat}(hd:d+1<=30)(hf:fits q):okT d (mkL q):=by
 unfold mkL
 split
 .rename_i h;refine aEx Ag Ag Ag (aIz hd ?_ (nK hf));have:=Rat.neg_lt_neg h;rw[Rat.neg_zero] at this;exact Rat.le_of_lt this
 .rename_i h;exact aIz Aa (Rat.not_lt.1 h) hf
theorem aG1(q:Rat):szT (mkL q)<=2:=by
 unfold mkL
 split
 .unfold aH numQ;simp[szT,dA]
 .unfold numQ;simp[szT,dA]
theorem aK6{d:Nat}{a:Tr}{v:Rat}(h:okT d a)(e:bU a=some v):fits v:=by
 obtain⟨op,arg,neg,l,m,name,ks⟩:=a;rw[okT] at h;by_cases e1:op=1
 .rw[xZ e1] at e;cases e;have hn:=h.2.1.2.2.2.2;rw[if_pos e1] at hn;exact hn.1.2.2
 by_cases e4:op=4
 .match ks,h,e with
  | .mk o a n l' m' nm ks'::us,h,e=>
   rw[yA e4] at e
   split at e
   .rename_i e1;cases e;have h2:=h.2.2;rw[bZ,okT] at h2;have hn:=h2.1.2.1.2.2.2.2;rw[if_pos e1] at hn;exact nK hn.1.2.2
   .cases e
  | [],h,e=>
   have:=h.2.1.1;rw[e4] at this;exact absurd this Ag
 .rw[aCl e1 e4] at e;cases e
theorem aAs{d:Nat}{a:Tr}(h:okT d a)(e:jL a):∃k neg l m name arg,a=.mk 4 arg neg l m name [k]/\zA a=k/\okT (d+1) k/\szT a=1+szT k:=by
 obtain⟨op,arg,neg,l,m,name,ks⟩:=a;rw[okT] at h;have e1:op=4:=e;subst e1;have hl:=h.2.1.1
 match ks,hl,h with
 | [k],_,h=>
  rw[bZ] at h;exact⟨k,neg,l,m,name,arg,rfl,rfl,h.2.2.1,by simp[szT,dA]⟩
 | [],hl,_=>exact absurd hl Ag
 | _::_::us,hl,_=>
  have:aV 4=1:=Ag;rw[this] at hl;simp at hl;omega
def Fit(d n:Nat)(t:Tr):Prop:=okT d t/\szT t<=n
theorem aEy{d:Nat}{e a:Tr}(he:okT d e)(hz:szT e=1+szT a)(ha:okT (d+1) a):Fit d (szT e) (oH e a):=by
 have hp:=sI a;unfold oH
 split
 .rename_i v hv;have:=aG1 (-v);exact⟨aCn (aEw ha) (nK (aK6 ha hv)),Aa⟩
 .split
  .rename_i hn;obtain⟨k,-,-,-,-,-,-,e1,e2,e3⟩:=aAs ha hn;rw[e1];exact⟨uE Aa e2,Aa⟩
  .exact⟨he,aZt _⟩
theorem aG2{op:Int}{x y r:Rat}(h:yC op x y=some r):fits r:=by
 unfold yC at h
 repeat' split at h
 all_goals first
  | (cases h;done)
  | exact aAq h
theorem yD{op:Int}{a b:Tr}{r:Rat}(h:kI op a b=some r):fits r:=by
 obtain⟨x,-,h⟩:=Option.bind_eq_some_iff.1 h;obtain⟨y,-,h⟩:=Option.bind_eq_some_iff.1 h;exact aG2 h
theorem aAt{arg:Int}{a:Tr}{r:Rat}(h:uD arg a=some r):fits r:=by
 obtain⟨x,-,h⟩:=Option.bind_eq_some_iff.1 h
 split at h
 .cases h
 .exact aAq h
theorem aPq{d:Nat}{e a b:Tr}(op:Int)(he:okT d e)(hz:szT e=1+(szT a+szT b))(ha:okT (d+1) a)(hb:okT (d+1) b):Fit d (szT e) (lR e op a b):=by
 have h1:=sI a;have h2:=sI b;have hd:=aEw ha;have lit:∀q,fits q->Fit d (szT e) (mkL q):=fun q hq=>by
  have:=aG1 q;exact⟨aCn hd hq,Aa⟩
 have fa:Fit d (szT e) a:=⟨uE Aa ha,Aa⟩;have fb:Fit d (szT e) b:=⟨uE Aa hb,Aa⟩;have fe:Fit d (szT e) e:=⟨he,aZt _⟩;have fn:Fit d (szT e) (oH (aH 4 0 [b]) b):=by
  have e1:szT (aH 4 0 [b])=1+szT b:=by unfold aH;simp[szT,dA]
  have:=aEy (aEx (d:=d) (op:=4) (arg:=0) Ag Ag Ag hb) e1 hb;exact⟨this.1,aZr this.2 Aa⟩
 have fk:∀o,aV o=2->jO o=0->fJ o=0->jL b->Fit d (szT e) (aH o 0 [a,zA b]):=fun o k1 k2 k3 hn=>by
  obtain⟨k,-,-,-,-,-,-,e1,e2,e3⟩:=aAs hb hn;rw[e1];refine⟨aPp k1 k2 k3 ha (uE Aa e2),?_⟩;unfold aH;simp only[szT,dA];omega
 unfold lR
 split
 .exact lit _ (yD Ab)
 split
 .unfold zB
  repeat' split
  .exact fb
  .exact fa
  .exact fk 6 Ag Ag Ag Ab
  .exact fe
 split
 .unfold zC
  repeat' split
  .exact fa
  .exact fn
  .exact fk 5 Ag Ag Ag Ab
  .exact fe
 split
 .unfold uZ
  repeat' split
  .exact lit _ eD
  .exact fb
  .exact fa
  .exact fn
  .exact fe
 .unfold aTm
  repeat' split
  .exact lit _ eD
  .exact fa
  .exact fe
theorem aPr{d:Nat}{e a:Tr}(arg:Int)(he:okT d e)(hz:szT e=1+szT a)(ha:okT (d+1) a):Fit d (szT e) (pU e arg a):=by
 have h1:=sI a;have hd:=aEw ha;have lit:∀q,fits q->Fit d (szT e) (mkL q):=fun q hq=>by
  have:=aG1 q;exact⟨aCn hd hq,Aa⟩
 unfold pU
 split
 .exact lit _ (aAt Ab)
 .repeat' split
  .exact lit _ fA
  .exact⟨uE Aa ha,Aa⟩
  .exact⟨he,aZt _⟩
theorem aK7{d:Nat}{op arg:Int}{neg:Bool}{l m name:List Nat}{ks:List Tr}(h:okT d (.mk op arg neg l m name ks)):Fit d (szT (.mk op arg neg l m name ks)) (sW op arg (.mk op arg neg l m name ks) ks):=by
 have h':=h;rw[okT] at h';have h2:=h'.2.2
 match ks,h,h2 with
 | [a],h,h2=>
  rw[bZ] at h2;have hz:szT (.mk op arg neg l m name [a])=1+szT a:=by simp[szT,dA]
  rw[sW]
  repeat' split
  .exact aEy h hz h2.1
  .exact aPr _ h hz h2.1
  .exact⟨h,aZt _⟩
 | [a,b],h,h2=>
  rw[bZ,bZ] at h2;have hz:szT (.mk op arg neg l m name [a,b])=1+(szT a+szT b):=by simp[szT,dA]
  rw[sW]
  split
  .exact aPq op h hz h2.1 h2.2.1
  .exact⟨h,aZt _⟩
 | [],h,_=>exact⟨h,aZt _⟩
 | _::_::_::_,h,_=>exact⟨h,aZt _⟩
mutual
theorem yE{d:Nat}:∀{t:Tr},okT d t->Fit d (szT t) (fN t)
 | .mk op arg neg l m name ks,h=>by
  rw[okT] at h;obtain⟨g1,g2⟩:=aAu h.2.2;have hk:okT d (.mk op arg neg l m name (dB ks)):=by
   rw[okT];exact⟨h.1,by rw[qP];exact h.2.1,g1⟩
  have:=aK7 hk;rw[fN];refine⟨this.1,aZr this.2 ?_⟩;rw[szT,szT];omega
theorem aAu{d:Nat}:∀{ts:List Tr},bZ d ts->bZ d (dB ts)/\dA (dB ts)<=dA ts
 | [],_=>by rw[dB,bZ];exact⟨trivial,aZt _⟩
 | t::ts,h=>by
  rw[bZ] at h;have h1:=yE h.1;have h2:=aAu h.2;rw[dB,bZ,dA,dA];exact⟨⟨h1.1,h2.1⟩,Nat.add_le_add h1.2 h2.2⟩
end
theorem aPs{t:Tr}(h:aS t):aS (fN t):=⟨(yE h.1).1,aZr (yE h.1).2 h.2⟩
theorem aEz{q:Rat}(h:0<=q):gP q=q:=by
 unfold gP;have e:sg q=false:=by
  unfold sg;exact decide_eq_false (by have:=Rat.num_nonneg.2 h;omega)
 rw[<-e];exact aDj q
theorem aPt{q:Rat}(h:¬0<=q):gP q=-q:=by
 have h1:0<=-q:=by
  have:=Rat.neg_lt_neg (Rat.not_le.1 h);rw[Rat.neg_zero] at this;exact Rat.le_of_lt this
 rw[<-aEz h1];unfold gP;rw[tS,bC3]
end Go.Proofs.Y
/- A tree keeps its value when it is simplified: plain. -/
namespace Go.Proofs.Y
open Go Go.Vc Go.Dig
section
variable {vals:List (List Nat × Rat)} (hv:∀b∈vals,fits b.2)
include hv
end
end Go.Proofs.Y
/- A form has the value of its tree: plain mathematics. -/
namespace Go.Proofs.Y
open Go Go.Vc Go.Dig
theorem aX2{ks:List Tr}{n:Int}(h:(ks.length:Int)=n)(hn:n=1):∃k,ks=[k]:=by
 match ks,h with
 | [k],_=>exact⟨k,rfl⟩
 | [],h=>simp at h;omega
 | _::_::r,h=>simp at h;omega
theorem aYs{ks:List Tr}{n:Int}(h:(ks.length:Int)=n)(hn:n=2):∃a b,ks=[a,b]:=by
 match ks,h with
 | [a,b],_=>exact⟨a,b,rfl⟩
 | [_],h=>simp at h;omega
 | [],h=>simp at h;omega
 | _::_::_::r,h=>simp at h;omega
end Go.Proofs.Y
/- The tokens of the text of a tree: plain. -/
namespace Go.Proofs.Y
open Go Go.Vc Go.Dig
def kt(t:Tk):Nat × List Nat:=(t.kind,t.text)
/-! numbers -/
/-! the tokens of a tree -/
end Go.Proofs.Y
/- The text of a tree, parsed: plain. -/
namespace Go.Dig
end Go.Dig
namespace Go.Proofs.Y
open Go Go.Vc Go.Dig
section
variable (ts:List Tk)
end
section
variable {ts:List Tk}
/-! tokens from a place on -/
/-! counts that are in range -/
/-! the tree that is read back -/
end
section
variable (ts:List Tk)
end
section
variable {ts:List Tk}
end
end Go.Proofs.Y
/- Simplify, plain, of trees of any depth. -/
namespace Go.Proofs.Y
open Go Go.Vc Go.Dig
theorem jR{a:Tr}{v:Rat}(h:okG a)(e:bU a=some v):fits v:=by
 obtain⟨op,arg,neg,l,m,name,ks⟩:=a;rw[okG] at h;by_cases e1:op=1
 .rw[xZ e1] at e;cases e;have hn:=h.1.2.2.2.2;rw[if_pos e1] at hn;exact hn.1.2.2
 by_cases e4:op=4
 .match ks,h,e with
  | .mk o a n l' m' nm ks'::us,h,e=>
   rw[yA e4] at e
   split at e
   .rename_i e1;cases e;have h2:=h.2;rw[dN,okG] at h2;have hn:=h2.1.1.2.2.2.2;rw[if_pos e1] at hn;exact nK hn.1.2.2
   .cases e
  | [],h,e=>
   have:=h.1.1;rw[e4] at this;exact absurd this Ag
 .rw[aCl e1 e4] at e;cases e
theorem lL{a:Tr}(h:okG a)(e:jL a):∃k neg l m name arg,a=.mk 4 arg neg l m name [k]/\zA a=k/\okG k:=by
 obtain⟨op,arg,neg,l,m,name,ks⟩:=a;rw[okG] at h;have e1:op=4:=e;subst e1;have hl:=h.1.1
 match ks,hl,h with
 | [k],_,h=>
  rw[dN] at h;exact⟨k,neg,l,m,name,arg,rfl,rfl,h.2.1⟩
 | [],hl,_=>exact absurd hl Ag
 | _::_::us,hl,_=>
  have:aV 4=1:=Ag;rw[this] at hl;simp at hl;omega
theorem jH{op arg:Int}{a:Tr}(hk:aV op=1)(h1:jO op<=arg)(h2:arg<=fJ op)(h:okG a):okG (aH op arg [a]):=by
 have hop:op≠2/\op≠1:=⟨fun e=>by rw[e] at hk;exact absurd hk Ag,fun e=>by rw[e] at hk;exact absurd hk Ag⟩
 unfold aH;rw[okG,dN,dN];refine⟨⟨hk.symm,h1,h2,?_,?_⟩,h,trivial⟩
 .rw[if_neg hop.1]
 .rw[if_neg hop.2];simp[bD]
theorem fG{op:Int}{a b:Tr}(hk:aV op=2)(h1:jO op=0)(h2:fJ op=0)(h:okG a)(h':okG b):okG (aH op 0 [a,b]):=by
 have hop:op≠2/\op≠1:=⟨fun e=>by rw[e] at hk;exact absurd hk Ag,fun e=>by rw[e] at hk;exact absurd hk Ag⟩
 unfold aH;rw[okG,dN,dN,dN];refine⟨⟨hk.symm,Aa,Aa,?_,?_⟩,h,h',trivial⟩
 .rw[if_neg hop.1]
 .rw[if_neg hop.2];simp[bD]
theorem nL{q:Rat}(hf:fits q):okG (mkL q):=xV (d:=0) (aCn Ag hf)
theorem aPu{e a:Tr}(he:okG e)(ha:okG a):okG (oH e a):=by
 unfold oH
 split
 .exact nL (nK (jR ha Ab))
 .split
  .obtain⟨k,-,-,-,-,-,-,e1,e2⟩:=lL ha Ab;rw[e1];exact e2
  .exact he
theorem aV0{e a b:Tr}(op:Int)(he:okG e)(ha:okG a)(hb:okG b):okG (lR e op a b):=by
 have fn:okG (oH (aH 4 0 [b]) b):=aPu (jH Ag Ag Ag hb) hb;have fk:∀o,aV o=2->jO o=0->fJ o=0->jL b->okG (aH o 0 [a,zA b]):=fun o k1 k2 k3 hn=>by
  obtain⟨k,-,-,-,-,-,-,e1,e2⟩:=lL hb hn;rw[e1];exact fG k1 k2 k3 ha e2
 unfold lR
 split
 .exact nL (yD Ab)
 split
 .unfold zB
  repeat' split
  .exact hb
  .exact ha
  .exact fk 6 Ag Ag Ag Ab
  .exact he
 split
 .unfold zC
  repeat' split
  .exact ha
  .exact fn
  .exact fk 5 Ag Ag Ag Ab
  .exact he
 split
 .unfold uZ
  repeat' split
  .exact nL eD
  .exact hb
  .exact ha
  .exact fn
  .exact he
 .unfold aTm
  repeat' split
  .exact nL eD
  .exact ha
  .exact he
theorem aV1{e a:Tr}(arg:Int)(he:okG e)(ha:okG a):okG (pU e arg a):=by
 unfold pU
 split
 .exact nL (aAt Ab)
 .repeat' split
  .exact nL fA
  .exact ha
  .exact he
theorem aTn{op arg:Int}{e:Tr}{ks:List Tr}(he:okG e)(hk:dN ks):okG (sW op arg e ks):=by
 match ks,hk with
 | [a],hk=>
  rw[dN] at hk;rw[sW]
  repeat' split
  .exact aPu he hk.1
  .exact aV1 _ he hk.1
  .exact he
 | [a,b],hk=>
  rw[dN,dN] at hk;rw[sW]
  split
  .exact aV0 op he hk.1 hk.2.1
  .exact he
 | [],_=>exact he
 | _::_::_::_,_=>exact he
mutual
theorem yF:∀{t:Tr},okG t->okG (fN t)
 | .mk op arg neg l m name ks,h=>by
  rw[okG] at h;have g:=aI1 h.2;rw[fN];refine aTn ?_ g;rw[okG];exact⟨by rw[qP];exact h.1,g⟩
theorem aI1:∀{ts:List Tr},dN ts->dN (dB ts)
 | [],_=>by rw[dB,dN];trivial
 | t::ts,h=>by
  rw[dN] at h;rw[dB,dN];exact⟨yF h.1,aI1 h.2⟩
end
end Go.Proofs.Y
/- Derivatives: plain. -/
namespace Go.Proofs.Y
open Go Go.Vc Go.Dig
/-! trees with equal pR -/
/-! the derivative: `g` tells how a node stands for itself -/
def aK8(e:Tr)(arg:Int)(a da:Tr):Tr:=if arg=0 then mkL 0 else aH 7 0 [aH 7 0 [mkL (arg:Rat),if -32<arg then aH 9 (arg-1) [a] else aH 8 0 [e,a]],da]
def aX3(e:Tr)(arg:Int)(da:Tr):Tr:=aH 8 0 [da,aH 7 0 [mkL (arg:Rat),aH 9 (arg-1) [e]]]
def aK9(a:Tr):Tr:=aH 10 2 [aH 6 0 [mkL 1,aH 9 2 [a]]]
def mG(e:Tr)(arg:Int)(a da:Tr):Tr:=
 if arg=1 then aH 7 0 [e,da] else if arg=2 then aH 8 0 [da,a] else if arg=3 then aH 7 0 [aH 11 4 [a],da]
 else if arg=4 then aH 4 0 [aH 7 0 [aH 11 3 [a],da]] else if arg=5 then aH 7 0 [aH 5 0 [mkL 1,aH 9 2 [e]],da]
 else if arg=6 then aH 8 0 [da,aK9 a] else if arg=7 then aH 4 0 [aH 8 0 [da,aK9 a]] else aH 8 0 [da,aH 5 0 [mkL 1,aH 9 2 [a]]]
def aV2(op:Int)(a b da db:Tr):Tr:=
 if op=5\/op=6 then aH op 0 [da,db] else if op=7 then aH 5 0 [aH 7 0 [da,b],aH 7 0 [a,db]]
 else aH 8 0 [aH 6 0 [aH 7 0 [da,b],aH 7 0 [a,db]],aH 9 2 [b]]
def pV(e:Tr)(op arg:Int):List Tr->List Tr->Tr
 | [a],[da]=>if op=4 then aH 4 0 [da] else if op=9 then aK8 e arg a da else if op=10 then aX3 e arg da else mG e arg a da
 | [a,b],[da,db]=>aV2 op a b da db
 | _,_=>aL
mutual
def iE(g:Tr->Tr)(nm:List Nat):Tr->Tr
 | .mk op arg neg l m name ks=>if op=1\/op=3 then mkL 0 else if op=2 then (if name=nm then mkL 1 else mkL 0) else pV (g (.mk op arg neg l m name ks)) op arg ks (dL g nm ks)
def dL(g:Tr->Tr)(nm:List Nat):List Tr->List Tr
 | []=>[]
 | t::ts=>iE g nm t::dL g nm ts
end
def bare:Tr->Tr
 | .mk op arg _ _ _ _ ks=>aH op arg ks
mutual
def smT:Tr->Prop
 | .mk op _ _ _ _ _ ks=>¬dU op/\oJ ks
def oJ:List Tr->Prop
 | []=>True
 | t::ts=>smT t/\oJ ts
end
mutual
theorem aPv:∀{t:Tr},(∀x∈gD t,¬dU x.1)->smT t
 | .mk op arg neg l m name ks,h=>by
  rw[gD] at h;rw[smT];exact⟨h _ (aZa ..),aI2 fun x hx=>h x (aZd _ hx)⟩
theorem aI2:∀{ts:List Tr},(∀x∈dF ts,¬dU x.1)->oJ ts
 | [],_=>by rw[oJ];trivial
 | t::ts,h=>by
  rw[dF] at h;rw[oJ];exact⟨aPv fun x hx=>h x (aZv _ hx),aI2 fun x hx=>h x (aZw _ hx)⟩
end
theorem aI3{t:Tr}(h:dO t=none):smT t:=aPv (uB.1 h)
theorem aE0{op arg:Int}{neg:Bool}{l m name:List Nat}{n:Nat}(h:dW op arg neg l m name n)(s:¬dU op):
  op=1\/op=2\/op=3\/((op=4\/op=9\/op=10\/op=11)/\n=1)\/((op=5\/op=6\/op=7\/op=8)/\n=2):=by
 have h1:=h.1;unfold dU at s;unfold aV at h1
 repeat' split at h1
 all_goals omega
theorem aUp{n:Int}(h1:-4294967296<n)(h2:n<4294967296):okG (mkL (n:Rat)):=nL (pJ n Aa Aa)
theorem aE1{op arg:Int}{neg:Bool}{l m name:List Nat}{ks:List Tr}(h:okG (.mk op arg neg l m name ks)):dN ks:=by rw[okG] at h;exact h.2
theorem aV3{e a da:Tr}{arg:Int}(h1:-32<=arg)(h2:arg<=32)(he:okG e)(ha:okG a)(hd:okG da):okG (aK8 e arg a da):=by
 unfold aK8
 split
 .exact nL eD
 .refine fG Ag Ag Ag (fG Ag Ag Ag (aUp Aa Aa) ?_) hd
  split
  .exact jH Ag (by rw[show jO 9=-32 by decide];omega) (by rw[show fJ 9=32 by decide];omega) ha
  .exact fG Ag Ag Ag he ha
theorem aPw{a:Tr}(ha:okG a):okG (aK9 a):=jH Ag Ag Ag (fG Ag Ag Ag (nL fA) (jH Ag Ag Ag ha))
theorem aTo{e a da:Tr}{arg:Int}(he:okG e)(ha:okG a)(hd:okG da):okG (mG e arg a da):=by
 have h1:okG (mkL 1):=nL fA;have hs:∀{x:Tr},okG x->okG (aH 9 2 [x]):=fun h=>jH Ag Ag Ag h
 have h7:∀{x y:Tr},okG x->okG y->okG (aH 7 0 [x,y]):=fun h h'=>fG Ag Ag Ag h h'
 have h8:∀{x y:Tr},okG x->okG y->okG (aH 8 0 [x,y]):=fun h h'=>fG Ag Ag Ag h h'
 have h5:∀{x y:Tr},okG x->okG y->okG (aH 5 0 [x,y]):=fun h h'=>fG Ag Ag Ag h h'
 have h4:∀{x:Tr},okG x->okG (aH 4 0 [x]):=fun h=>jH Ag Ag Ag h
 unfold mG
 repeat' split
 .exact h7 he hd
 .exact h8 hd ha
 .exact h7 (jH Ag Ag Ag ha) hd
 .exact h4 (h7 (jH Ag Ag Ag ha) hd)
 .exact h7 (h5 h1 (hs he)) hd
 .exact h8 hd (aPw ha)
 .exact h4 (h8 hd (aPw ha))
 .exact h8 hd (h5 h1 (hs ha))
theorem aV4{op:Int}{a b da db:Tr}(ha:okG a)(hb:okG b)(hd:okG da)(hd':okG db):okG (aV2 op a b da db):=by
 have h7:∀{x y:Tr},okG x->okG y->okG (aH 7 0 [x,y]):=fun h h'=>fG Ag Ag Ag h h'
 unfold aV2
 split
 .rename_i h;rcases h with rfl|rfl
  .exact fG Ag Ag Ag hd hd'
  .exact fG Ag Ag Ag hd hd'
 split
 .exact fG Ag Ag Ag (h7 hd hb) (h7 ha hd')
 .exact fG Ag Ag Ag (fG Ag Ag Ag (h7 hd hb) (h7 ha hd')) (jH Ag Ag Ag hb)
mutual
theorem aPx{g:Tr->Tr}(hg:∀(op arg:Int) (neg:Bool) (l m name:List Nat) (ks:List Tr),op≠1->op≠2->okG (.mk op arg neg l m name ks)->okG (g (.mk op arg neg l m name ks)))(nm:List Nat):∀{t:Tr},okG t->smT t->okG (iE g nm t)
 | .mk op arg neg l m name ks,h,hs=>by
  have hk:=aI4 hg nm (aE1 h);have hks:=aE1 h;rw[smT] at hs;replace hk:=hk hs.2;have hn:=h;rw[okG] at hn;have kn:=aE0 hn.1 hs.1;rw[iE]
  split
  .exact nL eD
  rename_i h1
  split
  .split
   .exact nL fA
   .exact nL eD
  rename_i h2;have he:=hg op arg neg l m name ks Aa h2 h
  match ks,hk,hks,kn with
  | [a],hk,hks,kn=>
   rw[dL,dL,dN] at hk;rw[dN] at hks;rw[dL,dL,pV]
   split
   .exact jH Ag Ag Ag hk.1
   split
   .rename_i h9;have n1:=hn.1.2.1;have n2:=hn.1.2.2.1;rw[h9] at n1 n2;rw[show jO 9=-32 by decide] at n1
    rw[show fJ 9=32 by decide] at n2
    exact aV3 n1 n2 he hks.1 hk.1
   split
   .rename_i h10;have n1:=hn.1.2.1;have n2:=hn.1.2.2.1;rw[h10] at n1 n2;rw[show jO 10=2 by decide] at n1
    rw[show fJ 10=8 by decide] at n2
    exact fG Ag Ag Ag hk.1 (fG Ag Ag Ag (aUp Aa Aa) (jH Ag (by rw[show jO 9=-32 by decide];omega) (by rw[show fJ 9=32 by decide];omega) he))
   .exact aTo he hks.1 hk.1
  | [a,b],hk,hks,kn=>
   rw[dL,dL,dL,dN,dN] at hk;rw[dN,dN] at hks;rw[dL,dL,dL,pV];exact aV4 hks.1 hks.2.1 hk.1 hk.2.1
  | [],hk,hks,kn=>simp at kn;omega
  | _::_::_::_,hk,hks,kn=>simp at kn;omega
theorem aI4{g:Tr->Tr}(hg:∀(op arg:Int) (neg:Bool) (l m name:List Nat) (ks:List Tr),op≠1->op≠2->okG (.mk op arg neg l m name ks)->okG (g (.mk op arg neg l m name ks)))(nm:List Nat):∀{ts:List Tr},dN ts->oJ ts->dN (dL g nm ts)
 | [],_,_=>by rw[dL,dN];trivial
 | t::ts,h,hs=>by
  rw[dN] at h;rw[oJ] at hs;rw[dL,dN];exact⟨aPx hg nm h.1 hs.1,aI4 hg nm h.2 hs.2⟩
end
theorem aV5{nm:List Nat}{t:Tr}(h:okG t)(s:smT t):okG (iE id nm t):=aPx (fun _ _ _ _ _ _ _ _ _ x=>x) nm h s
/-! what Derive answers, on both sides -/
def aX4(nm:List Nat)(t:Tr):Tr × Nat:=if ¬aS t then (aL,40) else if ¬dH nm then (aL,41) else if dO t≠none then (aL,42) else dR (fN (iE id nm t))
end Go.Proofs.Y
/- The text of a tree, parsed: each kind of node; the whole. -/
namespace Go.Proofs.Y
open Go Go.Vc Go.Dig
section
variable {ts:List Tk}
end
end Go.Proofs.Y
/- The text of a tree leads back to the tree; printing again changes nothing: plain. -/
namespace Go.Proofs.Y
open Go Go.Vc Go.Dig
/-! numbers among the tokens -/
/-! the tree that is read back is right -/
/-! texts depend on pR alone -/
end Go.Proofs.Y
/- Values of trees in which literals stand for variables, of copies, of resolved case distinctions: plain. -/
namespace Go.Proofs.Y
open Go Go.Vc Go.Dig
section
variable {vals:List (List Nat × Rat)} (hv:∀b∈vals,fits b.2)
include hv
end
section
variable {vals:List (List Nat × Rat)} (hv:∀b∈vals,fits b.2)
include hv
end
end Go.Proofs.Y