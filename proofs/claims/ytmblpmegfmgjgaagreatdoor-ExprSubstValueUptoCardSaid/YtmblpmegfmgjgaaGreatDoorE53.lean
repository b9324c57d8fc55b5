/- Maps with names for keys; nodes replaced by a function value with one captured cell. -/
import Derived.Test.YtmblpmegfmgjgaaGreatDoorE37
import Derived.Test.YtmblpmegfmgjgaaGreatDoorE42
set_option linter.unusedVariables false
set_option linter.unusedSimpArgs false
namespace Go.Vc
open Go Go.Dig
theorem agg_of {v:Value} {z:List Value} (h:v.cells=z.toArray) (hz:z.length≠1):v=.agg z.toArray:=by
 have hs:=congrArg Array.size h
 cases v
 case agg cs=>exact congrArg Value.agg h
 all_goals exact absurd (show 1=z.length by simpa [Value.cells] using hs).symm hz
theorem find_run {T:Tab} (ok:T.Ok) {w:World} {t kt et:TypeId} {d:TypeDesc} {key v:Value} {b i:Nat} {es:Array MapEntry} {clock:Nat} (hg:w.heap[b]?=some (.map es clock)) (hm:T.und t=some (.map kt et)) (hd:T.und kt=some d)
  (hkey:MapKept.IsKey d key) (hf:Instr.findNow d key es.toList 0=some (some (i,v))):(Instr.lookup t (.map (some b)) key true).run T.prog w=.ok (.tuple #[v,.bool true]) w:=by
 have hck:=MapKept.run_checkKey (P:=T.prog) (w:=w) (ok.und _ _ hd) hkey es.isEmpty 9999
 simp [Instr.lookup,run_underlying (ok.und _ _ hm),MapKept.run_getObj_map hg,hck,MapKept.run_findKey (ok.und _ _ hd) hf,Result.andThen]
theorem find_run0 {T:Tab} (ok:T.Ok) {w:World} {t kt et:TypeId} {d:TypeDesc} {key:Value} {b n:Nat} {es:Array MapEntry} {clock:Nat} {z:List Value} (hg:w.heap[b]?=some (.map es clock)) (hm:T.und t=some (.map kt et)) (hd:T.und kt=some d)
  (hz:T.inf et=some (z,n)) (hz1:z.length≠1) (hkey:MapKept.IsKey d key) (hf:Instr.findNow d key es.toList 0=some none):(Instr.lookup t (.map (some b)) key true).run T.prog w=.ok (.tuple #[.agg z.toArray,.bool false]) w:=by
 have hck:=MapKept.run_checkKey (P:=T.prog) (w:=w) (ok.und _ _ hd) hkey es.isEmpty 9999
 obtain ⟨v,hzr,hc⟩:=zero_run (w:=w) ok hz
 rw [agg_of hc hz1] at hzr
 simp [Instr.lookup,run_underlying (ok.und _ _ hm),MapKept.run_getObj_map hg,hck,MapKept.run_findKey (ok.und _ _ hd) hf,hzr,Result.andThen]
def MapAt (h:Heap) (L:Vc.Own) (b:Nat) (es:Array MapEntry) (clock:Nat):Prop:=(b,.map es clock)∈L∨h b=some (.map es clock)
theorem Ext.mapFind {T:Tab} {t kt et:TypeId} {d:TypeDesc} {m kO:Operand} {key:Value} {b n:Nat} {es:Array MapEntry} {clock:Nat} {z:List Value} {h:Heap} {L:Vc.Own} {k:Value→Heap→Vc.Own→Prop}
  (ha:MapAt h L b es clock) (hm:T.und t=some (.map kt et)) (hd:T.und kt=some d) (hz:T.inf et=some (z,n)) (hz1:z.length≠1) (hkey:MapKept.IsKey d key)
  (hk:(∃i v,Instr.findNow d key es.toList 0=some (some (i,v))∧k (.tuple #[v,.bool true]) h L)∨(Instr.findNow d key es.toList 0=some none∧k (.tuple #[.agg z.toArray,.bool false]) h L)):Ext T (.lookup t m kO true) [m,kO] [.map (some b),key] h L k:=by
 refine ⟨fun ok o ρ K Q w h0' L0 w' hop' hargs inv hout hP hK=>.inl ?_⟩
 simp only [List.map_cons,List.map_nil,List.cons.injEq,and_true] at hargs
 obtain ⟨a1,a2⟩:=hargs
 have hg:w'.heap[b]?=some (.map es clock):=by
  rcases ha with ha | ha
  ·exact inv.own _ ha
  ·exact inv.imm _ _ ha
 rcases hk with ⟨i,v,hf,hk⟩ | ⟨hf,hk⟩
 ·have hr:=find_run ok hg hm hd hkey hf
  refine wp_value (w':=w') (v:=.tuple #[v,.bool true]) ?_ (hK _ _ _ _ inv hk)
  simp only [execOp,hop',a1,a2,Sem.run_bind,hr]
  rfl
 ·have hr:=find_run0 ok hg hm hd hz hz1 hkey hf
  refine wp_value (w':=w') (v:=.tuple #[.agg z.toArray,.bool false]) ?_ (hK _ _ _ _ inv hk)
  simp only [execOp,hop',a1,a2,Sem.run_bind,hr]
  rfl
theorem own_get {A Fe G tl:Vc.Own} {x:Nat × Obj}:(A++(Fe++(G++x::tl)))[A.length+Fe.length+G.length]?=some x:=by
 rw [List.getElem?_append_right (by omega),List.getElem?_append_right (by omega),List.getElem?_append_right (by omega)]
 simp [show A.length+Fe.length+G.length-A.length-Fe.length-G.length=0 by omega]
theorem own_set {A Fe G tl:Vc.Own} {x y:Nat × Obj}:(A++(Fe++(G++x::tl))).set (A.length+Fe.length+G.length) y=A++(Fe++(G++y::tl)):=by
 rw [List.set_append_right _ _ (by omega),List.set_append_right _ _ (by omega),List.set_append_right _ _ (by omega)]
 simp [show A.length+Fe.length+G.length-A.length-Fe.length-G.length=0 by omega]
theorem Ext.mapSet {T:Tab} {op:Op} {t kt et:TypeId} {d:TypeDesc} {m kO vO:Operand} {key v:Value} {b:Nat} {es:Array MapEntry} {clock:Nat} {h:Heap} {A Fe G tl:Vc.Own} {k:Value→Heap→Vc.Own→Prop} (hop:op=.insert t m kO vO∨op=.mapUpdate t m kO vO)
  (hm:T.und t=some (.map kt et)) (hd:T.und kt=some d) (hkey:MapKept.IsKey d key)
  (hk:(Instr.findNow d key es.toList 0=some none∧k undef h (A++(Fe++(G++(b,.map (es.push { key:=key,val:=v,born:=clock }) (clock+1))::tl))))∨
    (∃i e,Instr.findNow d key es.toList 0=some (some (i,e.val))∧es[i]?=some e∧e.key=key∧k undef h (A++(Fe++(G++(b,.map (es.modify i fun e=>{ e with key:=key,val:=v }) clock)::tl))))):
  Ext T op [m,kO,vO] [.map (some b),key,v] h (A++(Fe++(G++(b,.map es clock)::tl))) k:=by
 rcases hk with ⟨hf,hk⟩ | ⟨i,e,hf,he,hek,hk⟩
 ·exact Ext.mapNew _ hop own_get hm hd hkey hf (by rw [own_set];exact hk)
 ·refine ⟨fun ok o ρ K Q w h0' L0 w' hop' hargs inv hout hP hK=>.inl ?_⟩
  simp only [List.map_cons,List.map_nil,List.cons.injEq,and_true] at hargs
  obtain ⟨a1,a2,a3⟩:=hargs
  have hg:w'.heap[b]?=some (.map es clock):=inv.own _ (List.mem_of_getElem? own_get)
  have hst:(Instr.keyThatStays ((Option.map (fun x=>x.key) es[i]?).getD key) key).run T.prog w'=.ok key w':=by
   rw [he]
   show (Instr.keyThatStays e.key key).run T.prog w'=.ok key w'
   rw [hek]
   exact MapKept.run_keyThatStays hkey
  have hr:(Instr.mapUpdate t (.map (some b)) key v).run T.prog w'=.ok () { w' with heap:=w'.heap.setIfInBounds b (.map (es.modify i fun e=>{ e with key:=key,val:=v }) clock) }:=by
   simp [Instr.mapUpdate,run_underlying (ok.und _ _ hm),MapKept.run_getObj_map hg,MapKept.run_checkKey (ok.und _ _ hd) hkey false 9999,MapKept.run_findKey (ok.und _ _ hd) hf,hst,MapKept.run_setObj_map _ hg,Result.andThen]
  refine wp_skipd (w':=_) ?_ (hK undef _ _ _ (inv.upd own_get (upd_map _ hg)) (by rw [own_set];exact hk))
  rcases hop with rfl | rfl <;>
  ·simp only [execOp,hop',a1,a2,a3,Sem.run_bind,hr]
   rfl
theorem CallN.keepTl {T:Tab} {f:FuncId} {args:List Value} {h:Heap} {k:Value→Heap→Vc.Own→Prop} {Fe tl:Vc.Own} {b c:Nat} {p q:Obj} (hf:T.fn f=true)
  (hk:∀h',h.le h'→h' b=some p→h' c=some q→CallN T f args h' (Fe++tl) k):CallN T f args h (Fe++((b,p)::(c,q)::tl)) k:=by
 have e1:(Fe++(b,p)::(c,q)::tl).eraseIdx Fe.length=Fe++(c,q)::tl:=by rw [List.eraseIdx_append_of_length_le (Nat.le_refl _)];simp
 have e2:(Fe++(c,q)::tl).eraseIdx Fe.length=Fe++tl:=by rw [List.eraseIdx_append_of_length_le (Nat.le_refl _)];simp
 refine CallN.keep (b:=b) (o:=p) Fe.length (by simp) hf fun h1=>?_
 rw [e1]
 refine CallN.keep (b:=c) (o:=q) Fe.length (by simp) hf fun h2=>?_
 rw [e2]
 exact hk _ (Heap.le_trans h1 h2) (h2 _ _ (by simp [Heap.put])) (by simp [Heap.put])
end Go.Vc
namespace Go.Proofs.YtmblpmegfmgjgaaGreatDoor
open Go Go.Vc Go.Dig
class UpV {α:Type} (P:Heap→Value→α→Prop):Prop where
 up:∀{h h':Heap} {v:Value} {a:α},h.le h'→P h v a→P h' v a
instance:UpV VE:=⟨fun hl ⟨op,arg,neg,n,d,name,s,e,w⟩=>⟨op,arg,neg,n,d,name,s,e,w.mono hl⟩⟩
def EntR {α:Type} (P:Heap→Value→α→Prop) (h:Heap) (x:MapEntry) (b:List Nat × α):Prop:=x.key=.string (txt b.1)∧(∀y∈b.1,y<256)∧P h x.val b.2
def EntsR {α:Type} (P:Heap→Value→α→Prop) (h:Heap):List MapEntry→List (List Nat × α)→Prop
 | [],[]=>True
 | x::xs,b::bs=>EntR P h x b∧EntsR P h xs bs
 | _,_=>False
theorem EntsR.mono {α:Type} {P:Heap→Value→α→Prop} [UpV P] {h h':Heap} (hl:h.le h'):∀{xs:List MapEntry} {bs:List (List Nat × α)},EntsR P h xs bs→EntsR P h' xs bs
 | [],[],_=>trivial
 | [],_::_,w=>w.elim
 | _::_,[],w=>w.elim
 | _::_,_::_,⟨⟨h1,h2,h3⟩,r⟩=>⟨⟨h1,h2,UpV.up hl h3⟩,EntsR.mono hl r⟩
theorem EntsR.push {α:Type} {P:Heap→Value→α→Prop} {h:Heap} {x:MapEntry} {b:List Nat × α} (hx:EntR P h x b):∀{xs:List MapEntry} {bs:List (List Nat × α)},EntsR P h xs bs→EntsR P h (xs++[x]) (bs++[b])
 | [],[],_=>⟨hx,trivial⟩
 | [],_::_,w=>w.elim
 | _::_,[],w=>w.elim
 | _::_,_::_,⟨h1,r⟩=>⟨h1,EntsR.push hx r⟩
theorem EntsR.set {α:Type} {P:Heap→Value→α→Prop} {h:Heap} {x:MapEntry} {b:List Nat × α} (hx:EntR P h x b):∀{j:Nat} {xs:List MapEntry} {bs:List (List Nat × α)},EntsR P h xs bs→EntsR P h (xs.set j x) (bs.set j b)
 | _,[],[],w=>w
 | _,[],_::_,w=>w.elim
 | _,_::_,[],w=>w.elim
 | 0,_::_,_::_,⟨_,r⟩=>⟨hx,r⟩
 | _+1,_::_,_::_,⟨h1,r⟩=>⟨h1,EntsR.set hx r⟩
def findB {α:Type}:List (List Nat × α)→List Nat→Option α
 | [],_=>none
 | (n,u)::bs,name=>if n=name then some u else findB bs name
theorem EntsR.find {α:Type} {P:Heap→Value→α→Prop} {h:Heap} {nm:List Nat} (hnm:∀y∈nm,y<256):∀{xs:List MapEntry} {bs:List (List Nat × α)} (i0:Nat),EntsR P h xs bs→
  (∃j x t,Instr.findNow .string (.string (txt nm)) xs i0=some (some (i0+j,x.val))∧xs[j]?=some x∧bs[j]?=some (nm,t)∧x.key=.string (txt nm)∧P h x.val t∧findB bs nm=some t)∨
  (Instr.findNow .string (.string (txt nm)) xs i0=some none∧nm∉bs.map (·.1)∧findB bs nm=none)
 | [],[],_,_=>.inr ⟨rfl,by simp,rfl⟩
 | [],_::_,_,w=>w.elim
 | _::_,[],_,w=>w.elim
 | x::xs,(n,t)::bs,i0,⟨⟨k1,k2,k3⟩,r⟩=>by
  by_cases e:n=nm
  ·subst e
   refine .inl ⟨0,x,t,?_,rfl,rfl,k1,k3,by rw [findB,if_pos rfl]⟩
   rw [Instr.findNow,k1,show Instr.sameNow .string (.string (txt n)) (.string (txt n))=some true from congrArg some ((MapKept.bytes_beq _ _).2 rfl)]
   rfl
  ·have hs:Instr.sameNow .string (.string (txt nm)) x.key=some false:=by
    rw [k1]
    show some (txt nm == txt n)=some false
    congr 1
    cases hb:(txt nm == txt n) with
    | false=>rfl
    | true=>exact absurd (txt_inj hnm k2 ((MapKept.bytes_beq _ _).1 hb)).symm e
   rcases EntsR.find hnm (i0+1) r with ⟨j,x',t',h1,h2,h3,h4,h5,h6⟩ | ⟨h1,h2,h3⟩
   ·exact .inl ⟨j+1,x',t',by rw [Instr.findNow,hs];simpa [Nat.add_comm,Nat.add_left_comm] using h1,by simpa using h2,by simpa using h3,h4,h5,by rw [findB,if_neg e];exact h6⟩
   ·refine .inr ⟨by rw [Instr.findNow,hs];exact h1,?_,by rw [findB,if_neg e];exact h3⟩
    simp only [List.map_cons,List.mem_cons,not_or]
    exact ⟨fun x=>e x.symm,h2⟩
theorem list_modify_set {α:Type} {f:α→α}:∀{l:List α} {i:Nat} {e:α},l[i]?=some e→l.modify i f=l.set i (f e)
 | [],_,_,h=>by simp at h
 | x::xs,0,e,h=>by
  simp at h;subst h;rfl
 | x::xs,i+1,e,h=>by
  rw [List.modify_succ_cons,List.set_cons_succ,list_modify_set (by simpa using h)]
theorem modify_set {es:Array MapEntry} {i:Nat} {e:MapEntry} (he:es[i]?=some e) (f:MapEntry→MapEntry):(es.modify i f).toList=es.toList.set i (f e):=by
 rw [Array.toList_modify,list_modify_set (by rw [Array.getElem?_toList];exact he)]
theorem getB_find {name:List Nat} {D:Tr}:∀{bs:List (List Nat × Tr)},getB bs name D=(findB bs name).getD D
 | []=>rfl
 | (n,u)::bs=>by
  rw [getB,findB]
  by_cases e:n=name
  ·rw [if_pos e,if_pos e];rfl
  ·rw [if_neg e,if_neg e];exact getB_find
def byM (bs:List (List Nat × Tr)):Tr→Option Tr
 | .mk op _ _ _ _ name _=>if op=2 then findB bs name else none
mutual
theorem rpl_byM {bs:List (List Nat × Tr)}:∀{d:Nat} {t:Tr},okT d t→rplT (byM bs) t=rplT (byR bs) t
 | d,.mk op arg neg l m name ks,h=>by
  rw [okT] at h
  by_cases e:op=2
  ·have h0:ks=[]:=by
    have:=h.2.1.1
    rw [e] at this
    have h2:kidsN 2=0:=rfl
    exact List.length_eq_zero_iff.1 (by omega)
   have hr:byR bs (.mk op arg neg l m name ks)=some (getB bs name (.mk op arg neg l m name ks)):=if_pos e
   have hm:byM bs (.mk op arg neg l m name ks)=findB bs name:=if_pos e
   rw [rplT_some hr,getB_find]
   cases hf:findB bs name with
   | some u=>rw [rplT_some (hm.trans hf)];rfl
   | none=>rw [rplT_none (hm.trans hf),h0,rplTs];rfl
  ·have hr:byR bs (.mk op arg neg l m name ks)=none:=if_neg e
   have hm:byM bs (.mk op arg neg l m name ks)=none:=if_neg e
   rw [rplT_none hr,rplT_none hm,rpls_byM h.2.2]
theorem rpls_byM {bs:List (List Nat × Tr)}:∀{d:Nat} {ts:List Tr},okTs d ts→rplTs (byM bs) ts=rplTs (byR bs) ts
 | _,[],_=>by rw [rplTs,rplTs]
 | d,t::ts,h=>by
  rw [okTs] at h
  rw [rplTs,rplTs,rpl_byM h.1,rpls_byM h.2]
end
set_option maxRecDepth 20000 in
set_option maxHeartbeats 2000000 in
theorem replaced1_ct {fb:FuncId} {x:Value} {g:Tr→Option Tr} (hf:T.fn fb=true) (h0:Heap) (hby:ByC fb [x] g h0):∀t:Tr,∀(h:Heap) (vs:List Value) (d:Nat),h0.le h→IsE h vs t→okT d t→Fn0 T F.expr_replaced [.agg vs.toArray,.func (.func fb) #[] #[x]] h fun v h'=>VE h' v (rplT g t):=by
 refine tree_ind fun t ih=>?_
 intro h vs d h0l w hok
 obtain ⟨op,arg,neg,l,m,name,ks⟩:=t
 have c1:=fun h h0l w=>hby _ d h vs hok h0l w
 obtain ⟨a,b,s,rfl,ho,ha,hv,hb,hk⟩:=w.isK
 rw [okT] at hok
 obtain ⟨hd,hnb,hoks⟩:=hok
 have hks:ks.length≤3:=by
  have h1:=hnb.1
  have h2:=kidsN_le op
  omega
 have hkl:=hk.len
 have r1:∀u,g (.mk op arg neg l m name ks)=some u→rplT g (.mk op arg neg l m name ks)=u:=fun u e=>rplT_some e
 have r2:g (.mk op arg neg l m name ks)=none→rplT g (.mk op arg neg l m name ks)=.mk op arg neg l m name (rplTs g ks):=rplT_none
 obtain ⟨R,hR⟩:∃R,R=rplT g (.mk op arg neg l m name ks):=⟨_,rfl⟩
 obtain ⟨G,hG⟩:∃G,G=g (.mk op arg neg l m name ks):=⟨_,rfl⟩
 rw [← hR] at r1 r2 ⊢
 rw [← hG] at c1 r1 r2
 clear hR hG
 refine fn0_of_codeI ok D.expr_replaced rfl ?_
 conv=>whnf
 repeat ((first | refine opsI.step ?_ | refine codeI.step ?_);conv=>whnf)
 repeat' first | ((first | (show LdN _ _ _ _ _;first | (first | refine LdN.own 0 rfl rfl ?_ | refine LdN.ownAt 0 rfl rfl ?_) | refine LdN.own 1 rfl rfl ?_) | (show CallN _ _ _ _ _ _;(refine CallN.fn hf (c1 _ (by first | assumption | exact Heap.le_trans h0l (by assumption)) (by assumption)) (fun v h' hl2 hr=>?_);obtain ⟨_,bb,u,rfl,⟨op2,ar2,ng2,nn2,dd2,nm2,ss2,rfl,hE2⟩,g1,g2⟩:=hr)) | ((first | refine opsI.step ?_ | refine codeI.step ?_)) | intro (_:Nat) | refine Ld.own 2 rfl rfl ?_ | (show Sto _ _ _ _;first | refine Sto.lit 0 rfl rfl rfl ?_ | refine Sto.lit 1 rfl rfl rfl ?_)) <;> (conv=>whnf)) | (refine cnd_bool (fun hb=>?_) (fun hb=>?_) <;> (first | cases hb | subst hb) <;> (conv=>whnf))
 ·rw [r1 _ (g1 rfl)]
  exact RetN.all ⟨op2,ar2,ng2,nn2,dd2,nm2,ss2,rfl,hE2⟩
 ·rw [r2 (g2 rfl)]
  clear r1 r2 g1 g2
  rename_i be bz bn
  have h0l':=Heap.le_trans h0l hl2
  refine LoopN.of (fun r ρ hx L=>∃(j:Nat) (V:Value) (F1:Vc.Own) (xs:List Value),r=ks.length-j∧h'.le hx∧j≤ks.length∧rd ρ 21=.int .i64 j∧rd ρ 7=V∧
    L=F1++((bn,.cells [.int .i64 op2,.int .i64 ar2,.bool ng2,nn2.val,dd2.val,.string (txt nm2),ss2.val].toArray Ty.api_Expr (0,0))::(bz,.cells [.int .i64 0,.int .i64 0,.bool false,.slice none 0 0,.slice none 0 0,.string (txt []),.slice none 0 0].toArray Ty.api_Expr (0,0))::(be,.cells [.int .i64 op,.int .i64 arg,.bool neg,a.val,b.val,.string (txt name),s.val].toArray Ty.api_Expr (0,0))::[])∧
    GrowS Ty.api_Expr 7 V j xs F1∧KC hx xs (rplTs g (ks.take j))) ks.length
   ⟨0,_,[],[],rfl,Heap.le_refl _,Nat.zero_le _,rfl,rfl,rfl,GrowS.nil _ _ _,by rw [List.take_zero,rplTs];rfl⟩ ?_
  conv=>whnf
  repeat intro _
  rename_i r hx L2 hI
  obtain ⟨j,V,F1,xs,rfl,hle,hj,e21,e7,rfl,gF,hK⟩:=hI
  conv at e21=>lhs;whnf
  subst e21
  conv at e7=>lhs;whnf
  subst e7
  by_cases hjl:j=ks.length
  ·subst hjl
   rw [List.take_length] at hK
   obtain ⟨sv,rfl⟩:=gF.sl
   conv=>whnf
   repeat ((first | refine opsI.step ?_ | refine codeI.step ?_);conv=>whnf)
   repeat' first | ((first | (show Sto _ _ _ _;first | refine Sto.tl (A:=F1) (X:=[_,_]) rfl rfl ?_ | refine Sto.tl (A:=F1) (X:=[_]) rfl rfl ?_) | (show LdN _ _ _ _ _;first | refine LdN.tl (A:=F1) (F:=[_,_]) rfl ?_ | refine LdN.tl (A:=F1) (F:=[_]) rfl ?_) | ((first | refine opsI.step ?_ | refine codeI.step ?_))) <;> (conv=>whnf)) | (refine cnd_lt (fun _=>?_) (fun _=>?_) <;> first | (exfalso;omega) | (conv=>whnf))
   refine RetN.rowA (X:=F1) gF hK (rplTs_len g ks).symm fun h'' s' hl hs hk'=>?_
   rw [hs]
   exact ⟨op,arg,neg,a,b,name,s',rfl,IsE.mkK ho ha (((hv.mono hl2).mono hle).mono hl) hb hk'⟩
  ·obtain ⟨t,ht⟩:∃t,ks[j]?=some t:=⟨_,List.getElem?_eq_getElem (by omega)⟩
   have c2:=fun h vs h0l w=>ih t (szT_kid ht) h vs (d+1) h0l w (okTs_mem hoks (List.mem_of_getElem? ht))
   have hkx:=hk.mono (Heap.le_trans hl2 hle)
   have h0x:=Heap.le_trans h0l' hle
   conv=>whnf
   repeat ((first | refine opsI.step ?_ | refine codeI.step ?_);conv=>whnf)
   repeat' first | ((first | (show Idx _ _ _ _ _;refine Idx.kid hkx j t (by omega) ht (fun ad op3 arg3 neg3 a3 b3 name3 s3 hE hld=>?_)) | refine hld _ _ _ (Heap.le_refl _) ?_ | ((first | refine opsI.step ?_ | refine codeI.step ?_)) | intro (_:Nat) | (show CallN _ _ _ _ _ _;(refine CallN.fn rfl (c2 _ _ h0x (by assumption)) (fun v h' hl2 hr=>?_);obtain ⟨op4,ar4,ng4,nn4,dd4,nm4,ss4,rfl,hE2⟩:=hr;have hK2:=hK.mono hl2)) | (show App _ _ _ _ _ _ _ _ _;refine App.growK (A:=[_,_]) (F:=F1) (size:=7) (bytes:=112) (z:=[.int .i64 0,.int .i64 0,.bool false,.slice none 0 0,.slice none 0 0,.string (txt []),.slice none 0 0]) rfl rfl gF ⟨_,0,none⟩ 1 1 [_,_,_,_,_,_,_] rfl (Has.front _) rfl (by decide) (by omega) (by omega) (by decide) (fun v' F' g'=>?_)) | refine WrapN.i64 (by omega) (by omega) ?_ | refine LdN.own 0 rfl rfl ?_ | refine Sto.lit 0 rfl rfl rfl ?_) <;> (conv=>whnf)) | (refine cnd_lt (fun _=>?_) (fun _=>?_) <;> first | (exfalso;omega) | (conv=>whnf))
   exact ⟨rfl,ks.length-(j+1),by omega,j+1,_,_::_::F',_,rfl,(by (iterate 30 (try first | assumption | refine Heap.le_trans ?_ (by assumption)));first | done | assumption),by omega,vi (by omega),rfl,rfl,(g'.cons _).cons _,by rw [take_snoc ht,rplTs_append,rplTs,rplTs];exact KC.snoc rfl hE2 hK2⟩
set_option maxRecDepth 20000 in
set_option maxHeartbeats 1000000 in
theorem SubstBy_ct (h0:Heap) (bc bm:Nat) (Tc:TypeId) (fc:Nat × Nat) (es:Array MapEntry) (clock:Nat) (bs:List (List Nat × Tr)) (mc:h0 bc=some (.cells #[.map (some bm)] Tc fc)) (mm:h0 bm=some (.map es clock)) (me:EntsR VE h0 es.toList bs):
  ByC 81 [.pointer (some ⟨bc,0,none⟩)] (byM bs) h0:=by
 intro u d h vs hok hle w
 obtain ⟨op,arg,neg,l,m,name,ks⟩:=u
 obtain ⟨a,b,s,rfl,ho,ha,hv,hb,hk⟩:=w.isK
 have mc':=hle _ _ mc
 have mm':=hle _ _ mm
 have f1:¬op=2→byM bs (.mk op arg neg l m name ks)=none:=fun x=>if_neg x
 have f2:op=2→byM bs (.mk op arg neg l m name ks)=findB bs name:=fun x=>if_pos x
 have fe:=EntsR.find hb 0 (me.mono hle)
 rcases fe with ⟨j,x,t,e1,e2,e3,e4,⟨op2,ar2,ng2,nn2,dd2,nm2,ss2,e5,hE⟩,e6⟩ | ⟨e1,e2,e3⟩
 ·rw [e5] at e1
  refine fn0_of_codeI ok D.expr_Subst_1 rfl ?_
  conv=>whnf
  repeat ((first | refine opsI.step ?_ | refine codeI.step ?_);conv=>whnf)
  repeat' first | ((first | (show Ld _ _ _ _;first | refine Ld.of (Has.imm mc' rfl) ?_ | refine Ld.own 1 rfl rfl ?_) | (show Ext _ _ _ _ _ _ _;refine Ext.mapFind (.inr mm') rfl rfl rfl (by decide) trivial (.inl ⟨_,_,e1,?_⟩)) | (show DrawN _ _ _ _ _ _;refine DrawN.own [_,_] (by exact List.Sublist.cons_cons _ (List.Sublist.cons _ (List.Sublist.cons_cons _ (List.nil_sublist _)))) (by decide +kernel) ?_) | (refine ⟨fun _=>⟨HasLe.of_le (by first | exact Heap.le_refl _ | assumption | exact Heap.le_trans (by assumption) (by assumption)),by repeat first | exact List.nil_sublist _ | apply List.Sublist.cons_cons | refine List.Sublist.trans ?_ (List.sublist_append_right _ _) | apply List.Sublist.cons⟩,?_⟩) | ((first | refine opsI.step ?_ | refine codeI.step ?_)) | intro (_:Nat) | (show LdN _ _ _ _ _;first | refine LdN.own 0 rfl rfl ?_ | refine LdN.own 1 rfl rfl ?_) | (show Sto _ _ _ _;first | refine Sto.lit 0 rfl rfl rfl ?_ | refine Sto.lit 1 rfl rfl rfl ?_)) <;> (conv=>whnf))
  all_goals
   by_cases o2:op=2
   ·exact RetN.all ⟨_,eq op 2,_,rfl,⟨op2,ar2,ng2,nn2,dd2,nm2,ss2,rfl,hE⟩,(fun _=>by rw [f2 o2,e6]),fun x=>absurd x (by rw [eq_dec,dec_true o2];decide)⟩
   ·exact RetN.all ⟨_,eq op 2,_,rfl,⟨op2,ar2,ng2,nn2,dd2,nm2,ss2,rfl,hE⟩,(fun x=>absurd x (by rw [eq_dec,dec_false o2];decide)),fun _=>f1 o2⟩
 ·refine fn0_of_codeI ok D.expr_Subst_1 rfl ?_
  conv=>whnf
  repeat ((first | refine opsI.step ?_ | refine codeI.step ?_);conv=>whnf)
  repeat' first | ((first | (show Ld _ _ _ _;first | refine Ld.of (Has.imm mc' rfl) ?_ | refine Ld.own 1 rfl rfl ?_) | (show Ext _ _ _ _ _ _ _;refine Ext.mapFind (.inr mm') rfl rfl rfl (by decide) trivial (.inr ⟨e1,?_⟩)) | (show DrawN _ _ _ _ _ _;refine DrawN.own [_,_] (by exact List.Sublist.cons_cons _ (List.Sublist.cons _ (List.Sublist.cons_cons _ (List.nil_sublist _)))) (by decide +kernel) ?_) | (refine ⟨fun _=>⟨HasLe.of_le (by first | exact Heap.le_refl _ | assumption | exact Heap.le_trans (by assumption) (by assumption)),by repeat first | exact List.nil_sublist _ | apply List.Sublist.cons_cons | refine List.Sublist.trans ?_ (List.sublist_append_right _ _) | apply List.Sublist.cons⟩,?_⟩) | ((first | refine opsI.step ?_ | refine codeI.step ?_)) | intro (_:Nat) | (show LdN _ _ _ _ _;first | refine LdN.own 0 rfl rfl ?_ | refine LdN.own 1 rfl rfl ?_) | (show Sto _ _ _ _;first | refine Sto.lit 0 rfl rfl rfl ?_ | refine Sto.lit 1 rfl rfl rfl ?_)) <;> (conv=>whnf))
  all_goals
   exact RetN.all ⟨_,false,zeroT,rfl,VE.zero _,(fun x=>by cases x),fun _=>by
     by_cases o2:op=2
     ·rw [f2 o2,e3]
     ·exact f1 o2⟩
end Go.Proofs.YtmblpmegfmgjgaaGreatDoor
/- Subst on both sides; its law. -/
namespace Go.Vc
open Go Go.Dig
theorem LdN.has8 {h:Heap} {L:Vc.Own} {b o:Nat} {k:Value→Prop} {x:Value} (vs:List Value) (hl:vs.length=7) (hx:Has h L ⟨b,o,none⟩ x) (hv:∀(i:Nat) v,vs[i]?=some v→Has h L ⟨b,o+1+i,none⟩ v) (hk:k (.agg (x::vs).toArray)):LdN h L ⟨b,o,none⟩ 8 k:=
 ⟨x::vs,by rw [List.length_cons,hl],fun i hi=>by
   rw [add_lit]
   cases i with
   | zero=>exact hx
   | succ i=>
    rw [show o+(i+1)=o+1+i by omega]
    exact hv i _ (by rw [List.getD_cons_succ,List.getD_eq_getElem?_getD,List.getElem?_eq_getElem (by omega)];rfl),hk⟩
end Go.Vc
namespace Go.Proofs.YtmblpmegfmgjgaaGreatDoor
open Go Go.Vc Go.Dig
def MsR {α:Type} (ms ps:List (List Nat × α)):Prop:=(∀n,n∈ms.map (·.1)↔n∈ps.map (·.1))∧((ps.map (·.1)).Nodup→ms=ps)
theorem MsR.new {α:Type} {ms ps:List (List Nat × α)} {n:List Nat} {u:α} (r:MsR ms ps):MsR (ms++[(n,u)]) (ps++[(n,u)]):=by
 refine ⟨fun k=>?_,fun h=>?_⟩
 ·have:=r.1 k
  simp only [List.map_append,List.mem_append,this]
 ·rw [List.map_append] at h
  rw [r.2 (List.nodup_append.1 h).1]
theorem MsR.old {α:Type} {ms ps:List (List Nat × α)} {n:List Nat} {u t:α} {j:Nat} (r:MsR ms ps) (hj:ms[j]?=some (n,t)):MsR (ms.set j (n,u)) (ps++[(n,u)]):=by
 have hm:(ms.set j (n,u)).map (·.1)=ms.map (·.1):=by
  rw [List.map_set]
  refine List.ext_getElem? fun i=>?_
  rw [List.getElem?_set]
  split
  ·rename_i e
   subst e
   rw [List.getElem?_map,hj]
   have:=(List.getElem?_eq_some_iff.1 hj).1
   rw [if_pos (by rw [List.length_map];exact this)]
   rfl
  ·rfl
 have hn:n∈ps.map (·.1):=(r.1 n).1 (List.mem_map.2 ⟨_,List.mem_of_getElem? hj,rfl⟩)
 refine ⟨fun k=>?_,fun h=>?_⟩
 ·rw [hm,r.1 k,List.map_append,List.mem_append]
  refine ⟨.inl,fun x=>x.elim id fun x=>?_⟩
  simp at x
  rw [x];exact hn
 ·rw [List.map_append] at h
  have:=(List.nodup_append.1 h).2.2 n hn n (by simp)
  exact absurd rfl this
theorem ValB_snoc {ps:List (List Nat × Tr)} {b:List Nat × Tr}:ValB (ps++[b])↔ValB ps∧ValT b.2:=by
 unfold ValB
 simp only [List.mem_append,List.mem_singleton]
 exact ⟨fun h=>⟨fun x hx=>h x (.inl hx),h b (.inr rfl)⟩,fun h x hx=>hx.elim (h.1 x) fun e=>e▸h.2⟩
theorem NmsB_snoc {α:Type} {ps:List (List Nat × α)} {b:List Nat × α}:NmsB (ps++[b])↔NmsB ps∧IsNm b.1∧b.1∉ps.map (·.1):=by
 unfold NmsB
 rw [List.map_append,List.nodup_append]
 simp only [List.mem_append,List.mem_singleton]
 constructor
 ·rintro ⟨h1,h2,-,h3⟩
  exact ⟨⟨fun x hx=>h1 x (.inl hx),h2⟩,h1 b (.inr rfl),fun hb=>h3 _ hb _ (by simp) rfl⟩
 ·rintro ⟨⟨h1,h2⟩,h3,h4⟩
  refine ⟨fun x hx=>hx.elim (h1 x) fun e=>e▸h3,h2,by simp,fun x hx y hy e=>?_⟩
  simp at hy
  subst e hy
  exact h4 hx
theorem ValB_nil:ValB []:=fun _ h=>by cases h
theorem NmsB_nil {α:Type}:NmsB ([]:List (List Nat × α)):=⟨fun _ h=>(by cases h),List.nodup_nil⟩
theorem substX_no {bs:List (List Nat × Tr)} {t:Tr} (h:¬(ValT t∧ValB bs)):substX bs t=(zeroT,40):=if_pos h
theorem substX_nm {bs:List (List Nat × Tr)} {t:Tr} (h:ValT t∧ValB bs) (n:¬NmsB bs):substX bs t=(zeroT,41):=(if_neg fun x=>x h).trans (if_pos n)
theorem substX_ok {bs:List (List Nat × Tr)} {t:Tr} (h:ValT t∧ValB bs) (n:NmsB bs):substX bs t=chkdT (rplT (byM bs) t):=by
 rw [rpl_byM h.1.1];exact (if_neg fun x=>x h).trans (if_neg fun x=>x n)
theorem substY_no {bs:List (List Nat × Tr)} {t:Tr} (h:¬(ValT t∧ValB bs)):substY bs t=(zeroT,40):=if_pos h
theorem substY_nm {bs:List (List Nat × Tr)} {t:Tr} (h:ValT t∧ValB bs) (n:¬NmsB bs):substY bs t=(zeroT,41):=(if_neg fun x=>x h).trans (if_pos n)
theorem substY_ok {bs:List (List Nat × Tr)} {t:Tr} (h:ValT t∧ValB bs) (n:NmsB bs) (v:ValT (rplT (byR bs) t)):substY bs t=(rplT (byR bs) t,0):=(if_neg fun x=>x h).trans ((if_neg fun x=>x n).trans (if_pos v))
theorem substY_big {bs:List (List Nat × Tr)} {t:Tr} (h:ValT t∧ValB bs) (n:NmsB bs) (v:¬ValT (rplT (byR bs) t)):substY bs t=(zeroT,4):=(if_neg fun x=>x h).trans ((if_neg fun x=>x n).trans (if_neg v))
set_option maxRecDepth 20000 in
set_option maxHeartbeats 4000000 in
theorem Subst_ct (bs:List (List Nat × Tr)) (hbl:bs.length≤1099511627776) (sb:Sl) (t:Tr) (h:Heap) (vs:List Value) (tb:Tb h) (wb:IsB h sb bs) (w:IsE h vs t):Fn0 T F.expr_Subst [.agg vs.toArray,sb.val] h fun v h'=>ResT h' v (substX bs t):=by
 have c1:=fun u h vs tb w=>Valid_ct u h vs tb w
 have c2:=fun h n hn=>XIsName_ct h n hn
 have c4:=fun h0 bc bm Tc fc es clock ms mc mm me (x:ValT t∧ValB bs)=>fun h hl w=>replaced1_ct rfl h0 (SubstBy_ct h0 bc bm Tc fc es clock ms mc mm me) t h vs 1 hl w x.1.1
 have c5:=fun u h vs tb w=>checked_ct u h vs tb w
 have r1:¬(ValT t∧ValB bs)→substX bs t=(zeroT,40):=substX_no
 have r2:ValT t∧ValB bs→¬NmsB bs→substX bs t=(zeroT,41):=substX_nm
 have r3:∀ms,MsR ms bs→ValT t∧ValB bs→NmsB bs→substX bs t=chkdT (rplT (byM ms) t):=fun ms r x y=>by rw [substX_ok x y,r.2 y.2]
 have v0:dec (ValT t)=dec (ValT t∧ValB []):=dec_congr ⟨fun x=>⟨x,ValB_nil⟩,fun x=>x.1⟩
 obtain ⟨R,hR⟩:∃R,R=substX bs t:=⟨_,rfl⟩
 rw [← hR] at r1 r2 ⊢
 simp only [← hR] at r3
 clear hR
 have hsl:=wb.len
 obtain ⟨⟨op,arg,neg,l,m,name,ks⟩,ht⟩:∃x,x=t:=⟨_,rfl⟩
 obtain ⟨a,b,s,hvs,-⟩:=(ht.symm▸w:IsE h vs (.mk op arg neg l m name ks)).isK
 subst hvs
 refine fn0_of_codeI ok D.expr_Subst rfl ?_
 conv=>whnf
 repeat ((first | refine opsI.step ?_ | refine codeI.step ?_);conv=>whnf)
 repeat' first | ((first | (show CallN _ _ _ _ _ _;(refine CallN.fn rfl (c1 _ _ _ (by assumption) (by assumption)) (fun v h' hl2 hr=>?_);subst hr)) | (show Ext _ _ _ _ _ _ _;refine Ext.makeMap fun bm=>?_) | ((first | refine opsI.step ?_ | refine codeI.step ?_)) | intro (_:Nat) | refine LdN.own 1 rfl rfl ?_ | refine Sto.lit 0 rfl rfl rfl ?_) <;> (conv=>whnf))
 rename_i b1 b2 b4
 refine LoopN.of (fun r ρ hx L=>∃(j:Nat) (X:Vc.Own) (es:Array MapEntry) (clock:Nat) (ms:List (List Nat × Tr)),r=bs.length-j∧h.le hx∧j≤bs.length∧rd ρ 18=.int .i64 j∧rd ρ 6=.bool (dec (ValT t∧ValB (bs.take j)))∧rd ρ 8=.bool (dec (NmsB (bs.take j)))∧
     L=X++((b4,.cells [.map (some bm)].toArray 102 (0,0))::(bm,.map es clock)::(b2,.cells [.int .i64 0,.int .i64 0,.bool false,.slice none 0 0,.slice none 0 0,.string (txt []),.slice none 0 0].toArray Ty.api_Expr (0,0))::(b1,.cells [.int .i64 op,.int .i64 arg,.bool neg,a.val,b.val,.string (txt name),s.val].toArray Ty.api_Expr (0,0))::[])∧EntsR VE hx es.toList ms∧MsR ms (bs.take j)) bs.length
  ⟨0,[],#[],0,[],rfl,hl2,Nat.zero_le _,rfl,congrArg Value.bool v0,congrArg Value.bool (dec_true NmsB_nil).symm,rfl,trivial,⟨fun _=>Iff.rfl,fun _=>rfl⟩⟩ ?_
 conv=>whnf
 repeat intro _
 rename_i r hx L2 hI
 obtain ⟨j,X,es,clock,ms,rfl,hle,hj,e18,e6,e8,rfl,me,mr⟩:=hI
 conv at e18=>lhs;whnf
 subst e18
 conv at e6=>lhs;whnf
 subst e6
 conv at e8=>lhs;whnf
 subst e8
 by_cases hjl:j=bs.length
 ·subst hjl
  rw [List.take_length] at *
  have r3:=r3 ms mr
  have c5:=c5 (rplT (byM ms) t)
  obtain ⟨P,hP⟩:∃P,P=rplT (byM ms) t:=⟨_,rfl⟩
  have c4:=fun h0 bc bm Tc fc es clock mc mm me x h hl w=>c4 h0 bc bm Tc fc es clock ms mc mm me x h hl w
  rw [← hP] at c4 c5 r3
  obtain ⟨⟨Q1,Q2⟩,hQ⟩:∃Q,Q=chkdT P:=⟨_,rfl⟩
  rw [← hQ] at c5 r3
  clear hP hQ
  conv=>whnf
  repeat ((first | refine opsI.step ?_ | refine codeI.step ?_);conv=>whnf)
  repeat' first | ((first | (show Sto _ _ _ _;first | refine Sto.tl3 (A:=[]) (F:=X) (G:=[_,_]) rfl rfl ?_ | refine Sto.tl3 (A:=[]) (F:=X) (G:=[]) rfl rfl ?_) | (show LdN _ _ _ _ _;first | refine LdN.tl3 (A:=[]) (F:=X) (G:=[_,_]) rfl ?_ | refine LdN.tl3 (A:=[]) (F:=X) (G:=[_,_,_]) rfl ?_ | refine LdN.tl3 (A:=[]) (F:=X) (G:=[]) rfl ?_) | (show CallN _ _ _ _ _ _;first | (refine CallN.keepTl (Fe:=X) rfl (fun h' hl2 mc mm=>?_);refine CallN.fn rfl (c4 h' _ _ _ _ _ _ mc mm (me.mono hl2) (by assumption) _ (Heap.le_refl _) (by (iterate 30 (try first | assumption | refine IsE.mono ?_ (by assumption)));first | done | assumption)) (fun v h'' hl3 hr=>?_);obtain ⟨op2,ar2,ng2,nn2,dd2,nm2,ss2,rfl,hE2⟩:=hr) | (refine CallN.fn rfl (c5 _ _ (by (iterate 30 (try first | assumption | refine Tb.mono ?_ (by assumption)));first | done | assumption) (by assumption)) (fun v h'' hl3 hr=>?_);obtain ⟨_,rfl,op3,ar3,ng3,nn3,dd3,nm3,ss3,rfl,hE3⟩:=hr)) | ((first | refine opsI.step ?_ | refine codeI.step ?_))) <;> (conv=>whnf)) | (show cnd _ _ _;first | (refine cnd_lt (fun _=>?_) (fun _=>?_) <;> first | (exfalso;omega) | (conv=>whnf)) | (refine cnd_not ?_) | (refine cnd_dec (fun _=>?_) (fun _=>?_) <;> first | (exfalso;omega) | (conv=>whnf)))
  all_goals first
   | (rw [r1 (by assumption)];exact RetN.all ⟨_,rfl,VE.zero _⟩)
   | (rw [r2 (by assumption) (by assumption)];exact RetN.all ⟨_,rfl,VE.zero _⟩)
   | (rw [r3 (by assumption) (by assumption)];exact RetN.all ⟨_,rfl,op3,ar3,ng3,nn3,dd3,nm3,ss3,rfl,hE3⟩)
 ·obtain ⟨⟨n,u⟩,hu⟩:∃x,bs[j]?=some x:=⟨_,List.getElem?_eq_getElem (by omega)⟩
  have wbx:=wb.mono hle
  have htk:=take_snoc hu
  have hnb:∀y∈n,y<256:=by
   rcases wb.mem with e | ⟨bl,off,c,T,fz,e1,e2,e3⟩
   ·rw [e] at hu;simp at hu
   ·exact (IsBs.get e3 hu).2.1
  have d1:ValT t∧ValB (bs.take j)→dec (ValT u)=dec (ValT t∧ValB (bs.take (j+1))):=fun x=>by rw [htk];exact dec_congr ⟨fun y=>⟨x.1,ValB_snoc.2 ⟨x.2,y⟩⟩,fun y=>(ValB_snoc.1 y.2).2⟩
  have d0:¬(ValT t∧ValB (bs.take j))→false=dec (ValT t∧ValB (bs.take (j+1))):=fun x=>by rw [htk];exact (dec_false fun y=>x ⟨y.1,(ValB_snoc.1 y.2).1⟩).symm
  have n0:¬NmsB (bs.take j)→false=dec (NmsB (bs.take (j+1))):=fun x=>by rw [htk];exact (dec_false fun y=>x (NmsB_snoc.1 y).1).symm
  have n2:¬IsNm n→false=dec (NmsB (bs.take (j+1))):=fun x=>by rw [htk];exact (dec_false fun y=>x (NmsB_snoc.1 y).2.1).symm
  have c2:=fun h=>c2 h n hnb
  have mnew:=MsR.new (n:=n) (u:=u) mr
  have mold:=fun i t' (hi:ms[i]?=some (n,t'))=>MsR.old (u:=u) mr hi
  have fe:=EntsR.find hnb 0 me
  have nfound:n∈ms.map (·.1)→false=dec (NmsB (bs.take (j+1))):=fun x=>by rw [htk];exact (dec_false fun y=>(NmsB_snoc.1 y).2.2 ((mr.1 n).1 x)).symm
  have nmiss:n∉ms.map (·.1)→NmsB (bs.take j)→IsNm n→true=dec (NmsB (bs.take (j+1))):=fun x y z=>by rw [htk];exact (dec_true (NmsB_snoc.2 ⟨y,z,fun q=>x ((mr.1 n).2 q)⟩)).symm
  rw [← htk] at mnew mold
  clear r1 r2 r3 htk
  obtain ⟨V1,hV1⟩:∃V,V=dec (ValT t∧ValB (bs.take (j+1))):=⟨_,rfl⟩
  obtain ⟨N1,hN1⟩:∃V,V=dec (NmsB (bs.take (j+1))):=⟨_,rfl⟩
  rw [← hV1] at d1 d0
  rw [← hN1] at n0 n2 nfound nmiss
  rcases fe with ⟨i,x,t',e1,e2,e3,e4,⟨op5,ar5,ng5,nn5,dd5,nm5,ss5,e5,hE5⟩,-⟩ | ⟨e1,e2,-⟩
  ·have e1':=e1
   rw [e5] at e1
   have nf:=nfound (List.mem_map.2 ⟨_,List.mem_of_getElem? e3,rfl⟩)
   rw [Nat.zero_add] at e1 e1'
   have e2':es[i]?=some x:=by rw [← Array.getElem?_toList];exact e2
   conv=>whnf
   repeat ((first | refine opsI.step ?_ | refine codeI.step ?_);conv=>whnf)
   repeat' first | ((first | (show Idx _ _ _ _ _;refine Idx.bind wbx j n u (by omega) hu (fun bl off op2 arg2 neg2 a2 b2 name2 s2 hnn hE h1 h2=>?_)) | (show LdN _ _ _ _ _;first | refine LdN.has8 _ rfl (h1 _ _ (Heap.le_refl _)) (fun i v hv=>h2 _ _ i v (Heap.le_refl _) hv) ?_ | refine LdN.ownAt 0 rfl rfl ?_ | refine LdN.ownAt 1 rfl rfl ?_) | (show CallN _ _ _ _ _ _;first | (refine CallN.fn rfl (c1 _ _ _ (by (iterate 30 (try first | assumption | refine Tb.mono ?_ (by assumption)));first | done | assumption) (by assumption)) (fun v h' hl2 hr=>?_);subst hr) | (refine CallN.fn rfl (c2 _) (fun v h' hl2 hr=>?_);subst hr)) | (show Ld _ _ _ _;first | refine Ld.tl3 (A:=[_]) (F:=X) (G:=[]) rfl ?_ | refine Ld.tl3 (A:=[_,_]) (F:=X) (G:=[]) rfl ?_ | refine Ld.own 0 rfl rfl ?_ | refine Ld.own 1 rfl rfl ?_) | (show Ext _ _ _ _ _ _ _;first | refine Ext.mapFind (es:=es) (clock:=clock) (.inl (by simp)) rfl rfl rfl (by decide) trivial (.inl ⟨_,_,e1,?_⟩) | (refine Ext.mapSet (d:=.string) (key:=.string (txt n)) (A:=[_,_]) (Fe:=X) (G:=[_]) (by first | exact .inl rfl | exact .inr rfl) rfl rfl trivial (.inr ⟨i,x,e1',e2',e4,?_⟩))) | ((first | refine opsI.step ?_ | refine codeI.step ?_)) | intro (_:Nat) | refine WrapN.i64 (by omega) (by omega) ?_ | refine Sto.lit 0 rfl rfl rfl ?_) <;> (conv=>whnf)) | (show cnd _ _ _;first | (refine cnd_lt (fun _=>?_) (fun _=>?_) <;> first | (exfalso;omega) | (conv=>whnf)) | (refine cnd_dec (fun _=>?_) (fun _=>?_) <;> first | (exfalso;omega) | (conv=>whnf)))
   all_goals
    refine ⟨rfl,bs.length-(j+1),by omega,j+1,_::_::X,_,_,ms.set i (n,u),rfl,(by (iterate 30 (try first | assumption | refine Heap.le_trans ?_ (by assumption)));first | done | assumption),by omega,vi (by omega),congrArg Value.bool ?_,congrArg Value.bool ?_,rfl,?_,mold i t' e3⟩
    ·rw [← hV1];first | exact d1 (by assumption) | exact d0 (by assumption)
    ·rw [← hN1];first | exact nf | exact n0 (by assumption) | exact n2 (by assumption)
    ·rw [modify_set e2']
     exact EntsR.set ⟨rfl,hnb,op2,arg2,neg2,a2,b2,name2,s2,rfl,(by (iterate 30 (try first | assumption | refine IsE.mono ?_ (by assumption)));first | done | assumption)⟩ (me.mono (by (iterate 30 (try first | assumption | exact Heap.le_refl _ | refine Heap.le_trans ?_ (by assumption)));first | done | assumption))
  ·conv=>whnf
   repeat ((first | refine opsI.step ?_ | refine codeI.step ?_);conv=>whnf)
   repeat' first | ((first | (show Idx _ _ _ _ _;refine Idx.bind wbx j n u (by omega) hu (fun bl off op2 arg2 neg2 a2 b2 name2 s2 hnn hE h1 h2=>?_)) | (show LdN _ _ _ _ _;first | refine LdN.has8 _ rfl (h1 _ _ (Heap.le_refl _)) (fun i v hv=>h2 _ _ i v (Heap.le_refl _) hv) ?_ | refine LdN.ownAt 0 rfl rfl ?_ | refine LdN.ownAt 1 rfl rfl ?_) | (show CallN _ _ _ _ _ _;first | (refine CallN.fn rfl (c1 _ _ _ (by (iterate 30 (try first | assumption | refine Tb.mono ?_ (by assumption)));first | done | assumption) (by assumption)) (fun v h' hl2 hr=>?_);subst hr) | (refine CallN.fn rfl (c2 _) (fun v h' hl2 hr=>?_);subst hr)) | (show Ld _ _ _ _;first | refine Ld.tl3 (A:=[_]) (F:=X) (G:=[]) rfl ?_ | refine Ld.tl3 (A:=[_,_]) (F:=X) (G:=[]) rfl ?_ | refine Ld.own 0 rfl rfl ?_ | refine Ld.own 1 rfl rfl ?_) | (show Ext _ _ _ _ _ _ _;first | refine Ext.mapFind (es:=es) (clock:=clock) (.inl (by simp)) rfl rfl rfl (by decide) trivial (.inr ⟨e1,?_⟩) | (refine Ext.mapSet (d:=.string) (key:=.string (txt n)) (A:=[_,_]) (Fe:=X) (G:=[_]) (by first | exact .inl rfl | exact .inr rfl) rfl rfl trivial (.inl ⟨e1,?_⟩))) | ((first | refine opsI.step ?_ | refine codeI.step ?_)) | intro (_:Nat) | refine WrapN.i64 (by omega) (by omega) ?_ | refine Sto.lit 0 rfl rfl rfl ?_) <;> (conv=>whnf)) | (show cnd _ _ _;first | (refine cnd_lt (fun _=>?_) (fun _=>?_) <;> first | (exfalso;omega) | (conv=>whnf)) | (refine cnd_dec (fun _=>?_) (fun _=>?_) <;> first | (exfalso;omega) | (conv=>whnf)))
   all_goals
    refine ⟨rfl,bs.length-(j+1),by omega,j+1,_::_::X,_,_,ms++[(n,u)],rfl,(by (iterate 30 (try first | assumption | refine Heap.le_trans ?_ (by assumption)));first | done | assumption),by omega,vi (by omega),congrArg Value.bool ?_,congrArg Value.bool ?_,rfl,?_,mnew⟩
    ·rw [← hV1];first | exact d1 (by assumption) | exact d0 (by assumption)
    ·rw [← hN1];first | exact nmiss e2 (by assumption) (by assumption) | exact n0 (by assumption) | exact n2 (by assumption)
    ·rw [Array.toList_push]
     exact EntsR.push ⟨rfl,hnb,op2,arg2,neg2,a2,b2,name2,s2,rfl,(by (iterate 30 (try first | assumption | refine IsE.mono ?_ (by assumption)));first | done | assumption)⟩ (me.mono (by (iterate 30 (try first | assumption | exact Heap.le_refl _ | refine Heap.le_trans ?_ (by assumption)));first | done | assumption))
end Go.Proofs.YtmblpmegfmgjgaaGreatDoor