/- Maps with names for keys; nodes replaced by a function value with one captured cell. -/
import Derived.Test.YtbgicephinomlaaGreatDoorE37
import Derived.Test.YtbgicephinomlaaGreatDoorE42
set_option linter.unusedVariables false
set_option linter.unusedSimpArgs false
namespace Go.Vc
open Go Go.Dig
theorem agg_of {v:Value} {z:List Value} (h:v.cells=z.toArray) (hz:z.length≠1):v=.agg z.toArray:=by
 have hs:=congrArg Array.size h
 cases v
 case agg cs=>exact congrArg Value.agg h
 all_goals exact absurd (show 1=z.length by simpa [Value.cells] using hs).symm hz
theorem find_run {T:Tab} (ok:T.Ok) {w:World} {t kt et:TypeId} {d:TypeDesc} {key v:Value} {b i:Nat} {es:Array MapEntry} {clock:Nat} (hg:w.heap[b]?=some (.map es clock)) (hm:T.und t=some (.map kt et)) (hd:T.und kt=some d)
  (hkey:MapKept.IsKey d key) (hf:Instr.findNow d key es.toList 0=some (some (i,v))):(Instr.lookup t (.map (some b)) key true).run T.prog w=.ok (.tuple #[v,.bool true]) w:=by
 have hck:=MapKept.run_checkKey (P:=T.prog) (w:=w) (ok.und _ _ hd) hkey es.isEmpty 9999
 simp [Instr.lookup,run_underlying (ok.und _ _ hm),MapKept.run_getObj_map hg,hck,MapKept.run_findKey (ok.und _ _ hd) hf,Result.andThen]
theorem find_run0 {T:Tab} (ok:T.Ok) {w:World} {t kt et:TypeId} {d:TypeDesc} {key:Value} {b n:Nat} {es:Array MapEntry} {clock:Nat} {z:List Value} (hg:w.heap[b]?=some (.map es clock)) (hm:T.und t=some (.map kt et)) (hd:T.und kt=some d)
  (hz:T.inf et=some (z,n)) (hz1:z.length≠1) (hkey:MapKept.IsKey d key) (hf:Instr.findNow d key es.toList 0=some none):(Instr.lookup t (.map (some b)) key true).run T.prog w=.ok (.tuple #[.agg z.toArray,.bool false]) w:=by
 have hck:=MapKept.run_checkKey (P:=T.prog) (w:=w) (ok.und _ _ hd) hkey es.isEmpty 9999
 obtain ⟨v,hzr,hc⟩:=zero_run (w:=w) ok hz
 rw [agg_of hc hz1] at hzr
 simp [Instr.lookup,run_underlying (ok.und _ _ hm),MapKept.run_getObj_map hg,hck,MapKept.run_findKey (ok.und _ _ hd) hf,hzr,Result.andThen]
def MapAt (h:Heap) (L:Vc.Own) (b:Nat) (es:Array MapEntry) (clock:Nat):Prop:=(b,.map es clock)∈L∨h b=some (.map es clock)
theorem Ext.mapFind {T:Tab} {t kt et:TypeId} {d:TypeDesc} {m kO:Operand} {key:Value} {b n:Nat} {es:Array MapEntry} {clock:Nat} {z:List Value} {h:Heap} {L:Vc.Own} {k:Value→Heap→Vc.Own→Prop}
  (ha:MapAt h L b es clock) (hm:T.und t=some (.map kt et)) (hd:T.und kt=some d) (hz:T.inf et=some (z,n)) (hz1:z.length≠1) (hkey:MapKept.IsKey d key)
  (hk:(∃i v,Instr.findNow d key es.toList 0=some (some (i,v))∧k (.tuple #[v,.bool true]) h L)∨(Instr.findNow d key es.toList 0=some none∧k (.tuple #[.agg z.toArray,.bool false]) h L)):Ext T (.lookup t m kO true) [m,kO] [.map (some b),key] h L k:=by
 refine ⟨fun ok o ρ K Q w h0' L0 w' hop' hargs inv hout hP hK=>.inl ?_⟩
 simp only [List.map_cons,List.map_nil,List.cons.injEq,and_true] at hargs
 obtain ⟨a1,a2⟩:=hargs
 have hg:w'.heap[b]?=some (.map es clock):=by
  rcases ha with ha|ha
  ·exact inv.own _ ha
  ·exact inv.imm _ _ ha
 rcases hk with ⟨i,v,hf,hk⟩|⟨hf,hk⟩
 ·have hr:=find_run ok hg hm hd hkey hf
  refine wp_value (w':=w') (v:=.tuple #[v,.bool true]) ?_ (hK _ _ _ _ inv hk)
  simp only [execOp,hop',a1,a2,Sem.run_bind,hr]
  rfl
 ·have hr:=find_run0 ok hg hm hd hz hz1 hkey hf
  refine wp_value (w':=w') (v:=.tuple #[.agg z.toArray,.bool false]) ?_ (hK _ _ _ _ inv hk)
  simp only [execOp,hop',a1,a2,Sem.run_bind,hr]
  rfl
theorem own_get {A Fe G tl:Vc.Own} {x:Nat × Obj}:(A++(Fe++(G++x::tl)))[A.length+Fe.length+G.length]?=some x:=by
 rw [List.getElem?_append_right (by omega),List.getElem?_append_right (by omega),List.getElem?_append_right (by omega)]
 simp [show A.length+Fe.length+G.length-A.length-Fe.length-G.length=0 by omega]
theorem own_set {A Fe G tl:Vc.Own} {x y:Nat × Obj}:(A++(Fe++(G++x::tl))).set (A.length+Fe.length+G.length) y=A++(Fe++(G++y::tl)):=by
 rw [List.set_append_right _ _ (by omega),List.set_append_right _ _ (by omega),List.set_append_right _ _ (by omega)]
 simp [show A.length+Fe.length+G.length-A.length-Fe.length-G.length=0 by omega]
theorem Ext.mapSet {T:Tab} {op:Op} {t kt et:TypeId} {d:TypeDesc} {m kO vO:Operand} {key v:Value} {b:Nat} {es:Array MapEntry} {clock:Nat} {h:Heap} {A Fe G tl:Vc.Own} {k:Value→Heap→Vc.Own→Prop} (hop:op=.insert t m kO vO∨op=.mapUpdate t m kO vO)
  (hm:T.und t=some (.map kt et)) (hd:T.und kt=some d) (hkey:MapKept.IsKey d key)
  (hk:(Instr.findNow d key es.toList 0=some none∧k undef h (A++(Fe++(G++(b,.map (es.push { key:=key,val:=v,born:=clock }) (clock+1))::tl))))∨
    (∃i e,Instr.findNow d key es.toList 0=some (some (i,e.val))∧es[i]?=some e∧e.key=key∧k undef h (A++(Fe++(G++(b,.map (es.modify i fun e=>{ e with key:=key,val:=v }) clock)::tl))))):
  Ext T op [m,kO,vO] [.map (some b),key,v] h (A++(Fe++(G++(b,.map es clock)::tl))) k:=by
 rcases hk with ⟨hf,hk⟩|⟨i,e,hf,he,hek,hk⟩
 ·exact Ext.mapNew _ hop own_get hm hd hkey hf (by rw [own_set];exact hk)
 ·refine ⟨fun ok o ρ K Q w h0' L0 w' hop' hargs inv hout hP hK=>.inl ?_⟩
  simp only [List.map_cons,List.map_nil,List.cons.injEq,and_true] at hargs
  obtain ⟨a1,a2,a3⟩:=hargs
  have hg:w'.heap[b]?=some (.map es clock):=inv.own _ (List.mem_of_getElem? own_get)
  have hst:(Instr.keyThatStays ((Option.map (fun x=>x.key) es[i]?).getD key) key).run T.prog w'=.ok key w':=by
   rw [he]
   show (Instr.keyThatStays e.key key).run T.prog w'=.ok key w'
   rw [hek]
   exact MapKept.run_keyThatStays hkey
  have hr:(Instr.mapUpdate t (.map (some b)) key v).run T.prog w'=.ok () { w' with heap:=w'.heap.setIfInBounds b (.map (es.modify i fun e=>{ e with key:=key,val:=v }) clock) }:=by
   simp [Instr.mapUpdate,run_underlying (ok.und _ _ hm),MapKept.run_getObj_map hg,MapKept.run_checkKey (ok.und _ _ hd) hkey false 9999,MapKept.run_findKey (ok.und _ _ hd) hf,hst,MapKept.run_setObj_map _ hg,Result.andThen]
  refine wp_skipd (w':=_) ?_ (hK undef _ _ _ (inv.upd own_get (upd_map _ hg)) (by rw [own_set];exact hk))
  rcases hop with rfl|rfl <;>
  ·simp only [execOp,hop',a1,a2,a3,Sem.run_bind,hr]
   rfl
end Go.Vc
namespace Go.Proofs.YtbgicephinomlaaGreatDoor
open Go Go.Vc Go.Dig
class UpV {α:Type} (P:Heap→Value→α→Prop):Prop where
 up:∀{h h':Heap} {v:Value} {a:α},h.le h'→P h v a→P h' v a
instance:UpV VE:=⟨fun hl ⟨op,arg,neg,n,d,name,s,e,w⟩=>⟨op,arg,neg,n,d,name,s,e,w.mono hl⟩⟩
def EntR {α:Type} (P:Heap→Value→α→Prop) (h:Heap) (x:MapEntry) (b:List Nat × α):Prop:=x.key=.string (txt b.1)∧(∀y∈b.1,y<256)∧P h x.val b.2
def EntsR {α:Type} (P:Heap→Value→α→Prop) (h:Heap):List MapEntry→List (List Nat × α)→Prop
 | [],[]=>True
 | x::xs,b::bs=>EntR P h x b∧EntsR P h xs bs
 | _,_=>False
theorem EntsR.mono {α:Type} {P:Heap→Value→α→Prop} [UpV P] {h h':Heap} (hl:h.le h'):∀{xs:List MapEntry} {bs:List (List Nat × α)},EntsR P h xs bs→EntsR P h' xs bs
 | [],[],_=>trivial
 | [],_::_,w=>w.elim
 | _::_,[],w=>w.elim
 | _::_,_::_,⟨⟨h1,h2,h3⟩,r⟩=>⟨⟨h1,h2,UpV.up hl h3⟩,EntsR.mono hl r⟩
theorem EntsR.push {α:Type} {P:Heap→Value→α→Prop} {h:Heap} {x:MapEntry} {b:List Nat × α} (hx:EntR P h x b):∀{xs:List MapEntry} {bs:List (List Nat × α)},EntsR P h xs bs→EntsR P h (xs++[x]) (bs++[b])
 | [],[],_=>⟨hx,trivial⟩
 | [],_::_,w=>w.elim
 | _::_,[],w=>w.elim
 | _::_,_::_,⟨h1,r⟩=>⟨h1,EntsR.push hx r⟩
theorem EntsR.set {α:Type} {P:Heap→Value→α→Prop} {h:Heap} {x:MapEntry} {b:List Nat × α} (hx:EntR P h x b):∀{j:Nat} {xs:List MapEntry} {bs:List (List Nat × α)},EntsR P h xs bs→EntsR P h (xs.set j x) (bs.set j b)
 | _,[],[],w=>w
 | _,[],_::_,w=>w.elim
 | _,_::_,[],w=>w.elim
 | 0,_::_,_::_,⟨_,r⟩=>⟨hx,r⟩
 | _+1,_::_,_::_,⟨h1,r⟩=>⟨h1,EntsR.set hx r⟩
def findB {α:Type}:List (List Nat × α)→List Nat→Option α
 | [],_=>none
 | (n,u)::bs,name=>if n=name then some u else findB bs name
theorem EntsR.find {α:Type} {P:Heap→Value→α→Prop} {h:Heap} {nm:List Nat} (hnm:∀y∈nm,y<256):∀{xs:List MapEntry} {bs:List (List Nat × α)} (i0:Nat),EntsR P h xs bs→
  (∃j x t,Instr.findNow .string (.string (txt nm)) xs i0=some (some (i0+j,x.val))∧xs[j]?=some x∧bs[j]?=some (nm,t)∧x.key=.string (txt nm)∧P h x.val t∧findB bs nm=some t)∨
  (Instr.findNow .string (.string (txt nm)) xs i0=some none∧nm∉bs.map (·.1)∧findB bs nm=none)
 | [],[],_,_=>.inr ⟨rfl,by simp,rfl⟩
 | [],_::_,_,w=>w.elim
 | _::_,[],_,w=>w.elim
 | x::xs,(n,t)::bs,i0,⟨⟨k1,k2,k3⟩,r⟩=>by
  by_cases e:n=nm
  ·subst e
   refine .inl ⟨0,x,t,?_,rfl,rfl,k1,k3,by rw [findB,if_pos rfl]⟩
   rw [Instr.findNow,k1,show Instr.sameNow .string (.string (txt n)) (.string (txt n))=some true from congrArg some ((MapKept.bytes_beq _ _).2 rfl)]
   rfl
  ·have hs:Instr.sameNow .string (.string (txt nm)) x.key=some false:=by
    rw [k1]
    show some (txt nm == txt n)=some false
    congr 1
    cases hb:(txt nm == txt n) with
    | false=>rfl
    | true=>exact absurd (txt_inj hnm k2 ((MapKept.bytes_beq _ _).1 hb)).symm e
   rcases EntsR.find hnm (i0+1) r with ⟨j,x',t',h1,h2,h3,h4,h5,h6⟩|⟨h1,h2,h3⟩
   ·exact .inl ⟨j+1,x',t',by rw [Instr.findNow,hs];simpa [Nat.add_comm,Nat.add_left_comm] using h1,by simpa using h2,by simpa using h3,h4,h5,by rw [findB,if_neg e];exact h6⟩
   ·refine .inr ⟨by rw [Instr.findNow,hs];exact h1,?_,by rw [findB,if_neg e];exact h3⟩
    simp only [List.map_cons,List.mem_cons,not_or]
    exact ⟨fun x=>e x.symm,h2⟩
theorem list_modify_set {α:Type} {f:α→α}:∀{l:List α} {i:Nat} {e:α},l[i]?=some e→l.modify i f=l.set i (f e)
 | [],_,_,h=>by simp at h
 | x::xs,0,e,h=>by
  simp at h;subst h;rfl
 | x::xs,i+1,e,h=>by
  rw [List.modify_succ_cons,List.set_cons_succ,list_modify_set (by simpa using h)]
theorem modify_set {es:Array MapEntry} {i:Nat} {e:MapEntry} (he:es[i]?=some e) (f:MapEntry→MapEntry):(es.modify i f).toList=es.toList.set i (f e):=by
 rw [Array.toList_modify,list_modify_set (by rw [Array.getElem?_toList];exact he)]
def byM (bs:List (List Nat × Tr)):Tr→Option Tr
 | .mk op _ _ _ _ name _=>if op=2 then findB bs name else none
end Go.Proofs.YtbgicephinomlaaGreatDoor
/- Subst on both sides; its law. -/
namespace Go.Vc
open Go Go.Dig
end Go.Vc
namespace Go.Proofs.YtbgicephinomlaaGreatDoor
open Go Go.Vc Go.Dig
def MsR {α:Type} (ms ps:List (List Nat × α)):Prop:=(∀n,n∈ms.map (·.1)↔n∈ps.map (·.1))∧((ps.map (·.1)).Nodup→ms=ps)
theorem MsR.new {α:Type} {ms ps:List (List Nat × α)} {n:List Nat} {u:α} (r:MsR ms ps):MsR (ms++[(n,u)]) (ps++[(n,u)]):=by
 refine ⟨fun k=>?_,fun h=>?_⟩
 ·have:=r.1 k
  simp only [List.map_append,List.mem_append,this]
 ·rw [List.map_append] at h
  rw [r.2 (List.nodup_append.1 h).1]
theorem MsR.old {α:Type} {ms ps:List (List Nat × α)} {n:List Nat} {u t:α} {j:Nat} (r:MsR ms ps) (hj:ms[j]?=some (n,t)):MsR (ms.set j (n,u)) (ps++[(n,u)]):=by
 have hm:(ms.set j (n,u)).map (·.1)=ms.map (·.1):=by
  rw [List.map_set]
  refine List.ext_getElem? fun i=>?_
  rw [List.getElem?_set]
  split
  ·rename_i e
   subst e
   rw [List.getElem?_map,hj]
   have:=(List.getElem?_eq_some_iff.1 hj).1
   rw [if_pos (by rw [List.length_map];exact this)]
   rfl
  ·rfl
 have hn:n∈ps.map (·.1):=(r.1 n).1 (List.mem_map.2 ⟨_,List.mem_of_getElem? hj,rfl⟩)
 refine ⟨fun k=>?_,fun h=>?_⟩
 ·rw [hm,r.1 k,List.map_append,List.mem_append]
  refine ⟨.inl,fun x=>x.elim id fun x=>?_⟩
  simp at x
  rw [x];exact hn
 ·rw [List.map_append] at h
  have:=(List.nodup_append.1 h).2.2 n hn n (by simp)
  exact absurd rfl this
theorem ValB_snoc {ps:List (List Nat × Tr)} {b:List Nat × Tr}:ValB (ps++[b])↔ValB ps∧ValT b.2:=by
 unfold ValB
 simp only [List.mem_append,List.mem_singleton]
 exact ⟨fun h=>⟨fun x hx=>h x (.inl hx),h b (.inr rfl)⟩,fun h x hx=>hx.elim (h.1 x) fun e=>e▸h.2⟩
theorem NmsB_snoc {α:Type} {ps:List (List Nat × α)} {b:List Nat × α}:NmsB (ps++[b])↔NmsB ps∧IsNm b.1∧b.1∉ps.map (·.1):=by
 unfold NmsB
 rw [List.map_append,List.nodup_append]
 simp only [List.mem_append,List.mem_singleton]
 constructor
 ·rintro ⟨h1,h2,-,h3⟩
  exact ⟨⟨fun x hx=>h1 x (.inl hx),h2⟩,h1 b (.inr rfl),fun hb=>h3 _ hb _ (by simp) rfl⟩
 ·rintro ⟨⟨h1,h2⟩,h3,h4⟩
  refine ⟨fun x hx=>hx.elim (h1 x) fun e=>e▸h3,h2,by simp,fun x hx y hy e=>?_⟩
  simp at hy
  subst e hy
  exact h4 hx
theorem NmsB_nil {α:Type}:NmsB ([]:List (List Nat × α)):=⟨fun _ h=>(by cases h),List.nodup_nil⟩
end Go.Proofs.YtbgicephinomlaaGreatDoor