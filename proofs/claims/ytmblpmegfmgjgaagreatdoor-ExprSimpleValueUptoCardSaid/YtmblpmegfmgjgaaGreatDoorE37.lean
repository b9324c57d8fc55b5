/- Swap: plain. -/
import Derived.Test.YtmblpmegfmgjgaaGreatDoorE33
import Derived.Test.YtmblpmegfmgjgaaGreatDoorE38
import Derived.RangeFuncNested
import Derived.RangeFuncBound
import Derived.RangeFuncCalls
import Derived.RangeFuncLeaves
import Derived.RangeFuncFrom
import Derived.Shelf.Abstract
import Derived.Shelf.RegionOpen
import Derived.WalkKit
import Derived.OwnWalkIn
import Derived.TacticsInMore
import Derived.LoopNIn
import Derived.LoopIn
set_option linter.unusedVariables false
set_option linter.unusedSimpArgs false
set_option maxHeartbeats 1000000
set_option maxRecDepth 20000
namespace Go.Proofs.YtmblpmegfmgjgaaGreatDoor
open Go Go.Vc Go.Dig
def sw (a b n:List Nat):List Nat:=if n=a then b else if n=b then a else n
def byP (a b:List Nat):Tr→Option Tr
 | .mk op arg neg l m name ks=>if op=2 then some (.mk op arg neg l m (sw a b name) ks) else none
def getB:List (List Nat × Tr)→List Nat→Tr→Tr
 | [],_,t=>t
 | (n,u)::bs,name,t=>if n=name then u else getB bs name t
def byR (bs:List (List Nat × Tr)):Tr→Option Tr
 | .mk op arg neg l m name ks=>if op=2 then some (getB bs name (.mk op arg neg l m name ks)) else none
mutual
def swK (a b:List Nat):Kt→Kt
 | .mk op arg q name ks=>if op=2 then .mk op arg q (sw a b name) ks else .mk op arg q name (swKs a b ks)
def swKs (a b:List Nat):List Kt→List Kt
 | []=>[]
 | t::ts=>swK a b t::swKs a b ts
end
def swB (a b:List Nat):List (List Nat × Tr):=[(a,varT b),(b,varT a)]
def swapX (a b:List Nat) (t:Tr):Tr × Nat:=if ¬ValT t then (zeroT,40) else if ¬(IsNm a∧IsNm b) then (zeroT,41) else (cloneT (rplT (byP a b) t),0)
def swapY (a b:List Nat) (t:Tr):Tr × Nat:=if ¬ValT t then (zeroT,40) else if ¬(IsNm a∧IsNm b) then (zeroT,41) else (rplT (byR (swB a b)) t,0)
def Agree (x y:Tr × Nat):Prop:=x.2=y.2∧(y.2≠0→x.1=zeroT)∧(y.2=0→okT 1 x.1∧okT 1 y.1∧sameB x.1 y.1=true)
end Go.Proofs.YtmblpmegfmgjgaaGreatDoor
/- Nodes replaced: the program's replaced, Swap; the document's subst, Swap; the law. -/
namespace Go.Vc
open Go Go.Dig
theorem LdN.tl3 {h:Heap} {A F G tl:Vc.Own} {b o m:Nat} {k:Value→Prop} {l:List Value} {T:TypeId} (hl:Nat.ble (o+m) l.length=true) (hk:k (.agg ((l.drop o).take m).toArray)):LdN h (A++(F++(G++(b,.cells l.toArray T (0,0))::tl))) ⟨b,o,none⟩ m k:=
 have hle:=Nat.le_of_ble_eq_true hl
 ⟨(l.drop o).take m,by rw [List.length_take,List.length_drop];omega,fun i hi=>by
   rw [add_lit]
   refine ⟨rfl,l.toArray,T,(0,0),.inr (by simp),?_⟩
   rw [List.getElem?_toArray,List.getD_eq_getElem?_getD,List.getElem?_take,if_pos hi,List.getElem?_drop,List.getElem?_eq_getElem (show o+i<l.length by omega)]
   rfl,hk⟩
theorem Sto.tl3 {A F G tl:Vc.Own} {b off:Nat} {vs l:List Value} {T:TypeId} {k:Vc.Own→Prop} (hl:Nat.ble (off+vs.length) l.length=true) (ho:vs.all isOne=true)
  (hk:setsK vs l off fun l=>k (A++(F++(G++(b,.cells l.toArray T (0,0))::tl)))):Sto (A++(F++(G++(b,.cells l.toArray T (0,0))::tl))) ⟨b,off,none⟩ vs k:=by
 have:=Sto.tl (A:=A) (X:=F++G) (tl:=tl) (b:=b) (off:=off) (vs:=vs) (l:=l) (T:=T) (k:=k) hl ho (by simpa [List.append_assoc] using hk)
 simpa [List.append_assoc] using this
end Go.Vc
namespace Go.Proofs.YtmblpmegfmgjgaaGreatDoor
open Go Go.Vc Go.Dig
def ByC (fb:FuncId) (cap:List Value) (g:Tr→Option Tr) (h0:Heap):Prop:=
 ∀(u:Tr) (d:Nat) (h:Heap) (vs:List Value),okT d u→h0.le h→IsE h vs u→Fn0 T fb (.agg vs.toArray::cap) h fun v h'=>∃a b x,v=.tuple #[a,.bool b]∧VE h' a x∧(b=true→g u=some x)∧(b=false→g u=none)
theorem nothing_ct (h:Heap) (vs:List Value) (w:IsE h vs zeroT):Fn0 T F.law04_nothing [.agg vs.toArray] h fun v h'=>v=.bool true:=by
 unfold zeroT at w
 obtain ⟨a,b,s,rfl,ho,ha,hv,hb,hk⟩:=w.isK
 have h1:=hv.num.len
 have h2:=hv.den.len
 have h3:=hk.len
 simp only [List.length_nil] at h1 h2 h3
 refine f0C ok D.law04_nothing rfl ?_
 conv=>whnf
 repeat ((first|refine oI.z ?_|refine cI.z ?_);conv=>whnf)
 repeat' first|((first|((first|refine oI.z ?_|refine cI.z ?_))|intro (_:Nat)|refine Ld.own 0 rfl rfl ?_) <;> (conv=>whnf))|(show cnd _ _ _;first|(refine cnd_nil [] rfl rfl (fun _=>?_) (fun hx=>absurd rfl hx);conv=>whnf)|(refine cnd_eq (fun _=>?_) (fun _=>?_) <;> first|(exfalso;omega)|(conv=>whnf)))
 all_goals exact RetN.all (by first|rfl|(rw [h2];exact congrArg Value.bool (eq_self 0)))
theorem agrees_ct (t u:Tr) (x y:Nat) (ag:Agree (t,x) (u,y)) (h:Heap) (vs us:List Value) (w:IsE h vs t) (w':IsE h us u):
  Fn0 T F.law04_agrees [.agg vs.toArray,.int .i64 x,.agg us.toArray,.int .i64 y] h fun v h'=>v=.bool true:=by
 obtain ⟨e1,e2,e3⟩:=ag
 replace e1:x=y:=e1
 replace e2:y≠0→t=zeroT:=e2
 replace e3:y=0→okT 1 t∧okT 1 u∧sameB t u=true:=e3
 subst e1
 have c1:=fun h w (z:x≠0)=>nothing_ct h vs (e2 z▸w)
 have c2:=fun h w w' (z:x=0)=>(e3 z).2.2▸Same_ct t u h vs us 1 1 w w' (e3 z).1 (e3 z).2.1
 clear e2 e3
 obtain ⟨⟨op,arg,neg,l,m,name,ks⟩,ht⟩:∃x,x=t:=⟨_,rfl⟩
 obtain ⟨a,b,s,hvs,-⟩:=(ht.symm▸w:IsE h vs (.mk op arg neg l m name ks)).isK
 obtain ⟨⟨op1,arg1,neg1,l1,m1,name1,ks1⟩,hu⟩:∃x,x=u:=⟨_,rfl⟩
 obtain ⟨a1,b1,s1,hus,-⟩:=(hu.symm▸w':IsE h us (.mk op1 arg1 neg1 l1 m1 name1 ks1)).isK
 subst hvs hus
 refine f0C ok D.law04_agrees rfl ?_
 conv=>whnf
 repeat ((first|refine oI.z ?_|refine cI.z ?_);conv=>whnf)
 repeat' first|((first|(show CN _ _ _ _ _ _;first|(refine CN.fn rfl (c1 _ (by assumption) (by omega)) (fun v h' hl2 hr=>?_);subst hr)|(refine CN.fn rfl (c2 _ (by assumption) (by assumption) (by omega)) (fun v h' hl2 hr=>?_);subst hr))|((first|refine oI.z ?_|refine cI.z ?_))|intro (_:Nat)|(show LdN _ _ _ _ _;first|refine LdN.own 0 rfl rfl ?_|refine LdN.own 1 rfl rfl ?_)) <;> (conv=>whnf))|(show cnd _ _ _;first|(refine cnd_eq (fun _=>?_) (fun _=>?_) <;> first|(exfalso;omega)|(conv=>whnf))|(refine cnd_not ?_))
 all_goals exact RetN.all rfl
end Go.Proofs.YtmblpmegfmgjgaaGreatDoor
/- A range over the nodes of a tree: the recursive iterator's contract. -/
namespace Go.Proofs.YtmblpmegfmgjgaaGreatDoor
open Go Go.Vc Go.Dig Go.RowKit Go.Shelf
attribute [local go_sem] Oper.semAt_some
structure KeepC (W W':World):Prop where
 os:W'.os=W.os
 tape:W'.tape=W.tape
 output:W'.output=W.output
 size:W.heap.size≤W'.heap.size
 cells:∀(k:Nat) (c:Array Value) (T:TypeId) (fz:Nat × Nat),W.heap[k]?=some (Obj.cells c T fz)→W'.heap[k]?=some (Obj.cells c T fz)
def Him (h:Heap) (W:World):Prop:=∀(b:Nat) (c:Array Value) (T:TypeId) (fz:Nat × Nat),h b=some (Obj.cells c T fz)→W.heap[b]?=some (Obj.cells c T fz)
structure NodeV where
 op:Int
 arg:Int
 neg:Bool
 a:Sl
 b:Sl
 name:List Nat
 s:Sl
 lt:∀y∈name,y<256
def NodeV.cells (x:NodeV):List Value:=[.int .i64 x.op,.int .i64 x.arg,.bool x.neg,.slice x.a.a x.a.l x.a.c,.slice x.b.a x.b.l x.b.c,.string (txt x.name),.slice x.s.a x.s.l x.s.c]
def NodeV.tag (x:NodeV):Int × List Nat:=(x.op,x.name)
end Go.Proofs.YtmblpmegfmgjgaaGreatDoor
/- Binds in memory; the document's subst; Swap's law. -/
namespace Go.Vc
open Go Go.Dig
theorem Ld.tl {h:Heap} {A F tl:Vc.Own} {b off:Nat} {k:Value→Prop} {l:List Value} {T:TypeId} {v:Value} (hv:l[off]?=some v) (hk:k v):Ld h (A++(F++(b,.cells l.toArray T (0,0))::tl)) ⟨b,off,none⟩ k:=
 ⟨v,⟨rfl,l.toArray,T,(0,0),.inr (by simp),by simpa using hv⟩,hk⟩
end Go.Vc
namespace Go.Proofs.YtmblpmegfmgjgaaGreatDoor
open Go Go.Vc Go.Dig
def IsBs (h:Heap) (c:Array Value):Nat→List (List Nat × Tr)→Prop
 | _,[]=>True
 | off,(n,t)::bs=>(c[off]?=some (.string (txt n))∧(∀y∈n,y<256)∧∃vs,vs.length=7∧(∀i,i<7→c[off+1+i]?=vs[i]?)∧IsE h vs t)∧IsBs h c (off+8) bs
structure IsB (h:Heap) (s:Sl) (bs:List (List Nat × Tr)):Prop where
 len:s.l=bs.length
 cap:s.l≤s.c
 mem:bs=[]∨∃bl off c T fz,s.a=some ⟨bl,off,none⟩∧h bl=some (.cells c T fz)∧IsBs h c off bs
attribute [local irreducible] Vc.Fn
end Go.Proofs.YtmblpmegfmgjgaaGreatDoor