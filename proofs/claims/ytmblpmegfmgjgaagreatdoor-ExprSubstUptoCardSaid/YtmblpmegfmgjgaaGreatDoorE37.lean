/- Swap: plain. -/
import Derived.Test.YtmblpmegfmgjgaaGreatDoorE33
import Derived.Test.YtmblpmegfmgjgaaGreatDoorE38
import Derived.RangeFuncNested
import Derived.RangeFuncBound
import Derived.RangeFuncCalls
import Derived.RangeFuncLeaves
import Derived.RangeFuncFrom
import Derived.Shelf.Abstract
import Derived.Shelf.RegionOpen
import Derived.WalkKit
import Derived.OwnWalkIn
import Derived.TacticsInMore
import Derived.LoopNIn
import Derived.LoopIn
set_option linter.unusedVariables false
set_option linter.unusedSimpArgs false
namespace Go.Proofs.YtmblpmegfmgjgaaGreatDoor
open Go Go.Vc Go.Dig
def sw (a b n:List Nat):List Nat:=if n=a then b else if n=b then a else n
def byP (a b:List Nat):Tr→Option Tr
 | .mk op arg neg l m name ks=>if op=2 then some (.mk op arg neg l m (sw a b name) ks) else none
def getB:List (List Nat × Tr)→List Nat→Tr→Tr
 | [],_,t=>t
 | (n,u)::bs,name,t=>if n=name then u else getB bs name t
def byR (bs:List (List Nat × Tr)):Tr→Option Tr
 | .mk op arg neg l m name ks=>if op=2 then some (getB bs name (.mk op arg neg l m name ks)) else none
mutual
def swK (a b:List Nat):Kt→Kt
 | .mk op arg q name ks=>if op=2 then .mk op arg q (sw a b name) ks else .mk op arg q name (swKs a b ks)
def swKs (a b:List Nat):List Kt→List Kt
 | []=>[]
 | t::ts=>swK a b t::swKs a b ts
end
def swB (a b:List Nat):List (List Nat × Tr):=[(a,varT b),(b,varT a)]
def swapX (a b:List Nat) (t:Tr):Tr × Nat:=if ¬ValT t then (zeroT,40) else if ¬(IsNm a∧IsNm b) then (zeroT,41) else (cloneT (rplT (byP a b) t),0)
def swapY (a b:List Nat) (t:Tr):Tr × Nat:=if ¬ValT t then (zeroT,40) else if ¬(IsNm a∧IsNm b) then (zeroT,41) else (rplT (byR (swB a b)) t,0)
def Agree (x y:Tr × Nat):Prop:=x.2=y.2∧(y.2≠0→x.1=zeroT)∧(y.2=0→okT 1 x.1∧okT 1 y.1∧sameB x.1 y.1=true)
end Go.Proofs.YtmblpmegfmgjgaaGreatDoor
/- Nodes replaced: the program's replaced, Swap; the document's subst, Swap; the law. -/
namespace Go.Vc
open Go Go.Dig
theorem allW_imp {ws:List Nat}:∀{i:Nat} {ρ:Env} {p q:Env→Prop},(∀ρ',p ρ'→q ρ')→allW ws i ρ p→allW ws i ρ q
 | i,[],p,q,f,h=>f _ h
 | i,x::ρ,p,q,f,h=>by
  cases hc:ws.contains i with
  | true=>
   simp only [allW,hc] at h ⊢
   exact fun y=>allW_imp (fun ρ'=>f _) (h y)
  | false=>
   simp only [allW,hc] at h ⊢
   exact allW_imp (fun ρ'=>f _) h
theorem LoopN.count {body:Post→Env→Heap→Vc.Own→Prop} {ws:List Nat} {Q:Post} {ρ:Env} {h:Heap} {L:Vc.Own} (s n:Nat) (P:Nat→Prop) (h0:rd ρ s=.int .i64 ((0:Nat):Int)) (p0:P 0)
  (hr:allW ws 0 ρ fun ρ'=>∀j:Nat,j≤n→rd ρ' s=.int .i64 j→P j→body (fun e ρ'' h'' L''=>match e with | .normal=>ρ''=over ws 0 ρ ρ''∧∃m,m<n-j∧∃j':Nat,m=n-j'∧j'≤n∧rd ρ'' s=.int .i64 j'∧P j'∧h''=h∧L''=L | e=>Q e ρ'' h'' L'') ρ' h L):LoopN body ws Q ρ h L:=by
 refine LoopN.of (fun r ρ' h' L'=>∃j':Nat,r=n-j'∧j'≤n∧rd ρ' s=.int .i64 j'∧P j'∧h'=h∧L'=L) n ⟨0,rfl,Nat.zero_le _,h0,p0,rfl,rfl⟩ ?_
 refine allW_imp (fun ρ' x r h' L' hI=>?_) hr
 obtain ⟨j,rfl,e2,e3,e4,rfl,rfl⟩:=hI
 exact x j e2 e3 e4
theorem LoopN.keepL {body:Post→Env→Heap→Vc.Own→Prop} {ws:List Nat} {Q:Post} {ρ:Env} {h:Heap} {L:Vc.Own} (I:Nat→Env→Heap→Prop) (n0:Nat) (h0:I n0 ρ h)
  (hr:allW ws 0 ρ fun ρ'=>∀r h',h.le h'→I r ρ' h'→body (fun e ρ'' h'' L''=>match e with | .normal=>ρ''=over ws 0 ρ ρ''∧∃m,m<r∧h.le h''∧L''=L∧I m ρ'' h'' | e=>Q e ρ'' h'' L'') ρ' h' L):LoopN body ws Q ρ h L:=by
 refine LoopN.of (fun r ρ' h' L'=>h.le h'∧L'=L∧I r ρ' h') n0 ⟨Heap.le_refl _,rfl,h0⟩ ?_
 refine allW_imp (fun ρ' x r h' L' hI=>?_) hr
 obtain ⟨h1,rfl,h3⟩:=hI
 exact x r h' h1 h3
theorem Ld.tl3 {h:Heap} {A F G tl:Vc.Own} {b off:Nat} {k:Value→Prop} {l:List Value} {T:TypeId} {v:Value} (hv:l[off]?=some v) (hk:k v):Ld h (A++(F++(G++(b,.cells l.toArray T (0,0))::tl))) ⟨b,off,none⟩ k:=
 ⟨v,⟨rfl,l.toArray,T,(0,0),.inr (by simp),by simpa using hv⟩,hk⟩
theorem LdN.tl3 {h:Heap} {A F G tl:Vc.Own} {b o m:Nat} {k:Value→Prop} {l:List Value} {T:TypeId} (hl:Nat.ble (o+m) l.length=true) (hk:k (.agg ((l.drop o).take m).toArray)):LdN h (A++(F++(G++(b,.cells l.toArray T (0,0))::tl))) ⟨b,o,none⟩ m k:=
 have hle:=Nat.le_of_ble_eq_true hl
 ⟨(l.drop o).take m,by rw [List.length_take,List.length_drop];omega,fun i hi=>by
   rw [add_lit]
   refine ⟨rfl,l.toArray,T,(0,0),.inr (by simp),?_⟩
   rw [List.getElem?_toArray,List.getD_eq_getElem?_getD,List.getElem?_take,if_pos hi,List.getElem?_drop,List.getElem?_eq_getElem (show o+i<l.length by omega)]
   rfl,hk⟩
theorem Sto.tl3 {A F G tl:Vc.Own} {b off:Nat} {vs l:List Value} {T:TypeId} {k:Vc.Own→Prop} (hl:Nat.ble (off+vs.length) l.length=true) (ho:vs.all isOne=true)
  (hk:setsK vs l off fun l=>k (A++(F++(G++(b,.cells l.toArray T (0,0))::tl)))):Sto (A++(F++(G++(b,.cells l.toArray T (0,0))::tl))) ⟨b,off,none⟩ vs k:=by
 have:=Sto.tl (A:=A) (X:=F++G) (tl:=tl) (b:=b) (off:=off) (vs:=vs) (l:=l) (T:=T) (k:=k) hl ho (by simpa [List.append_assoc] using hk)
 simpa [List.append_assoc] using this
end Go.Vc
namespace Go.Proofs.YtmblpmegfmgjgaaGreatDoor
open Go Go.Vc Go.Dig
def ByC (fb:FuncId) (cap:List Value) (g:Tr→Option Tr) (h0:Heap):Prop:=
 ∀(u:Tr) (d:Nat) (h:Heap) (vs:List Value),okT d u→h0.le h→IsE h vs u→Fn0 T fb (.agg vs.toArray::cap) h fun v h'=>∃a b x,v=.tuple #[a,.bool b]∧VE h' a x∧(b=true→g u=some x)∧(b=false→g u=none)
set_option maxRecDepth 20000 in
set_option maxHeartbeats 1000000 in
theorem nothing_ct (h:Heap) (vs:List Value) (w:IsE h vs zeroT):Fn0 T F.law04_nothing [.agg vs.toArray] h fun v h'=>v=.bool true:=by
 unfold zeroT at w
 obtain ⟨a,b,s,rfl,ho,ha,hv,hb,hk⟩:=w.isK
 have h1:=hv.num.len
 have h2:=hv.den.len
 have h3:=hk.len
 simp only [List.length_nil] at h1 h2 h3
 refine fn0_of_codeI ok D.law04_nothing rfl ?_
 conv=>whnf
 repeat ((first | refine opsI.step ?_ | refine codeI.step ?_);conv=>whnf)
 repeat' first | ((first | ((first | refine opsI.step ?_ | refine codeI.step ?_)) | intro (_:Nat) | refine Ld.own 0 rfl rfl ?_) <;> (conv=>whnf)) | (show cnd _ _ _;first | (refine cnd_nil [] rfl rfl (fun _=>?_) (fun hx=>absurd rfl hx);conv=>whnf) | (refine cnd_eq (fun _=>?_) (fun _=>?_) <;> first | (exfalso;omega) | (conv=>whnf)))
 all_goals exact RetN.all (by first | rfl | (rw [h2];exact congrArg Value.bool (eq_self 0)))
set_option maxRecDepth 20000 in
set_option maxHeartbeats 1000000 in
theorem agrees_ct (t u:Tr) (x y:Nat) (ag:Agree (t,x) (u,y)) (h:Heap) (vs us:List Value) (w:IsE h vs t) (w':IsE h us u):
  Fn0 T F.law04_agrees [.agg vs.toArray,.int .i64 x,.agg us.toArray,.int .i64 y] h fun v h'=>v=.bool true:=by
 obtain ⟨e1,e2,e3⟩:=ag
 replace e1:x=y:=e1
 replace e2:y≠0→t=zeroT:=e2
 replace e3:y=0→okT 1 t∧okT 1 u∧sameB t u=true:=e3
 subst e1
 have c1:=fun h w (z:x≠0)=>nothing_ct h vs (e2 z▸w)
 have c2:=fun h w w' (z:x=0)=>(e3 z).2.2▸Same_ct t u h vs us 1 1 w w' (e3 z).1 (e3 z).2.1
 clear e2 e3
 obtain ⟨⟨op,arg,neg,l,m,name,ks⟩,ht⟩:∃x,x=t:=⟨_,rfl⟩
 obtain ⟨a,b,s,hvs,-⟩:=(ht.symm▸w:IsE h vs (.mk op arg neg l m name ks)).isK
 obtain ⟨⟨op1,arg1,neg1,l1,m1,name1,ks1⟩,hu⟩:∃x,x=u:=⟨_,rfl⟩
 obtain ⟨a1,b1,s1,hus,-⟩:=(hu.symm▸w':IsE h us (.mk op1 arg1 neg1 l1 m1 name1 ks1)).isK
 subst hvs hus
 refine fn0_of_codeI ok D.law04_agrees rfl ?_
 conv=>whnf
 repeat ((first | refine opsI.step ?_ | refine codeI.step ?_);conv=>whnf)
 repeat' first | ((first | (show CallN _ _ _ _ _ _;first | (refine CallN.fn rfl (c1 _ (by assumption) (by omega)) (fun v h' hl2 hr=>?_);subst hr) | (refine CallN.fn rfl (c2 _ (by assumption) (by assumption) (by omega)) (fun v h' hl2 hr=>?_);subst hr)) | ((first | refine opsI.step ?_ | refine codeI.step ?_)) | intro (_:Nat) | (show LdN _ _ _ _ _;first | refine LdN.own 0 rfl rfl ?_ | refine LdN.own 1 rfl rfl ?_)) <;> (conv=>whnf)) | (show cnd _ _ _;first | (refine cnd_eq (fun _=>?_) (fun _=>?_) <;> first | (exfalso;omega) | (conv=>whnf)) | (refine cnd_not ?_))
 all_goals exact RetN.all rfl
end Go.Proofs.YtmblpmegfmgjgaaGreatDoor
/- A range over the nodes of a tree: the recursive iterator's contract. -/
namespace Go.Proofs.YtmblpmegfmgjgaaGreatDoor
open Go Go.Vc Go.Dig Go.RowKit Go.Shelf
attribute [local go_sem] Oper.semAt_some
structure KeepC (W W':World):Prop where
 os:W'.os=W.os
 tape:W'.tape=W.tape
 output:W'.output=W.output
 size:W.heap.size≤W'.heap.size
 cells:∀(k:Nat) (c:Array Value) (T:TypeId) (fz:Nat × Nat),W.heap[k]?=some (Obj.cells c T fz)→W'.heap[k]?=some (Obj.cells c T fz)
def Him (h:Heap) (W:World):Prop:=∀(b:Nat) (c:Array Value) (T:TypeId) (fz:Nat × Nat),h b=some (Obj.cells c T fz)→W.heap[b]?=some (Obj.cells c T fz)
structure NodeV where
 op:Int
 arg:Int
 neg:Bool
 a:Sl
 b:Sl
 name:List Nat
 s:Sl
 lt:∀y∈name,y<256
def NodeV.cells (x:NodeV):List Value:=[.int .i64 x.op,.int .i64 x.arg,.bool x.neg,.slice x.a.a x.a.l x.a.c,.slice x.b.a x.b.l x.b.c,.string (txt x.name),.slice x.s.a x.s.l x.s.c]
def NodeV.tag (x:NodeV):Int × List Nat:=(x.op,x.name)
end Go.Proofs.YtmblpmegfmgjgaaGreatDoor
/- Binds in memory; the document's subst; Swap's law. -/
namespace Go.Vc
open Go Go.Dig
theorem Ld.tl {h:Heap} {A F tl:Vc.Own} {b off:Nat} {k:Value→Prop} {l:List Value} {T:TypeId} {v:Value} (hv:l[off]?=some v) (hk:k v):Ld h (A++(F++(b,.cells l.toArray T (0,0))::tl)) ⟨b,off,none⟩ k:=
 ⟨v,⟨rfl,l.toArray,T,(0,0),.inr (by simp),by simpa using hv⟩,hk⟩
end Go.Vc
namespace Go.Proofs.YtmblpmegfmgjgaaGreatDoor
open Go Go.Vc Go.Dig
def IsBs (h:Heap) (c:Array Value):Nat→List (List Nat × Tr)→Prop
 | _,[]=>True
 | off,(n,t)::bs=>(c[off]?=some (.string (txt n))∧(∀y∈n,y<256)∧∃vs,vs.length=7∧(∀i,i<7→c[off+1+i]?=vs[i]?)∧IsE h vs t)∧IsBs h c (off+8) bs
structure IsB (h:Heap) (s:Sl) (bs:List (List Nat × Tr)):Prop where
 len:s.l=bs.length
 cap:s.l≤s.c
 mem:bs=[]∨∃bl off c T fz,s.a=some ⟨bl,off,none⟩∧h bl=some (.cells c T fz)∧IsBs h c off bs
theorem IsBs.up {h h':Heap} (hl:h.le h') {c:Array Value}:∀{bs:List (List Nat × Tr)} {off:Nat},IsBs h c off bs→IsBs h' c off bs
 | [],_,_=>trivial
 | (_,_)::_,_,⟨⟨h1,h2,vs,h3,h4,h5⟩,r⟩=>⟨⟨h1,h2,vs,h3,h4,h5.mono hl⟩,IsBs.up hl r⟩
theorem IsB.mono {h h':Heap} {s:Sl} {bs:List (List Nat × Tr)} (w:IsB h s bs) (hl:h.le h'):IsB h' s bs:=
 ⟨w.len,w.cap,w.mem.elim .inl fun ⟨bl,off,c,T,fz,k1,k2,k3⟩=>.inr ⟨bl,off,c,T,fz,k1,hl _ _ k2,IsBs.up hl k3⟩⟩
theorem IsBs.get {h:Heap} {c:Array Value}:∀{bs:List (List Nat × Tr)} {off j:Nat} {n:List Nat} {t:Tr},IsBs h c off bs→bs[j]?=some (n,t)→
  c[off+j*8]?=some (.string (txt n))∧(∀y∈n,y<256)∧∃vs,vs.length=7∧(∀i,i<7→c[off+j*8+1+i]?=vs[i]?)∧IsE h vs t
 | [],_,_,_,_,_,e=>by simp at e
 | (n',t')::bs,off,0,n,t,w,e=>by
  simp at e
  obtain ⟨rfl,rfl⟩:=e
  rw [Nat.zero_mul,Nat.add_zero]
  exact w.1
 | (n',t')::bs,off,j+1,n,t,w,e=>by
  have:=IsBs.get (j:=j) w.2 (by simpa using e)
  rw [show off+8+j*8=off+(j+1)*8 by omega] at this
  exact this
theorem Idx.bind {h:Heap} {s:Sl} {bs:List (List Nat × Tr)} (w:IsB h s bs) {i:Int} {k:Addr→Prop} (j:Nat) (n:List Nat) (t:Tr) (hi:i=j) (ht:bs[j]?=some (n,t))
  (hk:∀(bl off:Nat) (op arg:Int) (neg:Bool) (a b:Sl) (name:List Nat) (s':Sl),(∀y∈n,y<256)→IsE h [.int .i64 op,.int .i64 arg,.bool neg,a.val,b.val,.string (txt name),s'.val] t→
    (∀h' L,h.le h'→Has h' L ⟨bl,off,none⟩ (.string (txt n)))→(∀h' L (i:Nat) v,h.le h'→[.int .i64 op,.int .i64 arg,.bool neg,a.val,b.val,.string (txt name),s'.val][i]?=some v→Has h' L ⟨bl,off+1+i,none⟩ v)→k ⟨bl,off,none⟩):Idx s.a i s.l 8 k:=by
 obtain ⟨hj,-⟩:=List.getElem?_eq_some_iff.1 ht
 rcases w.mem with e | ⟨bl,off,c,T,fz,e1,e2,e3⟩
 ·subst e;simp at ht
 ·obtain ⟨g1,g2,vs,h1,h2,h3⟩:=IsBs.get e3 ht
  obtain ⟨op,arg,neg,l,m,name,ks⟩:=t
  have h3':=h3
  rw [IsE] at h3
  obtain ⟨a,b,s',rfl,-⟩:=h3
  refine Idx.of j e1 hi (by rw [w.len];exact hj) ?_
  refine hk bl (off+j*8) op arg neg a b name s' g2 h3' (fun h' L hl=>Has.imm (hl _ _ e2) g1) fun h' L i v hl hv=>Has.imm (hl _ _ e2) ?_
  have hi7:i<7:=(List.getElem?_eq_some_iff.1 hv).1
  rw [h2 i hi7,hv]
theorem LdN.has7 {h:Heap} {L:Vc.Own} {b o:Nat} {k:Value→Prop} (vs:List Value) (hl:vs.length=7) (hv:∀(i:Nat) v,vs[i]?=some v→Has h L ⟨b,o+i,none⟩ v) (hk:k (.agg vs.toArray)):LdN h L ⟨b,o,none⟩ 7 k:=
 ⟨vs,hl,fun i hi=>by
   rw [add_lit]
   exact hv i _ (by rw [List.getD_eq_getElem?_getD,List.getElem?_eq_getElem (by omega)];rfl),hk⟩
set_option maxRecDepth 20000 in
set_option maxHeartbeats 2000000 in
theorem subst_ct (bs:List (List Nat × Tr)) (hbl:bs.length≤1099511627776) (sb:Sl):∀t:Tr,∀(h:Heap) (vs:List Value) (d:Nat),IsB h sb bs→IsE h vs t→okT d t→Fn0 T F.ref04_subst [.agg vs.toArray,sb.val] h fun v h'=>VE h' v (rplT (byR bs) t):=by
 refine tree_ind fun t ih=>?_
 intro h vs d wb w hok
 obtain ⟨op,arg,neg,l,m,name,ks⟩:=t
 obtain ⟨a,b,s,rfl,ho,ha,hv,hb,hk⟩:=w.isK
 rw [okT] at hok
 obtain ⟨hd,hnb,hoks⟩:=hok
 have hks:ks.length≤3:=by
  have h1:=hnb.1
  have h2:=kidsN_le op
  omega
 have hkl:=hk.len
 have hsl:=wb.len
 have r1:op=2→rplT (byR bs) (.mk op arg neg l m name ks)=getB bs name (.mk op arg neg l m name ks):=fun e=>rplT_some (if_pos e)
 have r2:¬op=2→rplT (byR bs) (.mk op arg neg l m name ks)=.mk op arg neg l m name (rplTs (byR bs) ks):=fun e=>rplT_none (if_neg e)
 obtain ⟨R,hR⟩:∃R,R=rplT (byR bs) (.mk op arg neg l m name ks):=⟨_,rfl⟩
 rw [← hR] at r1 r2 ⊢
 clear hR
 refine fn0_of_codeI ok D.ref04_subst rfl ?_
 conv=>whnf
 repeat ((first | refine opsI.step ?_ | refine codeI.step ?_);conv=>whnf)
 repeat' first | ((first | (show LdN _ _ _ _ _;refine LdN.ownAt 1 rfl rfl ?_) | ((first | refine opsI.step ?_ | refine codeI.step ?_)) | intro (_:Nat) | refine Ld.own 1 rfl rfl ?_ | refine Sto.lit 0 rfl rfl rfl ?_) <;> (conv=>whnf)) | (refine cnd_eq (fun _=>?_) (fun _=>?_) <;> first | (exfalso;omega) | (conv=>whnf))
 ·rename_i be bz hop
  refine LoopN.of (fun r ρ hx L=>∃j:Nat,r=bs.length-j∧h.le hx∧j≤bs.length∧rd ρ 5=.int .i64 j∧
    L=[(bz,.cells [.int .i64 0,.int .i64 0,.bool false,.slice none 0 0,.slice none 0 0,.string (txt []),.slice none 0 0].toArray Ty.api_Expr (0,0)),(be,.cells [.int .i64 op,.int .i64 arg,.bool neg,a.val,b.val,.string (txt name),s.val].toArray Ty.api_Expr (0,0))]∧Hq (getB bs name (.mk op arg neg l m name ks)=getB (bs.drop j) name (.mk op arg neg l m name ks))) bs.length
   ⟨0,rfl,Heap.le_refl _,Nat.zero_le _,rfl,rfl,⟨rfl⟩⟩ ?_
  conv=>whnf
  repeat intro _
  rename_i r hx L2 hI
  obtain ⟨j,rfl,hle,hj,e5,rfl,hq⟩:=hI
  conv at e5=>lhs;whnf
  subst e5
  have wx:=w.mono hle
  by_cases hjl:j=bs.length
  ·subst hjl
   have hr:R=(.mk op arg neg l m name ks):=by rw [r1 hop,hq.out,List.drop_length,getB]
   conv=>whnf
   repeat ((first | refine opsI.step ?_ | refine codeI.step ?_);conv=>whnf)
   repeat' first | ((first | (show LdN _ _ _ _ _;first | refine LdN.ownAt 1 rfl rfl ?_ | refine LdN.own 0 rfl rfl ?_) | ((first | refine opsI.step ?_ | refine codeI.step ?_)) | refine Sto.lit 0 rfl rfl rfl ?_) <;> (conv=>whnf)) | (refine cnd_lt (fun _=>?_) (fun _=>?_) <;> first | (exfalso;omega) | (conv=>whnf))
   rw [hr]
   exact RetN.all ⟨op,arg,neg,a,b,name,s,rfl,wx⟩
  ·obtain ⟨⟨n,u⟩,hu⟩:∃x,bs[j]?=some x:=⟨_,List.getElem?_eq_getElem (by omega)⟩
   have hdr:bs.drop j=(n,u)::bs.drop (j+1):=by
    obtain ⟨h1,h2⟩:=List.getElem?_eq_some_iff.1 hu
    rw [List.drop_eq_getElem_cons h1,h2]
   have hq2:=hq.out
   rw [hdr,getB] at hq2
   have hr1:n=name→R=u:=fun e=>by rw [r1 hop,hq2,if_pos e]
   have hr2:¬n=name→getB bs name (.mk op arg neg l m name ks)=getB (bs.drop (j+1)) name (.mk op arg neg l m name ks):=fun e=>by rw [hq2,if_neg e]
   replace hr2:=Hq.mk hr2
   have wbx:=wb.mono hle
   clear hq hq2
   conv=>whnf
   repeat ((first | refine opsI.step ?_ | refine codeI.step ?_);conv=>whnf)
   repeat' first | ((first | (show Idx _ _ _ _ _;refine Idx.bind wbx j n u (by omega) hu (fun bl off op2 arg2 neg2 a2 b2 name2 s2 hnn hE h1 h2=>?_)) | (show Ld _ _ _ _;first | refine Ld.of (h1 _ _ (Heap.le_refl _)) ?_ | refine Ld.own 1 rfl rfl ?_) | (show LdN _ _ _ _ _;first | refine LdN.has7 _ rfl (fun i v hv=>h2 _ _ i v (Heap.le_refl _) hv) ?_ | refine LdN.own 0 rfl rfl ?_) | ((first | refine opsI.step ?_ | refine codeI.step ?_)) | refine WrapN.i64 (by omega) (by omega) ?_ | refine Sto.lit 0 rfl rfl rfl ?_ | refine DrawN.run (by decide +kernel) ?_) <;> (conv=>whnf)) | (show cnd _ _ _;first | (refine cnd_txt hnn hb (fun _=>?_) (fun _=>?_) <;> (conv=>whnf)) | (refine cnd_lt (fun _=>?_) (fun _=>?_) <;> first | (exfalso;omega) | (conv=>whnf)))
   ·rw [hr1 (by assumption)]
    exact RetN.all ⟨op2,arg2,neg2,a2,b2,name2,s2,rfl,hE⟩
   ·exact ⟨rfl,bs.length-(j+1),by omega,j+1,rfl,(by assumption),by omega,vi (by omega),rfl,⟨hr2.out (by assumption)⟩⟩
 ·rename_i be bz hop bo
  rw [r2 hop]
  clear r1 r2
  refine LoopN.of (fun r ρ hx L=>∃(j:Nat) (V:Value) (F1:Vc.Own) (xs:List Value),r=ks.length-j∧h.le hx∧j≤ks.length∧rd ρ 7=.int .i64 j∧
    L=F1++((bo,.cells [.int .i64 op,.int .i64 arg,.bool neg,a.val,b.val,.string (txt name),V].toArray Ty.api_Expr (0,0))::(bz,.cells [.int .i64 0,.int .i64 0,.bool false,.slice none 0 0,.slice none 0 0,.string (txt []),.slice none 0 0].toArray Ty.api_Expr (0,0))::(be,.cells [.int .i64 op,.int .i64 arg,.bool neg,a.val,b.val,.string (txt name),s.val].toArray Ty.api_Expr (0,0))::[])∧
    GrowS Ty.api_Expr 7 V j xs F1∧KC hx xs (rplTs (byR bs) (ks.take j))) ks.length
   ⟨0,_,[],[],rfl,Heap.le_refl _,Nat.zero_le _,rfl,rfl,GrowS.nil _ _ _,by rw [List.take_zero,rplTs];rfl⟩ ?_
  conv=>whnf
  repeat intro _
  rename_i r hx L2 hI
  obtain ⟨j,V,F1,xs,rfl,hle,hj,e7,rfl,gF,hK⟩:=hI
  conv at e7=>lhs;whnf
  subst e7
  obtain ⟨sv,rfl⟩:=gF.sl
  by_cases hjl:j=ks.length
  ·subst hjl
   rw [List.take_length] at hK
   conv=>whnf
   repeat ((first | refine opsI.step ?_ | refine codeI.step ?_);conv=>whnf)
   repeat' first | ((first | (show Ld _ _ _ _;refine Ld.tl (A:=F1) (F:=[_,_]) rfl ?_) | (show LdN _ _ _ _ _;first | refine LdN.tl (A:=[]) (F:=F1) rfl ?_ | refine LdN.tl (A:=F1) (F:=[_]) rfl ?_) | (show Sto _ _ _ _;refine Sto.tl (A:=F1) (X:=[_]) rfl rfl ?_) | ((first | refine opsI.step ?_ | refine codeI.step ?_))) <;> (conv=>whnf)) | (refine cnd_lt (fun _=>?_) (fun _=>?_) <;> first | (exfalso;omega) | (conv=>whnf))
   refine RetN.rowA (X:=F1) gF hK (rplTs_len (byR bs) ks).symm fun h'' s' hl hs hk'=>?_
   rw [hs]
   exact ⟨op,arg,neg,a,b,name,s',rfl,IsE.mkK ho ha (by (iterate 30 (try first | assumption | refine IsVal.mono ?_ (by assumption)));first | done | assumption) hb hk'⟩
  ·obtain ⟨t,ht⟩:∃t,ks[j]?=some t:=⟨_,List.getElem?_eq_getElem (by omega)⟩
   have c2:=fun h vs wb w=>ih t (szT_kid ht) h vs (d+1) wb w (okTs_mem hoks (List.mem_of_getElem? ht))
   have hkx:=hk.mono hle
   have wbx:=wb.mono hle
   conv=>whnf
   repeat ((first | refine opsI.step ?_ | refine codeI.step ?_);conv=>whnf)
   repeat' first | ((first | (show Ld _ _ _ _;first | refine Ld.tl (A:=F1) (F:=[_,_]) rfl ?_ | refine Ld.tl (A:=[_]) (F:=F1) rfl ?_) | (show Idx _ _ _ _ _;refine Idx.kid hkx j t (by omega) ht (fun ad op3 arg3 neg3 a3 b3 name3 s3 hE hld=>?_)) | refine hld _ _ _ (Heap.le_refl _) ?_ | ((first | refine opsI.step ?_ | refine codeI.step ?_)) | intro (_:Nat) | (show CallN _ _ _ _ _ _;(refine CallN.fn rfl (c2 _ _ wbx (by assumption)) (fun v h' hl2 hr=>?_);obtain ⟨op4,ar4,ng4,nn4,dd4,nm4,ss4,rfl,hE2⟩:=hr;have hK2:=hK.mono hl2)) | (show App _ _ _ _ _ _ _ _ _;(refine App.growK (A:=[_,_]) (F:=F1) (size:=7) (bytes:=112) (z:=[.int .i64 0,.int .i64 0,.bool false,.slice none 0 0,.slice none 0 0,.string (txt []),.slice none 0 0]) rfl rfl gF ⟨_,0,none⟩ 1 1 [_,_,_,_,_,_,_] rfl (Has.front _) rfl (by decide) (by omega) (by omega) (by decide) (fun v' F' g'=>?_);obtain ⟨sv',rfl⟩:=g'.sl)) | (show Sto _ _ _ _;first | refine Sto.tl (A:=[_,_]) (X:=F') rfl rfl ?_ | refine Sto.lit 0 rfl rfl rfl ?_) | refine WrapN.i64 (by omega) (by omega) ?_ | refine LdN.own 0 rfl rfl ?_) <;> (conv=>whnf)) | (refine cnd_lt (fun _=>?_) (fun _=>?_) <;> first | (exfalso;omega) | (conv=>whnf))
   exact ⟨rfl,ks.length-(j+1),by omega,j+1,_,_::_::F',_,rfl,(by (iterate 30 (try first | assumption | refine Heap.le_trans ?_ (by assumption)));first | done | assumption),by omega,vi (by omega),rfl,(g'.cons _).cons _,by rw [take_snoc ht,rplTs_append,rplTs,rplTs];exact KC.snoc rfl hE2 hK2⟩
attribute [local irreducible] Vc.Fn
set_option maxRecDepth 20000 in
theorem RFits_ct (t:Tr) (h:Heap) (vs:List Value) (w:IsE h vs t):Fn0 T F.ref04_Fits [.agg vs.toArray] h fun v h'=>v=.bool (dec (ValT t)):=by
 have hv:=wlkT_val t
 have c1:=fun h w=>rwalk_ct t h vs 1 300 w (by omega) (by omega)
 obtain ⟨C,hC⟩:∃C,C=wlkT 1 300 t:=⟨_,rfl⟩
 rw [← hC] at c1 hv
 obtain ⟨⟨op,arg,neg,l,m,name,ks⟩,ht⟩:∃x,x=t:=⟨_,rfl⟩
 obtain ⟨a,b,s,hvs,-⟩:=(ht.symm▸w:IsE h vs (.mk op arg neg l m name ks)).isK
 subst hvs
 refine fn0_of_codeI ok D.ref04_Fits rfl ?_
 conv=>whnf
 repeat ((first | refine opsI.step ?_ | refine codeI.step ?_);conv=>whnf)
 repeat' first | ((first | (show CallN _ _ _ _ _ _;(refine CallN.fn rfl (c1 _ (by assumption)) (fun v h' hl2 hr=>?_);subst hr)) | ((first | refine opsI.step ?_ | refine codeI.step ?_)) | intro (_:Nat) | refine LdN.own 0 rfl rfl ?_) <;> (conv=>whnf))
 refine RetN.all ?_
 congr 1
 unfold le
 rw [dec_eq]
 refine decide_eq_decide.2 ?_
 rw [← hv]
set_option maxRecDepth 20000 in
theorem Rfits_ct (t:Tr) (h:Heap) (vs:List Value) (w:IsE h vs t):Fn0 T F.ref04_fits [.agg vs.toArray] h fun v h'=>v=.bool (dec (ValT t)):=by
 have c1:=fun h w=>RFits_ct t h vs w
 obtain ⟨⟨op,arg,neg,l,m,name,ks⟩,ht⟩:∃x,x=t:=⟨_,rfl⟩
 obtain ⟨a,b,s,hvs,-⟩:=(ht.symm▸w:IsE h vs (.mk op arg neg l m name ks)).isK
 subst hvs
 refine fn0_of_codeI ok D.ref04_fits rfl ?_
 conv=>whnf
 repeat ((first | refine opsI.step ?_ | refine codeI.step ?_);conv=>whnf)
 repeat' first | ((first | (show CallN _ _ _ _ _ _;(refine CallN.fn rfl (c1 _ (by assumption)) (fun v h' hl2 hr=>?_);subst hr)) | ((first | refine opsI.step ?_ | refine codeI.step ?_)) | intro (_:Nat) | refine LdN.own 0 rfl rfl ?_) <;> (conv=>whnf))
 exact RetN.all rfl
end Go.Proofs.YtmblpmegfmgjgaaGreatDoor