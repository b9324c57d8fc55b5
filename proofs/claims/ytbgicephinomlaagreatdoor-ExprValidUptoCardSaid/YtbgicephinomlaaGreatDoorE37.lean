/- Swap: plain. -/
import Derived.Test.YtbgicephinomlaaGreatDoorE33
import Derived.Test.YtbgicephinomlaaGreatDoorE38
import Derived.RangeFuncNested
import Derived.RangeFuncBound
import Derived.RangeFuncCalls
import Derived.RangeFuncLeaves
import Derived.RangeFuncFrom
import Derived.Shelf.Abstract
import Derived.Shelf.RegionOpen
import Derived.WalkKit
import Derived.OwnWalkIn
import Derived.TacticsInMore
import Derived.LoopNIn
import Derived.LoopIn
set_option linter.unusedVariables false
set_option linter.unusedSimpArgs false
namespace Go.Proofs.YtbgicephinomlaaGreatDoor
open Go Go.Vc Go.Dig
def sw (a b n:List Nat):List Nat:=if n=a then b else if n=b then a else n
def byP (a b:List Nat):Tr→Option Tr
 | .mk op arg neg l m name ks=>if op=2 then some (.mk op arg neg l m (sw a b name) ks) else none
def getB:List (List Nat × Tr)→List Nat→Tr→Tr
 | [],_,t=>t
 | (n,u)::bs,name,t=>if n=name then u else getB bs name t
def byR (bs:List (List Nat × Tr)):Tr→Option Tr
 | .mk op arg neg l m name ks=>if op=2 then some (getB bs name (.mk op arg neg l m name ks)) else none
mutual
def swK (a b:List Nat):Kt→Kt
 | .mk op arg q name ks=>if op=2 then .mk op arg q (sw a b name) ks else .mk op arg q name (swKs a b ks)
def swKs (a b:List Nat):List Kt→List Kt
 | []=>[]
 | t::ts=>swK a b t::swKs a b ts
end
def swB (a b:List Nat):List (List Nat × Tr):=[(a,varT b),(b,varT a)]
def swapX (a b:List Nat) (t:Tr):Tr × Nat:=if ¬ValT t then (zeroT,40) else if ¬(IsNm a∧IsNm b) then (zeroT,41) else (cloneT (rplT (byP a b) t),0)
def swapY (a b:List Nat) (t:Tr):Tr × Nat:=if ¬ValT t then (zeroT,40) else if ¬(IsNm a∧IsNm b) then (zeroT,41) else (rplT (byR (swB a b)) t,0)
def Agree (x y:Tr × Nat):Prop:=x.2=y.2∧(y.2≠0→x.1=zeroT)∧(y.2=0→okT 1 x.1∧okT 1 y.1∧sameB x.1 y.1=true)
end Go.Proofs.YtbgicephinomlaaGreatDoor
/- Nodes replaced: the program's replaced, Swap; the document's subst, Swap; the law. -/
namespace Go.Vc
open Go Go.Dig
theorem allW_imp {ws:List Nat}:∀{i:Nat} {ρ:Env} {p q:Env→Prop},(∀ρ',p ρ'→q ρ')→allW ws i ρ p→allW ws i ρ q
 | i,[],p,q,f,h=>f _ h
 | i,x::ρ,p,q,f,h=>by
  cases hc:ws.contains i with
  | true=>
   simp only [allW,hc] at h ⊢
   exact fun y=>allW_imp (fun ρ'=>f _) (h y)
  | false=>
   simp only [allW,hc] at h ⊢
   exact allW_imp (fun ρ'=>f _) h
theorem LoopN.count {body:Post→Env→Heap→Vc.Own→Prop} {ws:List Nat} {Q:Post} {ρ:Env} {h:Heap} {L:Vc.Own} (s n:Nat) (P:Nat→Prop) (h0:rd ρ s=.int .i64 ((0:Nat):Int)) (p0:P 0)
  (hr:allW ws 0 ρ fun ρ'=>∀j:Nat,j≤n→rd ρ' s=.int .i64 j→P j→body (fun e ρ'' h'' L''=>match e with | .normal=>ρ''=over ws 0 ρ ρ''∧∃m,m<n-j∧∃j':Nat,m=n-j'∧j'≤n∧rd ρ'' s=.int .i64 j'∧P j'∧h''=h∧L''=L | e=>Q e ρ'' h'' L'') ρ' h L):LoopN body ws Q ρ h L:=by
 refine LoopN.of (fun r ρ' h' L'=>∃j':Nat,r=n-j'∧j'≤n∧rd ρ' s=.int .i64 j'∧P j'∧h'=h∧L'=L) n ⟨0,rfl,Nat.zero_le _,h0,p0,rfl,rfl⟩ ?_
 refine allW_imp (fun ρ' x r h' L' hI=>?_) hr
 obtain ⟨j,rfl,e2,e3,e4,rfl,rfl⟩:=hI
 exact x j e2 e3 e4
theorem LoopN.keepL {body:Post→Env→Heap→Vc.Own→Prop} {ws:List Nat} {Q:Post} {ρ:Env} {h:Heap} {L:Vc.Own} (I:Nat→Env→Heap→Prop) (n0:Nat) (h0:I n0 ρ h)
  (hr:allW ws 0 ρ fun ρ'=>∀r h',h.le h'→I r ρ' h'→body (fun e ρ'' h'' L''=>match e with | .normal=>ρ''=over ws 0 ρ ρ''∧∃m,m<r∧h.le h''∧L''=L∧I m ρ'' h'' | e=>Q e ρ'' h'' L'') ρ' h' L):LoopN body ws Q ρ h L:=by
 refine LoopN.of (fun r ρ' h' L'=>h.le h'∧L'=L∧I r ρ' h') n0 ⟨Heap.le_refl _,rfl,h0⟩ ?_
 refine allW_imp (fun ρ' x r h' L' hI=>?_) hr
 obtain ⟨h1,rfl,h3⟩:=hI
 exact x r h' h1 h3
end Go.Vc
namespace Go.Proofs.YtbgicephinomlaaGreatDoor
open Go Go.Vc Go.Dig
def ByC (fb:FuncId) (cap:List Value) (g:Tr→Option Tr) (h0:Heap):Prop:=
 ∀(u:Tr) (d:Nat) (h:Heap) (vs:List Value),okT d u→h0.le h→IsE h vs u→Fn0 T fb (.agg vs.toArray::cap) h fun v h'=>∃a b x,v=.tuple #[a,.bool b]∧VE h' a x∧(b=true→g u=some x)∧(b=false→g u=none)
end Go.Proofs.YtbgicephinomlaaGreatDoor
/- A range over the nodes of a tree: the recursive iterator's contract. -/
namespace Go.Proofs.YtbgicephinomlaaGreatDoor
open Go Go.Vc Go.Dig Go.RowKit Go.Shelf
attribute [local go_sem] Oper.semAt_some
theorem room_of_none {Fe:Fence} (hd:Fe.depth=none) (k:Nat):Fe.room k:=fun d h=>by rw [hd] at h;cases h
theorem roundIn_any {Fe:Fence} (hd:Fe.depth=none) {m m':Nat} {P:Program} {l:Nat} {f:FuncId} {tmps:Array Value} {assign body:Code} {w:World} {R:Ending→World→Prop}
  (h:RoundIn Fe m P l f tmps assign body w R):RoundIn Fe m' P l f tmps assign body w R:=⟨h.1,fun c cs _=>h.2 c cs (room_of_none hd _)⟩
theorem yield_any {Fe:Fence} (hd:Fe.depth=none) {m:Nat} (m':Nat) {P:Program} {l:Nat} {args:Array Value} {W:World} {R:Ending→World→Prop} (h:YieldAt Fe m P l args W R):YieldAt Fe m' P l args W R:=by
 obtain ⟨fn,tmps,assign,body,hy,hR⟩:=h
 exact ⟨fn,tmps,assign,body,hy,roundIn_any hd hR⟩
structure KeepC (W W':World):Prop where
 os:W'.os=W.os
 tape:W'.tape=W.tape
 output:W'.output=W.output
 size:W.heap.size≤W'.heap.size
 cells:∀(k:Nat) (c:Array Value) (T:TypeId) (fz:Nat × Nat),W.heap[k]?=some (Obj.cells c T fz)→W'.heap[k]?=some (Obj.cells c T fz)
theorem KeepC.refl (W:World):KeepC W W:=⟨rfl,rfl,rfl,Nat.le_refl _,fun _ _ _ _ h=>h⟩
theorem KeepC.trans {A B C:World} (h:KeepC A B) (k:KeepC B C):KeepC A C:=
 ⟨k.os.trans h.os,k.tape.trans h.tape,k.output.trans h.output,Nat.le_trans h.size k.size,fun _ _ _ _ x=>k.cells _ _ _ _ (h.cells _ _ _ _ x)⟩
theorem KeepC.alloc (W:World) (o:Obj):KeepC W (W.alloc o):=⟨rfl,rfl,rfl,by simp,fun k c T fz h=>by
  have:=(Array.getElem?_eq_some_iff.1 h).1
  exact (Below.heap_alloc W o k this).trans h⟩
theorem KeepC.putObj (W:World) (l:Nat) (o o':Obj) (h:W.heap[l]?=some o) (hc:o.isCells=false):KeepC W (W.putObj l o'):=
 ⟨rfl,rfl,rfl,by simp [World.putObj],fun k c T fz hk=>by
   have hne:k≠l:=fun e=>by subst e;rw [h] at hk;cases hk;cases hc
   simp only [World.putObj]
   rw [Array.getElem?_setIfInBounds_ne (Ne.symm hne)]
   exact hk⟩
theorem KeepC.cell {W W':World} (k:KeepC W W') {b i:Nat} {v:Value} {c:Array Value} {T:TypeId} {fz:Nat × Nat} (h:W.heap[b]?=some (Obj.cells c T fz)) (hv:c[i]?=some v):W'.cell? ⟨b,i,none⟩=some v:=by
 have:=k.cells _ _ _ _ h
 simp [World.cell?,this,hv]
def Him (h:Heap) (W:World):Prop:=∀(b:Nat) (c:Array Value) (T:TypeId) (fz:Nat × Nat),h b=some (Obj.cells c T fz)→W.heap[b]?=some (Obj.cells c T fz)
theorem Him.keep {h:Heap} {W W':World} (x:Him h W) (k:KeepC W W'):Him h W':=fun b c T fz e=>k.cells _ _ _ _ (x b c T fz e)
structure NodeV where
 op:Int
 arg:Int
 neg:Bool
 a:Sl
 b:Sl
 name:List Nat
 s:Sl
 lt:(∀y∈name,y<256)∧name.length≤8
def NodeV.cells (x:NodeV):List Value:=[.int .i64 x.op,.int .i64 x.arg,.bool x.neg,.slice x.a.a x.a.l x.a.c,.slice x.b.a x.b.l x.b.c,.string (txt x.name),.slice x.s.a x.s.l x.s.c]
def NodeV.tag (x:NodeV):Int × List Nat:=(x.op,x.name)
theorem okT_nm8 {d:Nat} {op arg:Int} {neg:Bool} {l m name:List Nat} {ks:List Tr} (hok:okT d (.mk op arg neg l m name ks)):name.length≤8:=by
 rw [okT] at hok
 have h:=hok.2.1.2.2.2.1
 split at h
 ·exact h.1
 ·rw [h];exact Nat.zero_le _
theorem IsE.nodeV {h:Heap} {vs:List Value} {d:Nat} {op arg:Int} {neg:Bool} {l m name:List Nat} {ks:List Tr} (w:IsE h vs (.mk op arg neg l m name ks)) (hok:okT d (.mk op arg neg l m name ks)):∃x:NodeV,vs=x.cells∧x.tag=(op,name)∧IsK h x.s ks:=by
 obtain ⟨a,b,s,rfl,-,-,-,hb,hk⟩:=w.isK
 exact ⟨⟨op,arg,neg,a,b,name,s,hb,okT_nm8 hok⟩,rfl,rfl,hk⟩
theorem kid_cells {h:Heap} {s:Sl} {ks:List Tr} {d:Nat} (hk:IsK h s ks) (hoks:okTs d ks) (hne:ks≠[]):∃bl off,s.a=some ⟨bl,off,none⟩∧∀j t,ks[j]?=some t→∃x:NodeV,IsE h x.cells t∧∀W,Him h W→∀(i:Nat) v,x.cells[i]?=some v→W.cell? ⟨bl,off+j*7+i,none⟩=some v:=by
 rcases hk.mem with e | ⟨bl,off,c,T,fz,e1,e2,e3⟩
 ·exact absurd e hne
 ·refine ⟨bl,off,e1,fun j t ht=>?_⟩
  obtain ⟨vs,h1,h2,h3⟩:=IsKs.get e3 ht
  obtain ⟨op,arg,neg,l,m,name,ks'⟩:=t
  obtain ⟨x,rfl,-,-⟩:=h3.nodeV (okTs_mem hoks (List.mem_of_getElem? ht))
  refine ⟨x,h3,fun W hW i v hv=>?_⟩
  have hi7:i<7:=(List.getElem?_eq_some_iff.1 hv).1
  simp [World.cell?,hW _ _ _ _ e2,h2 i hi7,hv]
theorem tagsT_len (t:Tr):(tagsT t).length=szT t:=by
 refine tree_ind (P:=fun t=>(tagsT t).length=szT t) (fun t ih=>?_) t
 obtain ⟨op,arg,neg,l,m,name,ks⟩:=t
 have:∀ts:List Tr,(∀u∈ts,(tagsT u).length=szT u)→(tagsTs ts).length=szTs ts:=by
  intro ts
  induction ts with
  | nil=>intro _;rw [tagsTs,szTs];rfl
  | cons u us h=>intro g;rw [tagsTs,szTs,List.length_append,g u (List.mem_cons_self ..),h fun x hx=>g x (List.mem_cons_of_mem _ hx)]
 rw [tagsT,szT,List.length_cons,this ks fun u hu=>by
   obtain ⟨j,hj,e⟩:=List.mem_iff_getElem.1 hu
   exact ih u (szT_kid (j:=j) (by rw [List.getElem?_eq_getElem hj,e])),Nat.add_comm]
theorem tagsTs_append:∀(a b:List Tr),tagsTs (a++b)=tagsTs a++tagsTs b
 | [],b=>by rw [tagsTs];rfl
 | t::a,b=>by rw [List.cons_append,tagsTs,tagsTs,tagsTs_append a b,List.append_assoc]
theorem tagsTs_len (ts:List Tr):(tagsTs ts).length=szTs ts:=by
 induction ts with
 | nil=>rw [tagsTs,szTs];rfl
 | cons u us h=>rw [tagsTs,szTs,List.length_append,tagsT_len,h]
set_option maxRecDepth 100000 in
set_option maxHeartbeats 2000000 in
theorem each_in (Fe:Fence) (hd:Fe.depth=none) (h4:Fe.fn 103) (hro:Fe.round=none) (l N:Nat) (J Jx:List NodeV→World→Prop) (h:Heap) (hJa:∀pre W o,J pre W→J pre (W.alloc o))
  (hY:∀m pre x W,J pre W→pre.length<N→YieldAt Fe m Tryz.prog l #[.agg x.cells.toArray] W fun e W'=>(e=.returned (.bool true)∧J (pre++[x]) W'∧KeepC W W')∨(e=.returned (.bool false)∧Jx (pre++[x]) W')):
  ∀(t:Tr) (n d:Nat) (x:NodeV) (pre:List NodeV) (w:World),IsE h x.cells t→okT d t→Him h w→J pre w→pre.length+szT t≤N→
   CallsIn Fe n Tryz.prog 103 #[.agg x.cells.toArray,.func (.yield l) #[] #[]] w fun e W'=>
    (e=.returned (.bool true)∧(∃xs,xs.map NodeV.tag=tagsT t∧J (pre++xs) W')∧KeepC w W')∨(e=.returned (.bool false)∧∃q,q.map NodeV.tag <+: tagsT t∧Jx (pre++q) W'):=by
 refine tree_ind fun t ih=>?_
 intro n d x pre w wE hok hw hJ hN
 obtain ⟨op,arg,neg,l',m',name,ks⟩:=t
 have hxs:x.tag=(op,name)∧IsK h x.s ks:=by
  obtain ⟨a,b,s,e,-,-,-,hb,hk⟩:=wE.isK
  unfold NodeV.cells at e
  injection e with e1 e
  injection e with e2 e
  injection e with e3 e
  injection e with e4 e
  injection e with e5 e
  injection e with e6 e
  injection e with e7 e
  injection e1 with _ e1
  injection e6 with e6
  have e7:=Sl.val_inj (s:=x.s) (t:=s) e7
  exact ⟨by unfold NodeV.tag;rw [e1,txt_inj x.lt.1 hb e6],by rw [e7];exact hk⟩
 obtain ⟨htg,hk⟩:=hxs
 rw [okT] at hok
 obtain ⟨hd30,hnb,hoks⟩:=hok
 have hks:ks.length≤3:=by
  have h1:=hnb.1
  have h2:=kidsN_le op
  omega
 rw [szT] at hN
 have hdd:∀k:Nat,(Fe.depth.isSome=true→1≤k):=fun k h=>by rw [hd] at h;cases h
 obtain ⟨fn,tmps,assign,body,hy,hR⟩:=hY (n-1) pre x (w.alloc (.cells x.cells.toArray 27)) (hJa _ _ _ hJ) (by omega)
 obtain ⟨o1,a1,n1,⟨sa,sl,sc⟩,⟨ta,tl,tc⟩,nm1,⟨ka,kl,kc⟩,lt1⟩:=x
 obtain rfl:kl=ks.length:=hk.len
 dsimp only [NodeV.cells] at hy hR wE ⊢
 replace hR:=hR.mono (R':=fun e W2=>(e=.returned (.bool true)∧J (pre++[⟨o1,a1,n1,⟨sa,sl,sc⟩,⟨ta,tl,tc⟩,nm1,⟨ka,ks.length,kc⟩,lt1⟩]) W2∧W2.cell? ⟨w.heap.size,6,none⟩=some (.slice ka ks.length kc)∧KeepC w W2)∨(e=.returned (.bool false)∧Jx (pre++[⟨o1,a1,n1,⟨sa,sl,sc⟩,⟨ta,tl,tc⟩,nm1,⟨ka,ks.length,kc⟩,lt1⟩]) W2))
  (fun e W2 h=>h.elim (fun ⟨he,hj,hk⟩=>.inl ⟨he,hj,hk.cell (World.alloc_heap_new w _) rfl,(KeepC.alloc w _).trans hk⟩) .inr)
 have htl:∀xs:List NodeV,xs.map NodeV.tag=tagsTs ks→(⟨o1,a1,n1,⟨sa,sl,sc⟩,⟨ta,tl,tc⟩,nm1,⟨ka,ks.length,kc⟩,lt1⟩::xs).map NodeV.tag=tagsT (.mk op arg neg l' m' name ks):=fun xs e=>by rw [tagsT,List.map_cons,e,htg]
 have htp:∀xs:List NodeV,xs.map NodeV.tag <+: tagsTs ks→(⟨o1,a1,n1,⟨sa,sl,sc⟩,⟨ta,tl,tc⟩,nm1,⟨ka,ks.length,kc⟩,lt1⟩::xs).map NodeV.tag <+: tagsT (.mk op arg neg l' m' name ks):=fun xs e=>by
  rw [tagsT,List.map_cons,htg]
  obtain ⟨r,hr⟩:=e
  exact ⟨r,by rw [← hr];rfl⟩
 obtain ⟨X,hX⟩:∃X:NodeV,X=⟨o1,a1,n1,⟨sa,sl,sc⟩,⟨ta,tl,tc⟩,nm1,⟨ka,ks.length,kc⟩,lt1⟩:=⟨_,rfl⟩
 rw [← hX] at hR htl htp
 replace hk:IsK h ⟨ka,ks.length,kc⟩ ks:=hk
 refine callsIn_of_wp Tryz.func103 rfl h4 ?_ hro
 simp only [Tryz.ntmps103,List.size_toArray,List.length_cons,List.length_nil,Nat.reduceAdd,Nat.reduceSub,Array.replicate_succ,Array.replicate_zero,List.push_toArray,List.append_toArray,List.nil_append,List.cons_append]
 gi_wp2_with ((try refine ⟨hdd _,?_⟩);refine hR.mono ?_;clear hR;rintro e W2 (⟨rfl,hJ2,hc2,hb2⟩ | ⟨rfl,hx2⟩))
 ·gi_loopw [14] (fun i wr=>∃(k:Nat) (xs:List NodeV),k≤ks.length∧i=.int .i64 k∧xs.map NodeV.tag=tagsTs (ks.take k)∧J (pre++X::xs) wr∧KeepC w wr) (fun i _=>ks.length-(intOf i).toNat)
  case atStart=>exact ⟨0,[],Nat.zero_le _,rfl,by rw [List.take_zero,tagsTs];rfl,by simpa using hJ2,hb2⟩
  case round=>
   obtain ⟨k,xs,hkk,rfl,hxs,hJs,hbs⟩:=hrel
   by_cases hlt:k<ks.length
   ·obtain ⟨t,ht⟩:∃t,ks[k]?=some t:=⟨_,List.getElem?_eq_getElem hlt⟩
    obtain ⟨bl,off,rfl,hkc⟩:=kid_cells hk hoks (fun e=>by subst e;exact absurd hlt (by simp))
    obtain ⟨y,hyE,hyc⟩:=hkc k t ht
    have hbc:=(congrArg List.length hxs)
    rw [List.length_map,tagsTs_len] at hbc
    have hsz:szTs (ks.take k)+szT t≤szTs ks:=by
     have e:=take_tail ht
     have:=congrArg szTs e
     rw [szTs_append,szTs] at this;omega
    have hyw:=hyc wr (hw.keep hbs)
    obtain ⟨o2,a2,n2,⟨sa2,sl2,sc2⟩,⟨ta2,tl2,tc2⟩,nm2,⟨ka2,kl2,kc2⟩,lt2⟩:=y
    have k0:wr.cell? ⟨bl,off+k*7,none⟩=_:=hyw 0 _ rfl
    have k1:=hyw 1 _ rfl
    have k2:=hyw 2 _ rfl
    have k3:=hyw 3 _ rfl
    have k4:=hyw 4 _ rfl
    have k5:=hyw 5 _ rfl
    have k6:=hyw 6 _ rfl
    dsimp only at k0 k1 k2 k3 k4 k5 k6
    have hE':=ih t (szT_kid ht) (n-1) (d+1) ⟨o2,a2,n2,⟨sa2,sl2,sc2⟩,⟨ta2,tl2,tc2⟩,nm2,⟨ka2,kl2,kc2⟩,lt2⟩ (pre++X::xs) (wr.alloc (.cells #[.int .i64 o2,.int .i64 a2,.bool n2,.slice sa2 sl2 sc2,.slice ta2 tl2 tc2,.string (txt nm2),.slice ka2 kl2 kc2] 27)) hyE (okTs_mem hoks (List.mem_of_getElem? ht)) ((hw.keep hbs).keep (KeepC.alloc _ _)) (hJa _ _ _ hJs) (by rw [List.length_append,List.length_cons];omega)
    dsimp only [NodeV.cells] at hE'
    clear hyw hyc
    gi_wp2_with ((try refine ⟨hdd _,?_⟩);gi_at_call 103;refine hE'.mono ?_;clear hE';rintro e W3 (⟨rfl,⟨zs,hzs,hJ3⟩,hb3⟩ | ⟨rfl,q,hq,hx3⟩))
    ·go_roundw
     case rel=>exact ⟨k+1,xs++zs,by omega,by simp,by rw [List.map_append,hxs,hzs,take_snoc ht,tagsTs_append,tagsTs,tagsTs,List.append_nil],by simpa [List.append_assoc] using hJ3,(hbs.trans (KeepC.alloc _ _)).trans hb3⟩
     case measure=>simp [intOf];omega
    ·refine bodyPost_ret (results_tmp rfl _ _ _) rfl ?_
     refine .inr ⟨rfl,X::(xs++q),htp _ ?_,by simpa [List.append_assoc] using hx3⟩
     obtain ⟨r,hr⟩:=hq
     have e:=take_tail ht
     refine ⟨r++tagsTs (ks.drop (k+1)),?_⟩
     rw [List.map_append,hxs]
     conv=>rhs;rw [e,tagsTs_append,tagsTs,← hr]
     simp [List.append_assoc]
   ·obtain rfl:k=ks.length:=by omega
    rw [List.take_length] at hxs
    gi_wp2
    go_ret
    exact .inl ⟨rfl,⟨X::xs,htl _ hxs,hJs⟩,hbs⟩
 ·go_ret
  exact .inr ⟨rfl,[X],htp [] (List.nil_prefix),by simpa using hx2⟩
end Go.Proofs.YtbgicephinomlaaGreatDoor
/- Binds in memory; the document's subst; Swap's law. -/
namespace Go.Vc
open Go Go.Dig
end Go.Vc
namespace Go.Proofs.YtbgicephinomlaaGreatDoor
open Go Go.Vc Go.Dig
def IsBs (h:Heap) (c:Array Value):Nat→List (List Nat × Tr)→Prop
 | _,[]=>True
 | off,(n,t)::bs=>(c[off]?=some (.string (txt n))∧(∀y∈n,y<256)∧∃vs,vs.length=7∧(∀i,i<7→c[off+1+i]?=vs[i]?)∧IsE h vs t)∧IsBs h c (off+8) bs
structure IsB (h:Heap) (s:Sl) (bs:List (List Nat × Tr)):Prop where
 len:s.l=bs.length
 cap:s.l≤s.c
 mem:bs=[]∨∃bl off c T fz,s.a=some ⟨bl,off,none⟩∧h bl=some (.cells c T fz)∧IsBs h c off bs
attribute [local irreducible] Vc.Fn
end Go.Proofs.YtbgicephinomlaaGreatDoor