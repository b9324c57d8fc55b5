/- Periods: plain. -/
import Derived.Test.YtbgicephinomlaaGreatDoorE38
import Derived.Test.YtbgicephinomlaaGreatDoorE37
import Derived.Test.YtbgicephinomlaaGreatDoorE23
set_option linter.unusedVariables false
set_option linter.unusedSimpArgs false
namespace Go.Proofs.YtbgicephinomlaaGreatDoor
open Go Go.Vc Go.Dig
mutual
def hasT (nm:List Nat):Tr→Bool
 | .mk op _ _ _ _ name ks=>decide (op=2∧name=nm) || hasTs nm ks
def hasTs (nm:List Nat):List Tr→Bool
 | []=>false
 | t::ts=>hasT nm t || hasTs nm ts
end
def litT:Tr→Option Rat
 | .mk op _ neg l m _ ks=>if op=1 then some (ratOf neg l m) else if op=4 then (match ks with
   | .mk op' _ neg' l' m' _ _::_=>if op'=1 then some (-(ratOf neg' l' m')) else none
   | []=>none) else none
def intL (t:Tr):Bool:=match litT t with | some q=>decide (q.den=1) | none=>false
def linF (nm:List Nat):Nat→Tr→Bool
 | 0,_=>false
 | f+1,.mk op _ _ _ _ name ks=>if op=2 then decide (name=nm) else if op=4 then linF nm f (ks.getD 0 zeroT) else
   if op=5∨op=6 then (linF nm f (ks.getD 0 zeroT) || linF nm f (ks.getD 1 zeroT)) && (linF nm f (ks.getD 0 zeroT) || !hasT nm (ks.getD 0 zeroT)) && (linF nm f (ks.getD 1 zeroT) || !hasT nm (ks.getD 1 zeroT)) else
   if op=7 then (intL (ks.getD 0 zeroT) && linF nm f (ks.getD 1 zeroT)) || (intL (ks.getD 1 zeroT) && linF nm f (ks.getD 0 zeroT)) else false
def linT (nm:List Nat) (t:Tr):Bool:=linF nm (szT t) t
mutual
def perP (nm:List Nat):Tr→Bool
 | .mk op arg _ _ _ name ks=>if op=2 then decide (name≠nm) else if op=11∧3≤arg∧arg≤5∧linT nm (ks.getD 0 zeroT)=true then true else perPs nm ks
def perPs (nm:List Nat):List Tr→Bool
 | []=>true
 | t::ts=>perP nm t && perPs nm ts
end
mutual
def perR (nm:List Nat):Bool→Tr→Bool
 | w,.mk op arg _ _ _ name ks=>if op=2∧name=nm then w else perRs nm (if op=11∧3≤arg∧arg≤5 then linT nm (ks.getD 0 zeroT) else w) ks
def perRs (nm:List Nat):Bool→List Tr→Bool
 | _,[]=>true
 | w,t::ts=>perR nm w t && perRs nm w ts
end
end Go.Proofs.YtbgicephinomlaaGreatDoor
/- A range over the nodes of a tree: the iterator's contract; has, smooth. -/
namespace Go.Proofs.YtbgicephinomlaaGreatDoor
open Go Go.Vc Go.Dig Go.RowKit Go.Shelf
attribute [local go_sem] Oper.semAt_some
theorem cells_grown {W W':World} {row:Option Nat} {B:Nat} {c:Array Value} {T:TypeId} {fz:Nat × Nat} (h:W.heap[B]?=some (Obj.cells c T fz)) (hg:W.grownBy W' row) (hr:∀r,row=some r→∃o:Obj,W.heap[r]?=some o∧o.isCells=false):W'.heap[B]?=some (Obj.cells c T fz):=
 (hg.block B (Array.getElem?_eq_some_iff.1 h).1 (fun e=>by obtain ⟨o,ho,hc⟩:=hr B e.symm;rw [h] at ho;cases ho;cases hc)).trans h
theorem sat_him {h:Heap} {L:Vc.Own} {w:World} (s:Sat h L w):Him h w:=fun b c T fz e=>s.imm _ _ e
set_option maxRecDepth 100000 in
set_option maxHeartbeats 1000000 in
theorem nodes1_in (Fe:Fence) (hd:Fe.depth=none) (n:Nat) (h1:Fe.fn 102) (h4:Fe.fn 103) (hro:Fe.round=none) (l Bt N d:Nat) (J Jx:List NodeV→World→Prop) (h:Heap) (t:Tr) (x:NodeV) (hJa:∀pre W o,J pre W→J pre (W.alloc o))
  (hY:∀m pre x W,J pre W→pre.length<N→YieldAt Fe m Tryz.prog l #[.agg x.cells.toArray] W fun e W'=>(e=.returned (.bool true)∧J (pre++[x]) W'∧KeepC W W')∨(e=.returned (.bool false)∧Jx (pre++[x]) W'))
  (w:World) (hB:w.heap[Bt]?=some (Obj.cells x.cells.toArray 27 (0,0))) (wE:IsE h x.cells t) (hok:okT d t) (hw:Him h w) (hN:szT t≤N) (h0:J [] w):
  CallsIn Fe n Tryz.prog 102 #[.func (.yield l) #[] #[],.pointer (some ⟨Bt,0,none⟩)] w fun e W'=>(∃v,e=.returned v)∧((∃xs,xs.map NodeV.tag=tagsT t∧J xs W')∨(∃q,q.map NodeV.tag <+: tagsT t∧Jx q W')):=by
 have hdd:∀k:Nat,(Fe.depth.isSome=true→1≤k):=fun k h=>by rw [hd] at h;cases h
 have hp:=each_in Fe hd h4 hro l N J Jx h hJa hY t (n-1) d x [] w wE hok hw h0 (by simpa using hN)
 have hc:∀(i:Nat) v,x.cells[i]?=some v→w.cell? ⟨Bt,i,none⟩=some v:=fun i v hv=>by simp [World.cell?,hB,hv]
 obtain ⟨o1,a1,n1,⟨sa,sl,sc⟩,⟨ta,tl,tc⟩,nm1,⟨ka,kl,kc⟩,lt1⟩:=x
 have k0:=hc 0 _ rfl
 have k1:=hc 1 _ rfl
 have k2:=hc 2 _ rfl
 have k3:=hc 3 _ rfl
 have k4:=hc 4 _ rfl
 have k5:=hc 5 _ rfl
 have k6:=hc 6 _ rfl
 dsimp only at k0 k1 k2 k3 k4 k5 k6
 dsimp only [NodeV.cells] at hp
 simp only [List.nil_append] at hp
 refine callsIn_of_wp Tryz.func102 rfl h1 ?_ hro
 simp only [Tryz.ntmps102,List.size_toArray,List.length_cons,List.length_nil,Nat.reduceAdd,Nat.reduceSub,Array.replicate_succ,Array.replicate_zero,List.push_toArray,List.append_toArray,List.nil_append,List.cons_append]
 gi_wp2_with ((try refine ⟨hdd _,?_⟩);gi_at_call 103;refine hp.mono ?_;clear hp;rintro e W1 (⟨rfl,⟨xs,hxs,hJ1⟩,-⟩ | ⟨rfl,q,hq,hx⟩))
 ·go_end0
  exact ⟨⟨_,rfl⟩,.inl ⟨_,hxs,hJ1⟩⟩
 ·go_end0
  exact ⟨⟨_,rfl⟩,.inr ⟨_,hq,hx⟩⟩
set_option maxRecDepth 100000 in
set_option maxHeartbeats 1000000 in
theorem nodes_in (Fe:Fence) (n:Nat) (h4:Fe.fn 52) (hro:Fe.round=none) (c0 c1 c2 c3 c4 c5 c6:Value) (w:World):
  CallsIn Fe n Tryz.prog 52 #[.agg #[c0,c1,c2,c3,c4,c5,c6]] w fun e w'=>e=.returned (.func (.func 102) #[] #[.pointer (some ⟨w.heap.size,0,none⟩)])∧w'=w.alloc (.cells #[c0,c1,c2,c3,c4,c5,c6] 27):=by
 refine callsIn_of_wp Tryz.func52 rfl h4 ?_ hro
 simp only [Tryz.ntmps52,List.size_toArray,List.length_cons,List.length_nil,Nat.reduceAdd,Nat.reduceSub,Array.replicate_succ,Array.replicate_zero,List.push_toArray,List.append_toArray,List.nil_append,List.cons_append]
 gi_wp2
 go_ret
 exact ⟨rfl,rfl⟩
theorem nodes_stops (Fe:Fence) (hd:Fe.depth=none) (n:Nat) (h1:Fe.fn 102) (h4:Fe.fn 103) (hro:Fe.round=none) (Bt d:Nat) (h:Heap) (t:Tr) (x:NodeV) (w:World)
  (hB:w.heap[Bt]?=some (Obj.cells x.cells.toArray 27 (0,0))) (wE:IsE h x.cells t) (hok:okT d t) (hw:Him h w):
  SeqStopsK Fe n Tryz.prog 102 #[.pointer (some ⟨Bt,0,none⟩)] (fun x:NodeV=>#[.agg x.cells.toArray]) KeepC (fun xs=>xs.map NodeV.tag=tagsT t) (fun pre=>pre.map NodeV.tag <+: tagsT t) (szT t) w:=fun l J Jx W hW hJ hJx hY h0=>by
 have hlt:=(Array.getElem?_eq_some_iff.1 hB).1
 exact nodes1_in Fe hd n h1 h4 hro l Bt (szT t) d J Jx h t x (fun pre W1 o hj=>hJ pre W1 (W1.alloc o) none hj (World.grownBy_alloc W1 o none) (fun r e=>by cases e))
  (fun m pre x W1 hj hl=>yield_any hd m (hY pre x W1 hj hl)) W ((hW.block _ hlt).trans hB) wE hok (fun b c T fz e=>(hW.block _ (Array.getElem?_eq_some_iff.1 (hw b c T fz e)).1).trans (hw b c T fz e)) (Nat.le_refl _) h0
theorem keepC_t {A B C:World} (h:KeepC A B) (k:KeepC B C):KeepC A C:=h.trans k
set_option maxRecDepth 100000 in
set_option maxHeartbeats 1000000 in
theorem rough_in (Fe:Fence) (n:Nat) (h4:Fe.fn 57) (hro:Fe.round=none) (op:Int) (w:World):
  CallsIn Fe n Tryz.prog 57 #[.int .i64 op] w fun e w'=>(roughB op∧e=.returned (.bool true)∨¬roughB op∧e=.returned (.bool false))∧w'=w:=by
 refine callsIn_of_wp Tryz.func57 rfl h4 ?_ hro
 simp only [Tryz.ntmps57,List.size_toArray,List.length_cons,List.length_nil,Nat.reduceAdd,Nat.reduceSub,Array.replicate_succ,Array.replicate_zero,List.push_toArray,List.append_toArray,List.nil_append,List.cons_append]
 gi_wp2
 all_goals go_ret
 ·rename_i h1
  by_cases h2:op≤15
  ·exact ⟨.inl ⟨⟨h1,h2⟩,by rw [decide_eq_true h2];rfl⟩,rfl⟩
  ·exact ⟨.inr ⟨fun x=>h2 x.2,by rw [decide_eq_false h2];rfl⟩,rfl⟩
 ·rename_i h1
  exact ⟨.inr ⟨fun x=>absurd x.1 (by omega),rfl⟩,rfl⟩
set_option maxRecDepth 100000 in
set_option maxHeartbeats 2000000 in
theorem smooth_in (Fe:Fence) (hd:Fe.depth=none) (hro:Fe.round=none) (hf:∀f,Fe.fn f) (t:Tr) (x:NodeV) (h:Heap) (w:World) (wE:IsE h x.cells t) (hok:okT 1 t) (hw:Him h w):
  CallsIn Fe 3 Tryz.prog 28 #[.agg x.cells.toArray] w fun e W'=>((∀y∈tagsT t,¬roughB y.1)∧e=.returned (.bool true)∨¬(∀y∈tagsT t,¬roughB y.1)∧e=.returned (.bool false))∧Below w.heap.size w W':=by
 have hdd:∀k:Nat,(Fe.depth.isSome=true→1≤k):=fun k h=>by rw [hd] at h;cases h
 have hst:=nodes_stops Fe hd 2 (hf _) (hf _) hro (w.heap.size+1+1) 1 h t x
 have hop:=fun (pre:List NodeV) (e:pre.map NodeV.tag <+: tagsT t) (z:∃y∈pre,roughB y.op)=>(show ¬∀y∈tagsT t,¬roughB y.1 from fun g=>by
   obtain ⟨y,hy,h1⟩:=z
   obtain ⟨r,hr⟩:=e
   exact g y.tag (by rw [← hr];exact List.mem_append_left _ (List.mem_map_of_mem hy)) h1)
 have hon:=fun (pre:List NodeV) (e:pre.map NodeV.tag=tagsT t) (z:∀y∈pre,¬roughB y.op)=>(show ∀y∈tagsT t,¬roughB y.1 from fun y hy=>by
   rw [← e] at hy
   obtain ⟨y',hy',rfl⟩:=List.mem_map.1 hy
   exact z y' hy')
 obtain ⟨o1,a1,n1,⟨sa,sl,sc⟩,⟨ta,tl,tc⟩,nm1,⟨ka,kl,kc⟩,lt1⟩:=x
 dsimp only [NodeV.cells] at hst ⊢
 refine callsIn_of_wp_marks Tryz.func28 rfl (hf _) ?_ hro
 simp only [Tryz.ntmps28,List.size_toArray,List.length_cons,List.length_nil,Nat.reduceAdd,Nat.reduceSub,Array.replicate_succ,Array.replicate_zero,List.push_toArray,List.append_toArray,List.nil_append,List.cons_append]
 gi_wp2_with ((try refine ⟨hdd _,?_⟩);gi_at_call 52;refine (nodes_in Fe _ (hf _) hro _ _ _ _ _ _ _ _).mono ?_;rintro e w' ⟨rfl,rfl⟩)
 generalize hCE:Obj.cells #[Value.int IntKind.i64 o1,Value.int IntKind.i64 a1,Value.bool n1,Value.slice sa sl sc,Value.slice ta tl tc,Value.string (txt nm1),Value.slice ka kl kc] 27=CE at *
 have bR:=(Boxed.new (w.alloc CE) 4 (.bool false)).alloc CE
 have bE:=World.alloc_heap_new ((w.alloc CE).alloc (.cells #[.bool false] 4)) CE
 have hB0:Below w.heap.size w (((w.alloc CE).alloc (.cells #[.bool false] 4)).alloc CE):=(((Below.refl _ w).alloc (Nat.le_refl _) _).alloc (by simp) _).alloc (by simp;omega) _
 have hK0:KeepC w (((w.alloc CE).alloc (.cells #[.bool false] 4)).alloc CE):=((KeepC.alloc w _).trans (KeepC.alloc _ _)).trans (KeepC.alloc _ _)
 have hsz:(((w.alloc CE).alloc (.cells #[.bool false] 4)).alloc CE).heap.size=w.heap.size+3:=by simp
 simp only [World.size_alloc] at bR bE
 obtain ⟨W0,hW0⟩:∃W0,(((w.alloc CE).alloc (.cells #[.bool false] 4)).alloc CE)=W0:=⟨_,rfl⟩
 rw [hW0] at bR bE hB0 hK0 hsz ⊢
 clear hW0
 subst hCE
 refine wpIn_rangeFunc_ownH hro (by decide) (gf:=102) (lb:=#[.pointer (some ⟨w.heap.size+1+1,0,none⟩)]) rfl (hf _) (enters_of Tryz.func102 (by kernel_rfl) rfl)
  (hst W0 bE wE hok (hw.keep hK0)) keepC_t (fun W l o o' hl hob hc _=>KeepC.putObj W l o o' hob hc) (Below.refl _ _) (fun _=>rfl)
  (fun pre W=>(Boxed W (w.heap.size+1) 4 (.bool false)∧Below w.heap.size w W)∧∀y∈pre,¬roughB y.op)
  (fun c pre W=>(Boxed W (w.heap.size+1) 4 (.bool false)∧Below w.heap.size w W)∧(c=.ret∧∃y∈pre,roughB y.op))
  (OwnFrom.and (OwnFrom.and (Own.from (boxed_own _ _ (fun _=>_)) _) (ownFrom_below (Nat.le_refl _) (by omega))) (fun s W W' row hs _ _=>hs))
  (fun c=>OwnFrom.and (OwnFrom.and (Own.from (boxed_own _ _ (fun _=>_)) _) (ownFrom_below (Nat.le_refl _) (by omega))) (fun s W W' row hs _ _=>hs))
  ⟨⟨bR,hB0⟩,by simp⟩
  (fun x a' W=>∃Bx,w.heap.size+1<Bx∧W.heap[Bx]?=some (Obj.cells x.cells.toArray 27 (0,0))∧a'={ tmps:=#[.agg #[Value.int IntKind.i64 o1,Value.int IntKind.i64 a1,Value.bool n1,Value.slice sa sl sc,Value.slice ta tl tc,Value.string (txt nm1),Value.slice ka kl kc],.pointer (some ⟨w.heap.size,0,none⟩),.pointer (some ⟨w.heap.size+1,0,none⟩),.pointer (some ⟨Bx,0,none⟩),.agg #[Value.int IntKind.i64 o1,Value.int IntKind.i64 a1,Value.bool n1,Value.slice sa sl sc,Value.slice ta tl tc,Value.string (txt nm1),Value.slice ka kl kc],.func (.func 102) #[] #[.pointer (some ⟨w.heap.size+1+1,0,none⟩)],.agg x.cells.toArray,undef,undef,undef],defers:=[] })
  (fun x a' _ X Y row hs hg hr=>by obtain ⟨Bx,h1,h2,h3⟩:=hs;exact ⟨Bx,h1,cells_grown h2 hg (fun r e=>(hr r e).2),h3⟩)
  ?assign ?body ?done ?stop
 case assign=>
  rintro l pre ⟨o2,a2,n2,⟨sa2,sl2,sc2⟩,⟨ta2,tl2,tc2⟩,nm2,⟨ka2,kl2,kc2⟩,lt2⟩ W K ⟨⟨b2,hB1⟩,hp⟩ hK
  dsimp only [NodeV.cells] at hK ⊢
  gi_wp2
  exact hK _ _ ((KeepsOthers.alloc _ _).from _) (KeepC.alloc _ _) ⟨⟨b2.alloc _,hB1.alloc hB1.size _⟩,hp⟩ ⟨W.heap.size,b2.lt,World.alloc_heap_new W _,rfl⟩
 case body=>
  rintro l pre ⟨o2,a2,n2,⟨sa2,sl2,sc2⟩,⟨ta2,tl2,tc2⟩,nm2,⟨ka2,kl2,kc2⟩,lt2⟩ a' W hl ⟨r,hr⟩ ⟨⟨b2,hB1⟩,hp⟩ ⟨Bx,hBx,bX,rfl⟩ hlt
  have c2:=b2.cell
  have f2:=b2.frozen
  have hc:∀(i:Nat) v,(NodeV.cells ⟨o2,a2,n2,⟨sa2,sl2,sc2⟩,⟨ta2,tl2,tc2⟩,nm2,⟨ka2,kl2,kc2⟩,lt2⟩)[i]?=some v→W.cell? ⟨Bx,i,none⟩=some v:=fun i v hv=>by simp [World.cell?,bX,hv]
  have k0:=hc 0 _ rfl
  dsimp only at k0
  dsimp only [NodeV.cells]
  gi_wp2_with ((try refine ⟨hdd _,?_⟩);gi_at_call 57;refine (CallsIn.inRound l (rough_in Fe _ (hf _) hro _ _)).mono ?_;rintro e w' ⟨⟨h1,rfl⟩ | ⟨h1,rfl⟩,rfl⟩)
  ·exact ⟨(KeepsOthers.setCell _ _ _).from _,⟨b2.set _,(Below.refl w.heap.size w').setCell (p:=⟨w.heap.size+1,0,none⟩) (by show w.heap.size≤w.heap.size+1;omega) _ |> hB1.trans⟩,rfl,_,List.mem_append_right _ (List.mem_singleton.2 rfl),h1⟩
  ·refine ⟨(KeepsOthers.refl _).from _,KeepC.refl _,⟨b2,hB1⟩,fun y hy z=>?_⟩
   rcases List.mem_append.1 hy with hy | hy
   ·exact hp y hy z
   ·obtain rfl:=List.mem_singleton.1 hy
    exact h1 z
 case done=>
  rintro D xs W hD hxs ⟨⟨b2,hB1⟩,hp⟩ hK
  have c2:=b2.cell
  have f2:=b2.frozen
  gi_wp2
  have hK':=(KeepsOthers.setCell W ⟨w.heap.size+1,0,none⟩ (.bool true)).same D _ hK rfl
  refine ⟨by simp,.inl ⟨_,_,rfl,run_takeDeferred hK',?_⟩⟩
  have hc5:=((b2.set (.bool true)).kept (grownBy_putObj' _ D (.deferred none)) (fun e=>by injection e with e;omega)).cell
  refine ⟨.bool true,?_,.inl ⟨hon xs hxs hp,rfl⟩,?_⟩
  ·simp [results,Tryz.f28,go_sem,hc5]
  ·exact (hB1.trans ((Below.refl w.heap.size W).setCell (p:=⟨w.heap.size+1,0,none⟩) (by show w.heap.size≤w.heap.size+1;omega) _)).trans (belowK_b (w:=w) (Nat.le_refl _) _ D _ _ (by omega) hK' rfl rfl)
 case stop=>
  rintro D c pre W hD hpre ⟨⟨b2,hB1⟩,rfl,hin⟩ hK
  gi_wp2
  refine ⟨by simp,.inl ⟨_,_,rfl,run_takeDeferred hK,?_⟩⟩
  have hc5:=(b2.kept (grownBy_putObj' _ D (.deferred none)) (fun e=>by injection e with e;omega)).cell
  refine ⟨.bool false,?_,.inr ⟨hop pre hpre hin,rfl⟩,?_⟩
  ·simp [results,Tryz.f28,go_sem,hc5]
  ·exact hB1.trans (belowK_b (w:=w) (Nat.le_refl _) _ D _ _ (by omega) hK rfl rfl)
theorem smooth_ct (t:Tr) (h:Heap) (vs:List Value) (w:IsE h vs t) (hok:okT 1 t):Fn0 T F.expr_smooth [.agg vs.toArray] h fun v h'=>h'=h∧v=.bool (dec (resT t=none)):=by
 refine Fn0.make fun w0 s=>?_
 have hr:=resT_none (t:=t)
 obtain ⟨op,arg,neg,l,m,name,ks⟩:=t
 obtain ⟨x,rfl,-,-⟩:=w.nodeV hok
 refine ((callsIn_wide (n:=3)).1 (smooth_in Fence.wide rfl rfl (fun _=>trivial) _ x h w0 w hok (sat_him s))).mono fun e w' he=>?_
 obtain ⟨⟨h1,rfl⟩ | ⟨h1,rfl⟩,hb⟩:=he
 ·exact ⟨h,[],Inv.below s hb,rfl,rfl,by rw [dec_true (hr.2 h1)]⟩
 ·exact ⟨h,[],Inv.below s hb,rfl,rfl,by rw [dec_false fun z=>h1 (hr.1 z)]⟩
end Go.Proofs.YtbgicephinomlaaGreatDoor