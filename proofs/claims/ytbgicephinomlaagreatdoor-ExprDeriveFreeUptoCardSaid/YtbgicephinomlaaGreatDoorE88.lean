/- A walk that stops ahead of a region. -/
import Derived.Test.YtbgicephinomlaaGreatDoorVcMeet
import Derived.Test.YtbgicephinomlaaGreatDoorR6
import Derived.Test.YtbgicephinomlaaGreatDoorE85
import Derived.Test.YtbgicephinomlaaGreatDoorE76
import Derived.Test.YtbgicephinomlaaGreatDoorE55
import Derived.Test.YtbgicephinomlaaGreatDoorE42
import Derived.Test.YtbgicephinomlaaGreatDoorE82
set_option linter.unusedVariables false
set_option linter.unusedSimpArgs false
set_option maxHeartbeats 4000000
set_option maxRecDepth 20000
namespace Go.Vc
open Go
structure StopN (p:Prop):Prop where x:p
theorem cI.stop {T:Tab} {Q:Post} {ρ:Env} {h:Heap} {L:Own} (id:Nat) {ops:Array Oper} {dr:Bool} {b:Code} (x:StopN (SeqN (cI T (.region id ops dr)) (cI T b) (wr (.region id ops dr)) Q ρ h L)):cI T (.seq (.region id ops dr) b) Q ρ h L:=cI.seqN x.x
end Go.Vc
/- Derivatives: the program's side. -/
namespace Go.Proofs.YtbgicephinomlaaGreatDoor
open Go Go.Vc Go.Dig
theorem node1_ct (op arg:Int) (ho:-9223372036854775808≤op∧op≤9223372036854775807) (ha:-9223372036854775808≤arg∧arg≤9223372036854775807) {h:Heap} {b:Nat} {T0:TypeId} {fz:Nat × Nat} {a1 a2 a3 a4 a5 a6 a7:Value} {t:Tr} (i:IsE h [a1,a2,a3,a4,a5,a6,a7] t) (hle:h.le (h.put b (.cells #[a1,a2,a3,a4,a5,a6,a7] T0 fz))):
  Fn0 T F.expr_node [.int .i64 op,.int .i64 arg,.slice (some ⟨b,0,none⟩) 1 1] (h.put b (.cells #[a1,a2,a3,a4,a5,a6,a7] T0 fz)) fun v h'=>VE h' v (nodeT op arg [t]):=
 enode_ct op arg ho ha [t] ⟨some ⟨b,0,none⟩,1,1⟩ _ (IsK.one i rfl hle)
theorem node2_ct (op arg:Int) (ho:-9223372036854775808≤op∧op≤9223372036854775807) (ha:-9223372036854775808≤arg∧arg≤9223372036854775807) {h:Heap} {b:Nat} {T0:TypeId} {fz:Nat × Nat} {a1 a2 a3 a4 a5 a6 a7 c1 c2 c3 c4 c5 c6 c7:Value} {t u:Tr} (i:IsE h [a1,a2,a3,a4,a5,a6,a7] t) (j:IsE h [c1,c2,c3,c4,c5,c6,c7] u)
  (hle:h.le (h.put b (.cells #[a1,a2,a3,a4,a5,a6,a7,c1,c2,c3,c4,c5,c6,c7] T0 fz))):Fn0 T F.expr_node [.int .i64 op,.int .i64 arg,.slice (some ⟨b,0,none⟩) 2 2] (h.put b (.cells #[a1,a2,a3,a4,a5,a6,a7,c1,c2,c3,c4,c5,c6,c7] T0 fz)) fun v h'=>VE h' v (nodeT op arg [t,u]):=
 enode_ct op arg ho ha [t,u] ⟨some ⟨b,0,none⟩,2,2⟩ _ (IsK.two i j rfl rfl hle)
attribute [local irreducible] Vc.Fn
theorem derivedPower_ct (k u:Tr) (arg:Int) (ha1:-32≤arg) (ha2:arg≤32) (neg:Bool) (l m name:List Nat) (h:Heap) (vs us2:List Value) (w:IsE h vs (.mk 9 arg neg l m name [k])) (w2:IsE h us2 u):Fn0 T F.expr_derivedPower [.agg vs.toArray,.agg us2.toArray] h fun v h'=>VE h' v (powD (.mk 9 arg neg l m name [k]) arg k u):=by
 obtain ⟨a,b,s,rfl,ho,ha,hv,hb,hk⟩:=w.isK
 obtain ⟨⟨tp2,ta2,tg2,tl2,tm2,tn2,tk2⟩,hu2⟩:∃x,x=u:=⟨_,rfl⟩
 obtain ⟨a2,b2,s2,hus2,-⟩:=(hu2.symm▸w2:IsE h us2 (.mk tp2 ta2 tg2 tl2 tm2 tn2 tk2)).isK
 subst hus2
 clear hu2
 have hkl:s.l=1:=hk.len
 obtain ⟨bl1,off1,op1,ar1,ng1,nn1,dd1,nm1,ss1,hE1,hld1,hln1,hix1⟩:=hk.kidP 0 _ rfl
 have w0:=fun h=>whole_ct h 0 (by decide) (by decide)
 simp only [ratI0] at w0
 have wN:=fun h=>whole_ct h arg (by omega) (by omega)
 obtain ⟨Q,hQ⟩:∃Q,Q=(arg:Rat):=⟨_,rfl⟩
 simp only [← hQ] at wN
 unfold powD
 rw [← hQ]
 clear hQ
 by_cases h0:arg=0
 ·rw [if_pos h0]
  refine f0C ok D.expr_derivedPower rfl ?_
  conv=>whnf
  repeat ((first|refine oI.z ?_|refine cI.z ?_);conv=>whnf)
  repeat' first|((first|(show LdN _ _ _ _ _;refine LdN.oA 0 rfl rfl ?_)|(show CN _ _ _ _ _ _;(refine CN.f rfl (w0 _) (fun v h' hl2 hr=>?_);obtain ⟨op8,ar8,ng8,nn8,dd8,nm8,ss8,rfl,hE8⟩:=hr))|((first|refine oI.z ?_|refine cI.z ?_))|intro (_:Nat)|refine Ld.o 2 rfl rfl ?_|refine Sto.l 0 rfl rfl rfl ?_) <;> (conv=>whnf))|(refine cnd_eq (fun _=>?_) (fun _=>?_) <;> first|(exfalso;omega)|(conv=>whnf))
  all_goals exact RN.a ⟨_,_,_,_,_,_,_,rfl,(by assumption)⟩
 rw [if_neg h0]
 refine f0C ok D.expr_derivedPower rfl ?_
 conv=>whnf
 repeat ((first|refine oI.z ?_|refine cI.z ?_);conv=>whnf)
 repeat' first|((first|refine Ld.o 2 rfl rfl ?_) <;> (conv=>whnf))|(refine cI.stop 4 ?_)|((first|refine oI.z ?_|refine cI.z ?_);conv=>whnf)|(intro (_:Nat);conv=>whnf)|(refine cnd_eq (fun _=>?_) (fun _=>?_) <;> first|(exfalso;omega)|(conv=>whnf))
 rename_i bb2 bb3 bb4 x0
 refine ⟨SeqN.cut (fun ρ hx Lx=>∃(b6:Nat) (op6 ar6:Int) (ng6:Bool) (nn6 dd6:Sl) (nm6:List Nat) (ss6:Sl),rd ρ 6=.pointer (some ⟨b6,0,none⟩)∧h.le hx∧Lx=[(b6,.cells [.int .i64 op6,.int .i64 ar6,.bool ng6,nn6.val,dd6.val,.string (txt nm6),ss6.val].toArray Ty.api_Expr (0,0)),(bb4,.cells [.int .i64 0,.int .i64 0,.bool false,.slice none 0 0,.slice none 0 0,.string ByteArray.empty,.slice none 0 0].toArray Ty.api_Expr (0,0)),(bb3,.cells [.int .i64 tp2,.int .i64 ta2,.bool tg2,a2.val,b2.val,.string (txt tn2),s2.val].toArray Ty.api_Expr (0,0)),(bb2,.cells [.int .i64 9,.int .i64 arg,.bool neg,a.val,b.val,.string (txt name),s.val].toArray Ty.api_Expr (0,0))]∧IsE hx [.int .i64 op6,.int .i64 ar6,.bool ng6,nn6.val,dd6.val,.string (txt nm6),ss6.val] (nodeT 8 0 [.mk 9 arg neg l m name [k],k])) ?_ ?_⟩
 ·conv=>whnf
  repeat ((first|refine oI.z ?_|refine cI.z ?_);conv=>whnf)
  repeat' first|((first|(show LdN _ _ _ _ _;first|refine LdN.oA 2 rfl rfl ?_|(refine LdN.hasN [.int .i64 op1,.int .i64 ar1,.bool ng1,nn1.val,dd1.val,.string (txt nm1),ss1.val] rfl (fun i v hv=>hld1 _ _ i v (by first|assumption|exact Heap.lr _) hv) ?_))|refine hix1 _ _ rfl ?_|refine ⟨fun _=>HasLe.cons _,?_⟩|refine ⟨fun hst=>(by cases (show true=false from hst)),?_⟩|intro (_:Nat)|refine Ld.o 2 rfl rfl ?_|refine Sto.l 0 rfl rfl rfl ?_|refine DrN.run (by decide +kernel) ?_) <;> (conv=>whnf))|(show CN _ _ _ _ _ _;first|(refine CN.keep 0 rfl rfl (fun hl5=>?_);refine CN.f rfl (node2_ct _ _ (by first|decide|exact ⟨by omega,by omega⟩) (by first|decide|exact ⟨by omega,by omega⟩) (IsE.mono (by assumption) (by first|assumption|exact Heap.lr _)) (IsE.mono (by assumption) (by first|assumption|exact Heap.lr _)) hl5) (fun v h' hl2 hr=>?_);obtain ⟨op9,ar9,ng9,nn9,dd9,nm9,ss9,rfl,hE9⟩:=hr;first|(refine ⟨fun _=>HasLe.keep (n:=0) rfl hl5 hl2,?_⟩;conv=>whnf)|(conv=>whnf))|(refine CN.keep 1 rfl rfl (fun hl5=>?_);refine CN.f rfl (node2_ct _ _ (by first|decide|exact ⟨by omega,by omega⟩) (by first|decide|exact ⟨by omega,by omega⟩) (IsE.mono (by assumption) (by first|assumption|exact Heap.lr _)) (IsE.mono (by assumption) (by first|assumption|exact Heap.lr _)) hl5) (fun v h' hl2 hr=>?_);obtain ⟨op9,ar9,ng9,nn9,dd9,nm9,ss9,rfl,hE9⟩:=hr;first|(refine ⟨fun _=>HasLe.keep (n:=1) rfl hl5 hl2,?_⟩;conv=>whnf)|(conv=>whnf)))|(refine Both.mk ?_ ?_ <;> (conv=>whnf))
  all_goals exact ⟨rfl,_,op9,ar9,ng9,nn9,dd9,nm9,ss9,rfl,(by (iterate 30 try first|assumption|refine Heap.lt ?_ (by assumption));first|done|assumption),rfl,by assumption⟩
 conv=>whnf
 repeat intro _
 rename_i h4 L4 hJ
 obtain ⟨b6,op6,ar6,ng6,nn6,dd6,nm6,ss6,e6,hle4,rfl,hE6⟩:=hJ
 conv at e6=>lhs;whnf
 subst e6
 by_cases h1:-32<arg
 ·rw [if_pos h1]
  conv=>whnf
  repeat ((first|refine oI.z ?_|refine cI.z ?_);conv=>whnf)
  repeat' first|((first|(show SeqN _ _ _ _ _ _ _;refine SeqN.go ?_)|(show LdN _ _ _ _ _;first|refine LdN.oA 0 rfl rfl ?_|refine LdN.oA 1 rfl rfl ?_|refine LdN.oA 2 rfl rfl ?_|refine LdN.hasN [.int .i64 op1,.int .i64 ar1,.bool ng1,nn1.val,dd1.val,.string (txt nm1),ss1.val] rfl (fun i v hv=>hld1 _ _ i v (by assumption) hv) ?_)|refine hix1 _ _ rfl ?_|((first|refine oI.z ?_|refine cI.z ?_))|refine ⟨fun _=>HasLe.o (by assumption),?_⟩|refine ⟨fun _=>HasLe.cons _,?_⟩|refine ⟨fun hst=>(by cases (show true=false from hst)),?_⟩|intro (_:Nat)|refine WN.i64 (by omega) (by omega) ?_|refine Ld.o 3 rfl rfl ?_|(show Sto _ _ _ _;first|refine Sto.l 0 rfl rfl rfl ?_|refine Sto.l 1 rfl rfl rfl ?_)|refine DrN.run (by decide +kernel) ?_) <;> (conv=>whnf))|(show CN _ _ _ _ _ _;first|(refine CN.keep 0 rfl rfl (fun hl5=>?_);refine CN.f rfl (node1_ct _ _ (by first|decide|exact ⟨by omega,by omega⟩) (by first|decide|exact ⟨by omega,by omega⟩) (IsE.mono (by assumption) (by assumption)) hl5) (fun v h' hl2 hr=>?_);obtain ⟨op9,ar9,ng9,nn9,dd9,nm9,ss9,rfl,hE9⟩:=hr;first|(refine ⟨fun _=>HasLe.keep (n:=0) rfl hl5 hl2,?_⟩;conv=>whnf)|(conv=>whnf))|(refine CN.keep 0 rfl rfl (fun hl5=>?_);refine CN.f rfl (node2_ct _ _ (by first|decide|exact ⟨by omega,by omega⟩) (by first|decide|exact ⟨by omega,by omega⟩) (IsE.mono (by assumption) (by first|assumption|exact Heap.lr _)) (IsE.mono (by assumption) (by (iterate 30 try first|assumption|refine Heap.lt ?_ (by assumption));first|done|assumption)) hl5) (fun v h' hl2 hr=>?_);obtain ⟨op9,ar9,ng9,nn9,dd9,nm9,ss9,rfl,hE9⟩:=hr;first|(refine ⟨fun _=>HasLe.keep (n:=0) rfl hl5 hl2,?_⟩;conv=>whnf)|(conv=>whnf))|(refine CN.f rfl (wN _) (fun v h' hl2 hr=>?_);obtain ⟨op8,ar8,ng8,nn8,dd8,nm8,ss8,rfl,hE8⟩:=hr;conv=>whnf))|(refine cnd_lt (fun _=>?_) (fun _=>?_) <;> first|(exfalso;omega)|(conv=>whnf))
  all_goals exact RN.a ⟨_,_,_,_,_,_,_,rfl,(by assumption)⟩
 ·rw [if_neg h1]
  conv=>whnf
  repeat ((first|refine oI.z ?_|refine cI.z ?_);conv=>whnf)
  repeat' first|((first|(show SeqN _ _ _ _ _ _ _;refine SeqN.go ?_)|(show LdN _ _ _ _ _;first|refine LdN.oA 0 rfl rfl ?_|refine LdN.oA 1 rfl rfl ?_|refine LdN.oA 2 rfl rfl ?_)|((first|refine oI.z ?_|refine cI.z ?_))|refine ⟨fun _=>HasLe.o (by assumption),?_⟩|refine ⟨fun _=>HasLe.cons _,?_⟩|refine ⟨fun hst=>(by cases (show true=false from hst)),?_⟩|intro (_:Nat)|refine Sto.l 1 rfl rfl rfl ?_|refine DrN.run (by decide +kernel) ?_) <;> (conv=>whnf))|(show CN _ _ _ _ _ _;first|(refine CN.keep 0 rfl rfl (fun hl5=>?_);refine CN.f rfl (node2_ct _ _ (by first|decide|exact ⟨by omega,by omega⟩) (by first|decide|exact ⟨by omega,by omega⟩) (IsE.mono (by assumption) (by first|assumption|exact Heap.lr _)) (IsE.mono (by assumption) (by (iterate 30 try first|assumption|refine Heap.lt ?_ (by assumption));first|done|assumption)) hl5) (fun v h' hl2 hr=>?_);obtain ⟨op9,ar9,ng9,nn9,dd9,nm9,ss9,rfl,hE9⟩:=hr;first|(refine ⟨fun _=>HasLe.keep (n:=0) rfl hl5 hl2,?_⟩;conv=>whnf)|(conv=>whnf))|(refine CN.f rfl (wN _) (fun v h' hl2 hr=>?_);obtain ⟨op8,ar8,ng8,nn8,dd8,nm8,ss8,rfl,hE8⟩:=hr;conv=>whnf))|(refine cnd_lt (fun _=>?_) (fun _=>?_) <;> first|(exfalso;omega)|(conv=>whnf))
  all_goals exact RN.a ⟨_,_,_,_,_,_,_,rfl,(by assumption)⟩
theorem derivedCall_ct (k u:Tr) (arg:Int) (ha1:1≤arg) (ha2:arg≤8) (neg:Bool) (l m name:List Nat) (h:Heap) (vs us2:List Value) (w:IsE h vs (.mk 11 arg neg l m name [k])) (w2:IsE h us2 u):Fn0 T F.expr_derivedCall [.agg vs.toArray,.agg us2.toArray] h fun v h'=>VE h' v (callD (.mk 11 arg neg l m name [k]) arg k u):=by
 obtain ⟨a,b,s,rfl,ho,ha,hv,hb,hk⟩:=w.isK
 have hkl:s.l=1:=hk.len
 obtain ⟨bl1,off1,op1,ar1,ng1,nn1,dd1,nm1,ss1,hE1,hld1,hln1,hix1⟩:=hk.kidP 0 _ rfl
 have r1:arg=1→callD (.mk 11 arg neg l m name [k]) arg k u=nodeT 7 0 [(.mk 11 arg neg l m name [k]),u]:=fun e=>by subst e;rfl
 have r2:arg=2→callD (.mk 11 arg neg l m name [k]) arg k u=nodeT 8 0 [u,k]:=fun e=>by subst e;rfl
 have r3:arg=3→callD (.mk 11 arg neg l m name [k]) arg k u=nodeT 7 0 [nodeT 11 4 [k],u]:=fun e=>by subst e;rfl
 have r4:arg=4→callD (.mk 11 arg neg l m name [k]) arg k u=nodeT 4 0 [nodeT 7 0 [nodeT 11 3 [k],u]]:=fun e=>by subst e;rfl
 have r5:arg=5→callD (.mk 11 arg neg l m name [k]) arg k u=nodeT 7 0 [nodeT 5 0 [mkL 1,nodeT 9 2 [(.mk 11 arg neg l m name [k])]],u]:=fun e=>by subst e;rfl
 have r6:arg=6→callD (.mk 11 arg neg l m name [k]) arg k u=nodeT 8 0 [u,oneD k]:=fun e=>by subst e;rfl
 have r7:arg=7→callD (.mk 11 arg neg l m name [k]) arg k u=nodeT 4 0 [nodeT 8 0 [u,oneD k]]:=fun e=>by subst e;rfl
 have r8:arg=8→callD (.mk 11 arg neg l m name [k]) arg k u=nodeT 8 0 [u,nodeT 5 0 [mkL 1,nodeT 9 2 [k]]]:=fun e=>by subst e;rfl
 obtain ⟨R,hR⟩:∃R,R=callD (.mk 11 arg neg l m name [k]) arg k u:=⟨_,rfl⟩
 rw [← hR] at r1 r2 r3 r4 r5 r6 r7 r8 ⊢
 replace r1:=Hq.mk r1
 replace r2:=Hq.mk r2
 replace r3:=Hq.mk r3
 replace r4:=Hq.mk r4
 replace r5:=Hq.mk r5
 replace r6:=Hq.mk r6
 replace r7:=Hq.mk r7
 replace r8:=Hq.mk r8
 clear hR
 obtain ⟨⟨tp2,ta2,tg2,tl2,tm2,tn2,tk2⟩,hu2⟩:∃x,x=u:=⟨_,rfl⟩
 obtain ⟨a2,b2,s2,hus2,-⟩:=(hu2.symm▸w2:IsE h us2 (.mk tp2 ta2 tg2 tl2 tm2 tn2 tk2)).isK
 subst hus2
 clear hu2
 have w1:=fun h=>whole_ct h 1 (by decide) (by decide)
 simp only [ratI1] at w1
 refine f0C ok D.expr_derivedCall rfl ?_
 conv=>whnf
 repeat ((first|refine oI.z ?_|refine cI.z ?_);conv=>whnf)
 repeat' first|((first|(show LdN _ _ _ _ _;(refine LdN.hasN [.int .i64 op1,.int .i64 ar1,.bool ng1,nn1.val,dd1.val,.string (txt nm1),ss1.val] rfl (fun i v hv=>hld1 _ _ i v (by first|assumption|exact Heap.lr _) hv) ?_))|(show CN _ _ _ _ _ _;(refine CN.f rfl (w1 _) (fun v h' hl2 hr=>?_);obtain ⟨op8,ar8,ng8,nn8,dd8,nm8,ss8,rfl,hE8⟩:=hr))|refine Ld.o 2 rfl rfl ?_|refine Sto.l 0 rfl rfl rfl ?_) <;> (conv=>whnf))|(refine hix1 _ _ rfl ?_;conv=>whnf)|(refine cI.stop 3 ?_)|((first|refine oI.z ?_|refine cI.z ?_);conv=>whnf)|(intro (_:Nat);conv=>whnf)
 rename_i bb2 bb3 bb4 bb5 bb6
 refine ⟨SeqN.cut (fun ρ hx Lx=>∃(b7:Nat) (op7 ar7:Int) (ng7:Bool) (nn7 dd7:Sl) (nm7:List Nat) (ss7:Sl),rd ρ 7=.pointer (some ⟨b7,0,none⟩)∧h'.le hx∧Lx=[(b7,.cells [.int .i64 op7,.int .i64 ar7,.bool ng7,nn7.val,dd7.val,.string (txt nm7),ss7.val].toArray Ty.api_Expr (0,0)),(bb6,.cells [.int .i64 op8,.int .i64 ar8,.bool ng8,nn8.val,dd8.val,.string (txt nm8),ss8.val].toArray Ty.api_Expr (0,0)),(bb5,.cells [.int .i64 op1,.int .i64 ar1,.bool ng1,nn1.val,dd1.val,.string (txt nm1),ss1.val].toArray Ty.api_Expr (0,0)),(bb4,.cells [.int .i64 0,.int .i64 0,.bool false,.slice none 0 0,.slice none 0 0,.string ByteArray.empty,.slice none 0 0].toArray Ty.api_Expr (0,0)),(bb3,.cells [.int .i64 tp2,.int .i64 ta2,.bool tg2,a2.val,b2.val,.string (txt tn2),s2.val].toArray Ty.api_Expr (0,0)),(bb2,.cells [.int .i64 11,.int .i64 arg,.bool neg,a.val,b.val,.string (txt name),s.val].toArray Ty.api_Expr (0,0))]∧IsE hx [.int .i64 op7,.int .i64 ar7,.bool ng7,nn7.val,dd7.val,.string (txt nm7),ss7.val] (oneD k)) ?_ ?_⟩
 ·conv=>whnf
  repeat ((first|refine oI.z ?_|refine cI.z ?_);conv=>whnf)
  repeat' first|((first|(show LdN _ _ _ _ _;first|refine LdN.oA 0 rfl rfl ?_|refine LdN.oA 1 rfl rfl ?_)|refine Sto.l 0 rfl rfl rfl ?_|refine DrN.run (by decide +kernel) ?_|refine ⟨fun _=>HasLe.cons _,?_⟩|refine ⟨fun hst=>(by cases (show true=false from hst)),?_⟩|intro (_:Nat)) <;> (conv=>whnf))|(show CN _ _ _ _ _ _;first|(refine CN.keep 0 rfl rfl (fun hl5=>?_);refine CN.f rfl (node1_ct _ _ (by first|decide|exact ⟨by omega,by omega⟩) (by first|decide|exact ⟨by omega,by omega⟩) (IsE.mono (by assumption) (by first|assumption|exact Heap.lr _)) hl5) (fun v h' hl2 hr=>?_);obtain ⟨op9,ar9,ng9,nn9,dd9,nm9,ss9,rfl,hE9⟩:=hr;first|(refine ⟨fun _=>HasLe.keep (n:=0) rfl hl5 hl2,?_⟩;conv=>whnf)|(conv=>whnf))|(refine CN.keep 1 rfl rfl (fun hl5=>?_);refine CN.f rfl (node1_ct _ _ (by first|decide|exact ⟨by omega,by omega⟩) (by first|decide|exact ⟨by omega,by omega⟩) (IsE.mono (by assumption) (by first|assumption|exact Heap.lr _)) hl5) (fun v h' hl2 hr=>?_);obtain ⟨op9,ar9,ng9,nn9,dd9,nm9,ss9,rfl,hE9⟩:=hr;first|(refine ⟨fun _=>HasLe.keep (n:=1) rfl hl5 hl2,?_⟩;conv=>whnf)|(conv=>whnf))|(refine CN.keep 0 rfl rfl (fun hl5=>?_);refine CN.f rfl (node2_ct _ _ (by first|decide|exact ⟨by omega,by omega⟩) (by first|decide|exact ⟨by omega,by omega⟩) (IsE.mono (by assumption) (by (iterate 30 try first|assumption|refine Heap.lt ?_ (by assumption));first|done|assumption)) (IsE.mono (by assumption) (by first|assumption|exact Heap.lr _)) hl5) (fun v h' hl2 hr=>?_);obtain ⟨op9,ar9,ng9,nn9,dd9,nm9,ss9,rfl,hE9⟩:=hr;first|(refine ⟨fun _=>HasLe.keep (n:=0) rfl hl5 hl2,?_⟩;conv=>whnf)|(conv=>whnf))|(refine CN.keep 1 rfl rfl (fun hl5=>?_);refine CN.f rfl (node2_ct _ _ (by first|decide|exact ⟨by omega,by omega⟩) (by first|decide|exact ⟨by omega,by omega⟩) (IsE.mono (by assumption) (by (iterate 30 try first|assumption|refine Heap.lt ?_ (by assumption));first|done|assumption)) (IsE.mono (by assumption) (by first|assumption|exact Heap.lr _)) hl5) (fun v h' hl2 hr=>?_);obtain ⟨op9,ar9,ng9,nn9,dd9,nm9,ss9,rfl,hE9⟩:=hr;first|(refine ⟨fun _=>HasLe.keep (n:=1) rfl hl5 hl2,?_⟩;conv=>whnf)|(conv=>whnf)))|(refine Both.mk ?_ ?_ <;> (conv=>whnf))
  all_goals exact ⟨rfl,_,op9,ar9,ng9,nn9,dd9,nm9,ss9,rfl,(by (iterate 30 try first|assumption|refine Heap.lt ?_ (by assumption));first|done|assumption),rfl,by assumption⟩
 conv=>whnf
 repeat intro _
 rename_i h4 L4 hJ
 obtain ⟨b7,op7,ar7,ng7,nn7,dd7,nm7,ss7,e7,hle4,rfl,hE7⟩:=hJ
 conv at e7=>lhs;whnf
 subst e7
 conv=>whnf
 repeat ((first|refine oI.z ?_|refine cI.z ?_);conv=>whnf)
 repeat' first|((first|(show LdN _ _ _ _ _;first|refine LdN.oA 0 rfl rfl ?_|refine LdN.oA 1 rfl rfl ?_|refine LdN.oA 2 rfl rfl ?_|refine LdN.oA 3 rfl rfl ?_|refine LdN.oA 4 rfl rfl ?_|refine LdN.oA 5 rfl rfl ?_)|((first|refine oI.z ?_|refine cI.z ?_))|refine ⟨fun _=>HasLe.cons _,?_⟩|refine ⟨fun hst=>(by cases (show true=false from hst)),?_⟩|intro (_:Nat)|refine Ld.o 5 rfl rfl ?_|refine Sto.l 3 rfl rfl rfl ?_|refine DrN.run (by decide +kernel) ?_) <;> (conv=>whnf))|(show CN _ _ _ _ _ _;first|(refine CN.keep 0 rfl rfl (fun hl5=>?_);refine CN.f rfl (node1_ct _ _ (by first|decide|exact ⟨by omega,by omega⟩) (by first|decide|exact ⟨by omega,by omega⟩) (IsE.mono (by assumption) (by (iterate 30 try first|assumption|exact Heap.lr _|refine Heap.lt ?_ (by assumption));first|done|assumption)) hl5) (fun v h' hl2 hr=>?_);obtain ⟨op9,ar9,ng9,nn9,dd9,nm9,ss9,rfl,hE9⟩:=hr;first|(refine ⟨fun _=>HasLe.keep (n:=0) rfl hl5 hl2,?_⟩;conv=>whnf)|(conv=>whnf))|(refine CN.keep 0 rfl rfl (fun hl5=>?_);refine CN.f rfl (node2_ct _ _ (by first|decide|exact ⟨by omega,by omega⟩) (by first|decide|exact ⟨by omega,by omega⟩) (IsE.mono (by assumption) (by (iterate 30 try first|assumption|exact Heap.lr _|refine Heap.lt ?_ (by assumption));first|done|assumption)) (IsE.mono (by assumption) (by (iterate 30 try first|assumption|exact Heap.lr _|refine Heap.lt ?_ (by assumption));first|done|assumption)) hl5) (fun v h' hl2 hr=>?_);obtain ⟨op9,ar9,ng9,nn9,dd9,nm9,ss9,rfl,hE9⟩:=hr;first|(refine ⟨fun _=>HasLe.keep (n:=0) rfl hl5 hl2,?_⟩;conv=>whnf)|(conv=>whnf)))|(refine cnd_eq (fun _=>?_) (fun _=>?_) <;> first|(exfalso;omega)|(conv=>whnf))
 all_goals first
  | (rw [r1.out (by omega)];exact RN.a ⟨_,_,_,_,_,_,_,rfl,(by assumption)⟩)
  | (rw [r2.out (by omega)];exact RN.a ⟨_,_,_,_,_,_,_,rfl,(by assumption)⟩)
  | (rw [r3.out (by omega)];exact RN.a ⟨_,_,_,_,_,_,_,rfl,(by assumption)⟩)
  | (rw [r4.out (by omega)];exact RN.a ⟨_,_,_,_,_,_,_,rfl,(by assumption)⟩)
  | (rw [r5.out (by omega)];exact RN.a ⟨_,_,_,_,_,_,_,rfl,(by assumption)⟩)
  | (rw [r6.out (by omega)];exact RN.a ⟨_,_,_,_,_,_,_,rfl,(by assumption)⟩)
  | (rw [r7.out (by omega)];exact RN.a ⟨_,_,_,_,_,_,_,rfl,(by assumption)⟩)
  | (rw [r8.out (by omega)];exact RN.a ⟨_,_,_,_,_,_,_,rfl,(by assumption)⟩)
theorem derived_ct (nm:List Nat) (hnm:∀y∈nm,y<256):∀t:Tr,∀(h:Heap) (vs:List Value),IsE h vs t→okG t→smT t→Fn0 T F.expr_derived [.agg vs.toArray,.string (txt nm)] h fun v h'=>VE h' v (derT id nm t):=by
 refine tree_ind fun t ih=>?_
 intro h vs w hok hsm
 obtain ⟨op,arg,neg,l,m,name,ks⟩:=t
 obtain ⟨a,b,s,rfl,ho,ha,hv,hb,hk⟩:=w.isK
 rw [okG] at hok
 obtain ⟨hnb,hoks⟩:=hok
 rw [smT] at hsm
 obtain ⟨hs1,hs2⟩:=hsm
 have kn:=kinds_sm hnb hs1
 obtain ⟨-,n2,n3,-,-⟩:=hnb
 have w0:=fun h=>whole_ct h 0 (by decide) (by decide)
 simp only [ratI0] at w0
 have w1:=fun h=>whole_ct h 1 (by decide) (by decide)
 simp only [ratI1] at w1
 rw [derT]
 rcases kn with rfl|rfl|rfl|⟨rfl|rfl|rfl|rfl,hn1⟩|⟨rfl|rfl|rfl|rfl,hn2⟩
 ·rw [if_pos (by decide)]
  refine f0C ok D.expr_derived rfl ?_
  conv=>whnf
  repeat ((first|refine oI.z ?_|refine cI.z ?_);conv=>whnf)
  repeat' first|((first|(show SeqN _ _ _ _ _ _ _;refine SeqN.go ?_)|(show LdN _ _ _ _ _;refine LdN.oA 0 rfl rfl ?_)|(show CN _ _ _ _ _ _;(refine CN.f rfl (w0 _) (fun v h' hl2 hr=>?_);obtain ⟨op8,ar8,ng8,nn8,dd8,nm8,ss8,rfl,hE8⟩:=hr))|((first|refine oI.z ?_|refine cI.z ?_))|intro (_:Nat)|refine Ld.o 1 rfl rfl ?_|refine Sto.l 0 rfl rfl rfl ?_) <;> (conv=>whnf))|(refine cnd_eq (fun _=>?_) (fun _=>?_) <;> first|(exfalso;omega)|(conv=>whnf))
  all_goals exact RN.a ⟨_,_,_,_,_,_,_,rfl,(by assumption)⟩
 ·rw [if_neg (by decide),if_pos rfl]
  refine f0C ok D.expr_derived rfl ?_
  conv=>whnf
  repeat ((first|refine oI.z ?_|refine cI.z ?_);conv=>whnf)
  repeat' first|((first|(show SeqN _ _ _ _ _ _ _;refine SeqN.go ?_)|(show LdN _ _ _ _ _;refine LdN.oA 0 rfl rfl ?_)|(show CN _ _ _ _ _ _;first|(refine CN.f rfl (w0 _) (fun v h' hl2 hr=>?_);obtain ⟨op8,ar8,ng8,nn8,dd8,nm8,ss8,rfl,hE8⟩:=hr)|(refine CN.f rfl (w1 _) (fun v h' hl2 hr=>?_);obtain ⟨op8,ar8,ng8,nn8,dd8,nm8,ss8,rfl,hE8⟩:=hr))|((first|refine oI.z ?_|refine cI.z ?_))|intro (_:Nat)|refine Ld.o 1 rfl rfl ?_|refine Sto.l 0 rfl rfl rfl ?_) <;> (conv=>whnf))|(show cnd _ _ _;first|(refine cnd_txt hb hnm (fun _=>?_) (fun _=>?_) <;> (conv=>whnf))|(refine cnd_eq (fun _=>?_) (fun _=>?_) <;> first|(exfalso;omega)|(conv=>whnf)))
  all_goals first
   | (rw [if_pos (by assumption)];exact RN.a ⟨_,_,_,_,_,_,_,rfl,(by assumption)⟩)
   | (rw [if_neg (by assumption)];exact RN.a ⟨_,_,_,_,_,_,_,rfl,(by assumption)⟩)
 ·rw [if_pos (by decide)]
  refine f0C ok D.expr_derived rfl ?_
  conv=>whnf
  repeat ((first|refine oI.z ?_|refine cI.z ?_);conv=>whnf)
  repeat' first|((first|(show SeqN _ _ _ _ _ _ _;refine SeqN.go ?_)|(show LdN _ _ _ _ _;refine LdN.oA 0 rfl rfl ?_)|(show CN _ _ _ _ _ _;(refine CN.f rfl (w0 _) (fun v h' hl2 hr=>?_);obtain ⟨op8,ar8,ng8,nn8,dd8,nm8,ss8,rfl,hE8⟩:=hr))|((first|refine oI.z ?_|refine cI.z ?_))|intro (_:Nat)|refine Ld.o 1 rfl rfl ?_|refine Sto.l 0 rfl rfl rfl ?_) <;> (conv=>whnf))|(refine cnd_eq (fun _=>?_) (fun _=>?_) <;> first|(exfalso;omega)|(conv=>whnf))
  all_goals exact RN.a ⟨_,_,_,_,_,_,_,rfl,(by assumption)⟩
 ·obtain ⟨k,rfl⟩:∃k,ks=[k]:=by
   match ks,hn1 with
   | [k],_=>exact ⟨k,rfl⟩
  rw [okGs] at hoks
  rw [smTs] at hs2
  obtain ⟨bl1,off1,op1,ar1,ng1,nn1,dd1,nm1,ss1,hE1,hld1,hln1,hix1⟩:=hk.kidP 0 _ rfl
  have e1:=fun h vs w=>ih k (szT_kid (j:=0) rfl) h vs w hoks.1 hs2.1
  rw [if_neg (by decide),if_neg (by decide),derTs,derTs,nodeD]
  show Fn0 T _ _ _ fun v h'=>VE h' v (nodeT 4 0 [derT id nm k])
  obtain ⟨D1,hD1⟩:∃D,D=derT id nm k:=⟨_,rfl⟩
  simp only [← hD1] at e1 ⊢
  clear hD1
  have hkl:s.l=1:=hk.len
  refine f0C ok D.expr_derived rfl ?_
  conv=>whnf
  repeat ((first|refine oI.z ?_|refine cI.z ?_);conv=>whnf)
  repeat' first|((first|(show SeqN _ _ _ _ _ _ _;refine SeqN.go ?_)|(show LdN _ _ _ _ _;first|refine LdN.oA 0 rfl rfl ?_|refine LdN.oA 2 rfl rfl ?_|(refine LdN.hasN [.int .i64 op1,.int .i64 ar1,.bool ng1,nn1.val,dd1.val,.string (txt nm1),ss1.val] rfl (fun i v hv=>hld1 _ _ i v (by first|assumption|exact Heap.lr _) hv) ?_))|refine hix1 _ _ rfl ?_|((first|refine oI.z ?_|refine cI.z ?_))|intro (_:Nat)|(show Ld _ _ _ _;first|refine Ld.o 1 rfl rfl ?_|refine Ld.o 3 rfl rfl ?_)|(show Sto _ _ _ _;first|refine Sto.l 0 rfl rfl rfl ?_|refine Sto.l 2 rfl rfl rfl ?_)) <;> (conv=>whnf))|(show CN _ _ _ _ _ _;first|(refine CN.f rfl (e1 _ _ (hE1.mono (by first|assumption|exact Heap.lr _))) (fun v h' hl2 hr=>?_);obtain ⟨op3,ar3,ng3,nn3,dd3,nm3,ss3,rfl,hE3⟩:=hr;conv=>whnf)|(refine CN.keep 0 rfl rfl (fun hl5=>?_);refine CN.f rfl (node1_ct _ _ (by first|decide|exact ⟨by omega,by omega⟩) (by first|decide|exact ⟨by omega,by omega⟩) (IsE.mono (by assumption) (by first|assumption|exact Heap.lr _)) hl5) (fun v h' hl2 hr=>?_);obtain ⟨op9,ar9,ng9,nn9,dd9,nm9,ss9,rfl,hE9⟩:=hr;first|(refine ⟨fun _=>HasLe.keep (n:=0) rfl hl5 hl2,?_⟩;conv=>whnf)|(conv=>whnf)))|(refine cnd_eq (fun _=>?_) (fun _=>?_) <;> first|(exfalso;omega)|(conv=>whnf))
  all_goals exact RN.a ⟨_,_,_,_,_,_,_,rfl,(by assumption)⟩
 ·obtain ⟨k,rfl⟩:∃k,ks=[k]:=by
   match ks,hn1 with
   | [k],_=>exact ⟨k,rfl⟩
  rw [okGs] at hoks
  rw [smTs] at hs2
  rw [show lowA 9=-32 by decide] at n2
  rw [show highA 9=32 by decide] at n3
  have dp:=fun u h vs us2 w w2=>derivedPower_ct k u arg n2 n3 neg l m name h vs us2 w w2
  obtain ⟨bl1,off1,op1,ar1,ng1,nn1,dd1,nm1,ss1,hE1,hld1,hln1,hix1⟩:=hk.kidP 0 _ rfl
  have e1:=fun h vs w=>ih k (szT_kid (j:=0) rfl) h vs w hoks.1 hs2.1
  rw [if_neg (by decide),if_neg (by decide),derTs,derTs,nodeD]
  show Fn0 T _ _ _ fun v h'=>VE h' v (powD (.mk 9 arg neg l m name [k]) arg k (derT id nm k))
  obtain ⟨D1,hD1⟩:∃D,D=derT id nm k:=⟨_,rfl⟩
  simp only [← hD1] at e1 ⊢
  clear hD1
  have hkl:s.l=1:=hk.len
  refine f0C ok D.expr_derived rfl ?_
  conv=>whnf
  repeat ((first|refine oI.z ?_|refine cI.z ?_);conv=>whnf)
  repeat' first|((first|(show SeqN _ _ _ _ _ _ _;refine SeqN.go ?_)|(show LdN _ _ _ _ _;first|refine LdN.oA 0 rfl rfl ?_|refine LdN.oA 2 rfl rfl ?_|refine LdN.oA 3 rfl rfl ?_|(refine LdN.hasN [.int .i64 op1,.int .i64 ar1,.bool ng1,nn1.val,dd1.val,.string (txt nm1),ss1.val] rfl (fun i v hv=>hld1 _ _ i v (by first|assumption|exact Heap.lr _) hv) ?_))|refine hix1 _ _ rfl ?_|((first|refine oI.z ?_|refine cI.z ?_))|intro (_:Nat)|(show CN _ _ _ _ _ _;first|(refine CN.f rfl (e1 _ _ (hE1.mono (by first|assumption|exact Heap.lr _))) (fun v h' hl2 hr=>?_);obtain ⟨op3,ar3,ng3,nn3,dd3,nm3,ss3,rfl,hE3⟩:=hr)|(refine CN.f rfl (dp _ _ _ _ (w.mono (by assumption)) hE3) (fun v h' hl2 hr=>?_);obtain ⟨op9,ar9,ng9,nn9,dd9,nm9,ss9,rfl,hE9⟩:=hr))|(show Ld _ _ _ _;first|refine Ld.o 1 rfl rfl ?_|refine Ld.o 3 rfl rfl ?_)|(show Sto _ _ _ _;first|refine Sto.l 0 rfl rfl rfl ?_|refine Sto.l 2 rfl rfl rfl ?_)) <;> (conv=>whnf))|(refine cnd_eq (fun _=>?_) (fun _=>?_) <;> first|(exfalso;omega)|(conv=>whnf))
  all_goals exact RN.a ⟨_,_,_,_,_,_,_,rfl,(by assumption)⟩
 ·obtain ⟨k,rfl⟩:∃k,ks=[k]:=by
   match ks,hn1 with
   | [k],_=>exact ⟨k,rfl⟩
  rw [okGs] at hoks
  rw [smTs] at hs2
  rw [show lowA 10=2 by decide] at n2
  rw [show highA 10=8 by decide] at n3
  have wN:=fun h=>whole_ct h arg (by omega) (by omega)
  obtain ⟨Q,hQ⟩:∃Q,Q=(arg:Rat):=⟨_,rfl⟩
  simp only [← hQ] at wN
  obtain ⟨bl1,off1,op1,ar1,ng1,nn1,dd1,nm1,ss1,hE1,hld1,hln1,hix1⟩:=hk.kidP 0 _ rfl
  have e1:=fun h vs w=>ih k (szT_kid (j:=0) rfl) h vs w hoks.1 hs2.1
  rw [if_neg (by decide),if_neg (by decide),derTs,derTs,nodeD]
  show Fn0 T _ _ _ fun v h'=>VE h' v (nodeT 8 0 [derT id nm k,nodeT 7 0 [mkL (arg:Rat),nodeT 9 (arg-1) [.mk 10 arg neg l m name [k]]]])
  rw [← hQ]
  obtain ⟨D1,hD1⟩:∃D,D=derT id nm k:=⟨_,rfl⟩
  simp only [← hD1] at e1 ⊢
  clear hD1
  have hkl:s.l=1:=hk.len
  refine f0C ok D.expr_derived rfl ?_
  conv=>whnf
  repeat ((first|refine oI.z ?_|refine cI.z ?_);conv=>whnf)
  repeat' first|((first|(show SeqN _ _ _ _ _ _ _;refine SeqN.go ?_)|(show LdN _ _ _ _ _;first|refine LdN.oA 0 rfl rfl ?_|(refine LdN.hasN [.int .i64 op1,.int .i64 ar1,.bool ng1,nn1.val,dd1.val,.string (txt nm1),ss1.val] rfl (fun i v hv=>hld1 _ _ i v (by first|assumption|exact Heap.lr _) hv) ?_))|(show CN _ _ _ _ _ _;(refine CN.f rfl (e1 _ _ (hE1.mono (by first|assumption|exact Heap.lr _))) (fun v h' hl2 hr=>?_);obtain ⟨op3,ar3,ng3,nn3,dd3,nm3,ss3,rfl,hE3⟩:=hr))|(show Ld _ _ _ _;first|refine Ld.o 1 rfl rfl ?_|refine Ld.o 3 rfl rfl ?_)|refine Sto.l 0 rfl rfl rfl ?_) <;> (conv=>whnf))|(refine hix1 _ _ rfl ?_;conv=>whnf)|(refine cI.stop 17 ?_)|((first|refine oI.z ?_|refine cI.z ?_);conv=>whnf)|(intro (_:Nat);conv=>whnf)|(refine cnd_eq (fun _=>?_) (fun _=>?_) <;> first|(exfalso;omega)|(conv=>whnf))
  rename_i bb2 bb4 y1 y2 y3 bb5 bb6 y4 y5 y6
  refine ⟨SeqN.cut (fun ρ hx Lx=>∃(b7:Nat) (op7 ar7:Int) (ng7:Bool) (nn7 dd7:Sl) (nm7:List Nat) (ss7:Sl),rd ρ 7=.pointer (some ⟨b7,0,none⟩)∧h'.le hx∧Lx=[(b7,.cells [.int .i64 op7,.int .i64 ar7,.bool ng7,nn7.val,dd7.val,.string (txt nm7),ss7.val].toArray Ty.api_Expr (0,0)),(bb6,.cells [.int .i64 op3,.int .i64 ar3,.bool ng3,nn3.val,dd3.val,.string (txt nm3),ss3.val].toArray Ty.api_Expr (0,0)),(bb5,.cells [.int .i64 op1,.int .i64 ar1,.bool ng1,nn1.val,dd1.val,.string (txt nm1),ss1.val].toArray Ty.api_Expr (0,0)),(bb4,.cells [.int .i64 0,.int .i64 0,.bool false,.slice none 0 0,.slice none 0 0,.string ByteArray.empty,.slice none 0 0].toArray Ty.api_Expr (0,0)),(bb2,.cells [.int .i64 10,.int .i64 arg,.bool neg,a.val,b.val,.string (txt name),s.val].toArray Ty.api_Expr (0,0))]∧IsE hx [.int .i64 op7,.int .i64 ar7,.bool ng7,nn7.val,dd7.val,.string (txt nm7),ss7.val] (nodeT 7 0 [mkL Q,nodeT 9 (arg-1) [.mk 10 arg neg l m name [k]]])) ?_ ?_⟩
  ·conv=>whnf
   repeat ((first|refine oI.z ?_|refine cI.z ?_);conv=>whnf)
   repeat' first|((first|(show LdN _ _ _ _ _;refine LdN.oA 3 rfl rfl ?_)|refine WN.i64 (by omega) (by omega) ?_|refine Ld.o 3 rfl rfl ?_|refine Sto.l 0 rfl rfl rfl ?_|refine DrN.run (by decide +kernel) ?_|refine ⟨fun _=>HasLe.o (by assumption),?_⟩|refine ⟨fun _=>HasLe.cons _,?_⟩|refine ⟨fun hst=>(by cases (show true=false from hst)),?_⟩|intro (_:Nat)) <;> (conv=>whnf))|(show CN _ _ _ _ _ _;first|(refine CN.keep 0 rfl rfl (fun hl5=>?_);refine CN.f rfl (node1_ct _ _ (by first|decide|exact ⟨by omega,by omega⟩) (by first|decide|exact ⟨by omega,by omega⟩) (IsE.mono (by assumption) (by (iterate 30 try first|assumption|refine Heap.lt ?_ (by assumption));first|done|assumption)) hl5) (fun v h' hl2 hr=>?_);obtain ⟨op9,ar9,ng9,nn9,dd9,nm9,ss9,rfl,hE9⟩:=hr;first|(refine ⟨fun _=>HasLe.keep (n:=0) rfl hl5 hl2,?_⟩;conv=>whnf)|(conv=>whnf))|(refine CN.keep 1 rfl rfl (fun hl5=>?_);refine CN.f rfl (node1_ct _ _ (by first|decide|exact ⟨by omega,by omega⟩) (by first|decide|exact ⟨by omega,by omega⟩) (IsE.mono (by assumption) (by (iterate 30 try first|assumption|refine Heap.lt ?_ (by assumption));first|done|assumption)) hl5) (fun v h' hl2 hr=>?_);obtain ⟨op9,ar9,ng9,nn9,dd9,nm9,ss9,rfl,hE9⟩:=hr;first|(refine ⟨fun _=>HasLe.keep (n:=1) rfl hl5 hl2,?_⟩;conv=>whnf)|(conv=>whnf))|(refine CN.keep 0 rfl rfl (fun hl5=>?_);refine CN.f rfl (node2_ct _ _ (by first|decide|exact ⟨by omega,by omega⟩) (by first|decide|exact ⟨by omega,by omega⟩) (IsE.mono (by assumption) (by (iterate 30 try first|assumption|refine Heap.lt ?_ (by assumption));first|done|assumption)) (IsE.mono (by assumption) (by first|assumption|exact Heap.lr _)) hl5) (fun v h' hl2 hr=>?_);obtain ⟨op9,ar9,ng9,nn9,dd9,nm9,ss9,rfl,hE9⟩:=hr;first|(refine ⟨fun _=>HasLe.keep (n:=0) rfl hl5 hl2,?_⟩;conv=>whnf)|(conv=>whnf))|(refine CN.keep 1 rfl rfl (fun hl5=>?_);refine CN.f rfl (node2_ct _ _ (by first|decide|exact ⟨by omega,by omega⟩) (by first|decide|exact ⟨by omega,by omega⟩) (IsE.mono (by assumption) (by (iterate 30 try first|assumption|refine Heap.lt ?_ (by assumption));first|done|assumption)) (IsE.mono (by assumption) (by first|assumption|exact Heap.lr _)) hl5) (fun v h' hl2 hr=>?_);obtain ⟨op9,ar9,ng9,nn9,dd9,nm9,ss9,rfl,hE9⟩:=hr;first|(refine ⟨fun _=>HasLe.keep (n:=1) rfl hl5 hl2,?_⟩;conv=>whnf)|(conv=>whnf))|(refine CN.f rfl (wN _) (fun v h' hl2 hr=>?_);obtain ⟨op8,ar8,ng8,nn8,dd8,nm8,ss8,rfl,hE8⟩:=hr;conv=>whnf))|(refine Both.mk ?_ ?_ <;> (conv=>whnf))
   all_goals exact ⟨rfl,_,op9,ar9,ng9,nn9,dd9,nm9,ss9,rfl,(by (iterate 30 try first|assumption|refine Heap.lt ?_ (by assumption));first|done|assumption),rfl,by assumption⟩
  conv=>whnf
  repeat intro _
  rename_i h4 L4 hJ
  obtain ⟨b7,op7,ar7,ng7,nn7,dd7,nm7,ss7,e7,hle4,rfl,hE7⟩:=hJ
  conv at e7=>lhs;whnf
  subst e7
  conv=>whnf
  repeat ((first|refine oI.z ?_|refine cI.z ?_);conv=>whnf)
  repeat' first|((first|(show LdN _ _ _ _ _;first|refine LdN.oA 0 rfl rfl ?_|refine LdN.oA 1 rfl rfl ?_|refine LdN.oA 3 rfl rfl ?_)|((first|refine oI.z ?_|refine cI.z ?_))|intro (_:Nat)|refine Sto.l 3 rfl rfl rfl ?_) <;> (conv=>whnf))|(show CN _ _ _ _ _ _;first|(refine CN.keep 0 rfl rfl (fun hl5=>?_);refine CN.f rfl (node2_ct _ _ (by first|decide|exact ⟨by omega,by omega⟩) (by first|decide|exact ⟨by omega,by omega⟩) (IsE.mono (by assumption) (by assumption)) (IsE.mono (by assumption) (by first|assumption|exact Heap.lr _)) hl5) (fun v h' hl2 hr=>?_);obtain ⟨op9,ar9,ng9,nn9,dd9,nm9,ss9,rfl,hE9⟩:=hr;first|(refine ⟨fun _=>HasLe.keep (n:=0) rfl hl5 hl2,?_⟩;conv=>whnf)|(conv=>whnf)))
  all_goals exact RN.a ⟨_,_,_,_,_,_,_,rfl,(by assumption)⟩
 ·obtain ⟨k,rfl⟩:∃k,ks=[k]:=by
   match ks,hn1 with
   | [k],_=>exact ⟨k,rfl⟩
  rw [okGs] at hoks
  rw [smTs] at hs2
  rw [show lowA 11=1 by decide] at n2
  rw [show highA 11=8 by decide] at n3
  have dc:=fun u h vs us2 w w2=>derivedCall_ct k u arg n2 n3 neg l m name h vs us2 w w2
  obtain ⟨bl1,off1,op1,ar1,ng1,nn1,dd1,nm1,ss1,hE1,hld1,hln1,hix1⟩:=hk.kidP 0 _ rfl
  have e1:=fun h vs w=>ih k (szT_kid (j:=0) rfl) h vs w hoks.1 hs2.1
  rw [if_neg (by decide),if_neg (by decide),derTs,derTs,nodeD]
  show Fn0 T _ _ _ fun v h'=>VE h' v (callD (.mk 11 arg neg l m name [k]) arg k (derT id nm k))
  obtain ⟨D1,hD1⟩:∃D,D=derT id nm k:=⟨_,rfl⟩
  simp only [← hD1] at e1 ⊢
  clear hD1
  have hkl:s.l=1:=hk.len
  refine f0C ok D.expr_derived rfl ?_
  conv=>whnf
  repeat ((first|refine oI.z ?_|refine cI.z ?_);conv=>whnf)
  repeat' first|((first|(show SeqN _ _ _ _ _ _ _;refine SeqN.go ?_)|(show LdN _ _ _ _ _;first|refine LdN.oA 0 rfl rfl ?_|refine LdN.oA 2 rfl rfl ?_|refine LdN.oA 3 rfl rfl ?_|(refine LdN.hasN [.int .i64 op1,.int .i64 ar1,.bool ng1,nn1.val,dd1.val,.string (txt nm1),ss1.val] rfl (fun i v hv=>hld1 _ _ i v (by first|assumption|exact Heap.lr _) hv) ?_))|refine hix1 _ _ rfl ?_|((first|refine oI.z ?_|refine cI.z ?_))|intro (_:Nat)|(show CN _ _ _ _ _ _;first|(refine CN.f rfl (e1 _ _ (hE1.mono (by first|assumption|exact Heap.lr _))) (fun v h' hl2 hr=>?_);obtain ⟨op3,ar3,ng3,nn3,dd3,nm3,ss3,rfl,hE3⟩:=hr)|(refine CN.f rfl (dc _ _ _ _ (w.mono (by assumption)) hE3) (fun v h' hl2 hr=>?_);obtain ⟨op9,ar9,ng9,nn9,dd9,nm9,ss9,rfl,hE9⟩:=hr))|(show Ld _ _ _ _;first|refine Ld.o 1 rfl rfl ?_|refine Ld.o 3 rfl rfl ?_)|(show Sto _ _ _ _;first|refine Sto.l 0 rfl rfl rfl ?_|refine Sto.l 2 rfl rfl rfl ?_)) <;> (conv=>whnf))|(refine cnd_eq (fun _=>?_) (fun _=>?_) <;> first|(exfalso;omega)|(conv=>whnf))
  all_goals exact RN.a ⟨_,_,_,_,_,_,_,rfl,(by assumption)⟩
 ·obtain ⟨k,k',rfl⟩:∃k k',ks=[k,k']:=by
   match ks,hn2 with
   | [k,k'],_=>exact ⟨k,k',rfl⟩
  rw [okGs,okGs] at hoks
  rw [smTs,smTs] at hs2
  obtain ⟨bl1,off1,op1,ar1,ng1,nn1,dd1,nm1,ss1,hE1,hld1,hln1,hix1⟩:=hk.kidP 0 _ rfl
  obtain ⟨bl2,off2,op2,ar2,ng2,nn2,dd2,nm2,ss2,hE2,hld2,hln2,hix2⟩:=hk.kidP 1 _ rfl
  have e1:=fun h vs w=>ih k (szT_kid (j:=0) rfl) h vs w hoks.1 hs2.1
  have e2:=fun h vs w=>ih k' (szT_kid (j:=1) rfl) h vs w hoks.2.1 hs2.2.1
  rw [if_neg (by decide),if_neg (by decide),derTs,derTs,derTs,nodeD]
  show Fn0 T _ _ _ fun v h'=>VE h' v (nodeT 5 0 [derT id nm k,derT id nm k'])
  obtain ⟨D1,hD1⟩:∃D,D=derT id nm k:=⟨_,rfl⟩
  obtain ⟨D2,hD2⟩:∃D,D=derT id nm k':=⟨_,rfl⟩
  simp only [← hD1] at e1 ⊢
  simp only [← hD2] at e2 ⊢
  clear hD1 hD2
  have hkl:s.l=2:=hk.len
  refine f0C ok D.expr_derived rfl ?_
  conv=>whnf
  repeat ((first|refine oI.z ?_|refine cI.z ?_);conv=>whnf)
  repeat' first|((first|(show SeqN _ _ _ _ _ _ _;refine SeqN.go ?_)|(show LdN _ _ _ _ _;first|refine LdN.oA 0 rfl rfl ?_|refine LdN.oA 2 rfl rfl ?_|refine LdN.oA 4 rfl rfl ?_|(refine LdN.hasN [.int .i64 op1,.int .i64 ar1,.bool ng1,nn1.val,dd1.val,.string (txt nm1),ss1.val] rfl (fun i v hv=>hld1 _ _ i v (by first|assumption|exact Heap.lr _) hv) ?_)|refine LdN.hasN [.int .i64 op2,.int .i64 ar2,.bool ng2,nn2.val,dd2.val,.string (txt nm2),ss2.val] rfl (fun i v hv=>hld2 _ _ i v (by assumption) hv) ?_)|refine hix1 _ _ rfl ?_|refine hix2 _ _ rfl ?_|((first|refine oI.z ?_|refine cI.z ?_))|intro (_:Nat)|(show Ld _ _ _ _;first|refine Ld.o 1 rfl rfl ?_|refine Ld.o 3 rfl rfl ?_|refine Ld.o 5 rfl rfl ?_)|(show Sto _ _ _ _;first|refine Sto.l 0 rfl rfl rfl ?_|refine Sto.l 4 rfl rfl rfl ?_)) <;> (conv=>whnf))|(show CN _ _ _ _ _ _;first|(refine CN.f rfl (e1 _ _ (hE1.mono (by first|assumption|exact Heap.lr _))) (fun v h' hl2 hr=>?_);obtain ⟨op3,ar3,ng3,nn3,dd3,nm3,ss3,rfl,hE3⟩:=hr;conv=>whnf)|(refine CN.f rfl (e2 _ _ (hE2.mono (by assumption))) (fun v h' hl2 hr=>?_);obtain ⟨op4,ar4,ng4,nn4,dd4,nm4,ss4,rfl,hE4⟩:=hr;conv=>whnf)|(refine CN.keep 0 rfl rfl (fun hl5=>?_);refine CN.f rfl (node2_ct _ _ (by first|decide|exact ⟨by omega,by omega⟩) (by first|decide|exact ⟨by omega,by omega⟩) (IsE.mono (by assumption) (by assumption)) (IsE.mono (by assumption) (by first|assumption|exact Heap.lr _)) hl5) (fun v h' hl2 hr=>?_);obtain ⟨op9,ar9,ng9,nn9,dd9,nm9,ss9,rfl,hE9⟩:=hr;first|(refine ⟨fun _=>HasLe.keep (n:=0) rfl hl5 hl2,?_⟩;conv=>whnf)|(conv=>whnf)))|(refine cnd_eq (fun _=>?_) (fun _=>?_) <;> first|(exfalso;omega)|(conv=>whnf))
  all_goals exact RN.a ⟨_,_,_,_,_,_,_,rfl,(by assumption)⟩
 ·obtain ⟨k,k',rfl⟩:∃k k',ks=[k,k']:=by
   match ks,hn2 with
   | [k,k'],_=>exact ⟨k,k',rfl⟩
  rw [okGs,okGs] at hoks
  rw [smTs,smTs] at hs2
  obtain ⟨bl1,off1,op1,ar1,ng1,nn1,dd1,nm1,ss1,hE1,hld1,hln1,hix1⟩:=hk.kidP 0 _ rfl
  obtain ⟨bl2,off2,op2,ar2,ng2,nn2,dd2,nm2,ss2,hE2,hld2,hln2,hix2⟩:=hk.kidP 1 _ rfl
  have e1:=fun h vs w=>ih k (szT_kid (j:=0) rfl) h vs w hoks.1 hs2.1
  have e2:=fun h vs w=>ih k' (szT_kid (j:=1) rfl) h vs w hoks.2.1 hs2.2.1
  rw [if_neg (by decide),if_neg (by decide),derTs,derTs,derTs,nodeD]
  show Fn0 T _ _ _ fun v h'=>VE h' v (nodeT 6 0 [derT id nm k,derT id nm k'])
  obtain ⟨D1,hD1⟩:∃D,D=derT id nm k:=⟨_,rfl⟩
  obtain ⟨D2,hD2⟩:∃D,D=derT id nm k':=⟨_,rfl⟩
  simp only [← hD1] at e1 ⊢
  simp only [← hD2] at e2 ⊢
  clear hD1 hD2
  have hkl:s.l=2:=hk.len
  refine f0C ok D.expr_derived rfl ?_
  conv=>whnf
  repeat ((first|refine oI.z ?_|refine cI.z ?_);conv=>whnf)
  repeat' first|((first|(show SeqN _ _ _ _ _ _ _;refine SeqN.go ?_)|(show LdN _ _ _ _ _;first|refine LdN.oA 0 rfl rfl ?_|refine LdN.oA 2 rfl rfl ?_|refine LdN.oA 4 rfl rfl ?_|(refine LdN.hasN [.int .i64 op1,.int .i64 ar1,.bool ng1,nn1.val,dd1.val,.string (txt nm1),ss1.val] rfl (fun i v hv=>hld1 _ _ i v (by first|assumption|exact Heap.lr _) hv) ?_)|refine LdN.hasN [.int .i64 op2,.int .i64 ar2,.bool ng2,nn2.val,dd2.val,.string (txt nm2),ss2.val] rfl (fun i v hv=>hld2 _ _ i v (by assumption) hv) ?_)|refine hix1 _ _ rfl ?_|refine hix2 _ _ rfl ?_|((first|refine oI.z ?_|refine cI.z ?_))|intro (_:Nat)|(show Ld _ _ _ _;first|refine Ld.o 1 rfl rfl ?_|refine Ld.o 3 rfl rfl ?_|refine Ld.o 5 rfl rfl ?_)|(show Sto _ _ _ _;first|refine Sto.l 0 rfl rfl rfl ?_|refine Sto.l 4 rfl rfl rfl ?_)) <;> (conv=>whnf))|(show CN _ _ _ _ _ _;first|(refine CN.f rfl (e1 _ _ (hE1.mono (by first|assumption|exact Heap.lr _))) (fun v h' hl2 hr=>?_);obtain ⟨op3,ar3,ng3,nn3,dd3,nm3,ss3,rfl,hE3⟩:=hr;conv=>whnf)|(refine CN.f rfl (e2 _ _ (hE2.mono (by assumption))) (fun v h' hl2 hr=>?_);obtain ⟨op4,ar4,ng4,nn4,dd4,nm4,ss4,rfl,hE4⟩:=hr;conv=>whnf)|(refine CN.keep 0 rfl rfl (fun hl5=>?_);refine CN.f rfl (node2_ct _ _ (by first|decide|exact ⟨by omega,by omega⟩) (by first|decide|exact ⟨by omega,by omega⟩) (IsE.mono (by assumption) (by assumption)) (IsE.mono (by assumption) (by first|assumption|exact Heap.lr _)) hl5) (fun v h' hl2 hr=>?_);obtain ⟨op9,ar9,ng9,nn9,dd9,nm9,ss9,rfl,hE9⟩:=hr;first|(refine ⟨fun _=>HasLe.keep (n:=0) rfl hl5 hl2,?_⟩;conv=>whnf)|(conv=>whnf)))|(refine cnd_eq (fun _=>?_) (fun _=>?_) <;> first|(exfalso;omega)|(conv=>whnf))
  all_goals exact RN.a ⟨_,_,_,_,_,_,_,rfl,(by assumption)⟩
 ·obtain ⟨k,k',rfl⟩:∃k k',ks=[k,k']:=by
   match ks,hn2 with
   | [k,k'],_=>exact ⟨k,k',rfl⟩
  rw [okGs,okGs] at hoks
  rw [smTs,smTs] at hs2
  obtain ⟨bl1,off1,op1,ar1,ng1,nn1,dd1,nm1,ss1,hE1,hld1,hln1,hix1⟩:=hk.kidP 0 _ rfl
  obtain ⟨bl2,off2,op2,ar2,ng2,nn2,dd2,nm2,ss2,hE2,hld2,hln2,hix2⟩:=hk.kidP 1 _ rfl
  have e1:=fun h vs w=>ih k (szT_kid (j:=0) rfl) h vs w hoks.1 hs2.1
  have e2:=fun h vs w=>ih k' (szT_kid (j:=1) rfl) h vs w hoks.2.1 hs2.2.1
  rw [if_neg (by decide),if_neg (by decide),derTs,derTs,derTs,nodeD]
  show Fn0 T _ _ _ fun v h'=>VE h' v (nodeT 5 0 [nodeT 7 0 [derT id nm k,k'],nodeT 7 0 [k,derT id nm k']])
  obtain ⟨D1,hD1⟩:∃D,D=derT id nm k:=⟨_,rfl⟩
  obtain ⟨D2,hD2⟩:∃D,D=derT id nm k':=⟨_,rfl⟩
  simp only [← hD1] at e1 ⊢
  simp only [← hD2] at e2 ⊢
  clear hD1 hD2
  have hkl:s.l=2:=hk.len
  refine f0C ok D.expr_derived rfl ?_
  conv=>whnf
  repeat ((first|refine oI.z ?_|refine cI.z ?_);conv=>whnf)
  repeat' first|((first|(show SeqN _ _ _ _ _ _ _;refine SeqN.go ?_)|(show LdN _ _ _ _ _;first|refine LdN.oA 0 rfl rfl ?_|(refine LdN.hasN [.int .i64 op1,.int .i64 ar1,.bool ng1,nn1.val,dd1.val,.string (txt nm1),ss1.val] rfl (fun i v hv=>hld1 _ _ i v (by first|assumption|exact Heap.lr _) hv) ?_)|refine LdN.hasN [.int .i64 op2,.int .i64 ar2,.bool ng2,nn2.val,dd2.val,.string (txt nm2),ss2.val] rfl (fun i v hv=>hld2 _ _ i v (by assumption) hv) ?_)|(show CN _ _ _ _ _ _;first|(refine CN.f rfl (e1 _ _ (hE1.mono (by first|assumption|exact Heap.lr _))) (fun v h' hl2 hr=>?_);obtain ⟨op3,ar3,ng3,nn3,dd3,nm3,ss3,rfl,hE3⟩:=hr)|(refine CN.f rfl (e2 _ _ (hE2.mono (by assumption))) (fun v h' hl2 hr=>?_);obtain ⟨op4,ar4,ng4,nn4,dd4,nm4,ss4,rfl,hE4⟩:=hr))|(show Ld _ _ _ _;first|refine Ld.o 1 rfl rfl ?_|refine Ld.o 3 rfl rfl ?_|refine Ld.o 5 rfl rfl ?_)|refine Sto.l 0 rfl rfl rfl ?_) <;> (conv=>whnf))|(refine hix1 _ _ rfl ?_;conv=>whnf)|(refine hix2 _ _ rfl ?_;conv=>whnf)|(refine cI.stop 27 ?_)|((first|refine oI.z ?_|refine cI.z ?_);conv=>whnf)|(intro (_:Nat);conv=>whnf)|(refine cnd_eq (fun _=>?_) (fun _=>?_) <;> first|(exfalso;omega)|(conv=>whnf))
  rename_i bb2 bb4 y1 y2 y3 bb5 y31 y32 bb6 y4 y5 y6 y7 bb8 bb9 y8 y9
  refine ⟨SeqN.cut (fun ρ hx Lx=>∃(b10 b11:Nat) (op7 ar7:Int) (ng7:Bool) (nn7 dd7:Sl) (nm7:List Nat) (ss7:Sl) (op8 ar8:Int) (ng8:Bool) (nn8 dd8:Sl) (nm8:List Nat) (ss8:Sl),rd ρ 10=.pointer (some ⟨b10,0,none⟩)∧rd ρ 11=.pointer (some ⟨b11,0,none⟩)∧h'.le hx∧(Lx=(b10,.cells [.int .i64 op7,.int .i64 ar7,.bool ng7,nn7.val,dd7.val,.string (txt nm7),ss7.val].toArray Ty.api_Expr (0,0))::(b11,.cells [.int .i64 op8,.int .i64 ar8,.bool ng8,nn8.val,dd8.val,.string (txt nm8),ss8.val].toArray Ty.api_Expr (0,0))::[(bb9,.cells [.int .i64 op4,.int .i64 ar4,.bool ng4,nn4.val,dd4.val,.string (txt nm4),ss4.val].toArray Ty.api_Expr (0,0)),(bb8,.cells [.int .i64 op2,.int .i64 ar2,.bool ng2,nn2.val,dd2.val,.string (txt nm2),ss2.val].toArray Ty.api_Expr (0,0)),(bb6,.cells [.int .i64 op3,.int .i64 ar3,.bool ng3,nn3.val,dd3.val,.string (txt nm3),ss3.val].toArray Ty.api_Expr (0,0)),(bb5,.cells [.int .i64 op1,.int .i64 ar1,.bool ng1,nn1.val,dd1.val,.string (txt nm1),ss1.val].toArray Ty.api_Expr (0,0)),(bb4,.cells [.int .i64 0,.int .i64 0,.bool false,.slice none 0 0,.slice none 0 0,.string ByteArray.empty,.slice none 0 0].toArray Ty.api_Expr (0,0)),(bb2,.cells [.int .i64 7,.int .i64 arg,.bool neg,a.val,b.val,.string (txt name),s.val].toArray Ty.api_Expr (0,0))]∨Lx=(b11,.cells [.int .i64 op8,.int .i64 ar8,.bool ng8,nn8.val,dd8.val,.string (txt nm8),ss8.val].toArray Ty.api_Expr (0,0))::(b10,.cells [.int .i64 op7,.int .i64 ar7,.bool ng7,nn7.val,dd7.val,.string (txt nm7),ss7.val].toArray Ty.api_Expr (0,0))::[(bb9,.cells [.int .i64 op4,.int .i64 ar4,.bool ng4,nn4.val,dd4.val,.string (txt nm4),ss4.val].toArray Ty.api_Expr (0,0)),(bb8,.cells [.int .i64 op2,.int .i64 ar2,.bool ng2,nn2.val,dd2.val,.string (txt nm2),ss2.val].toArray Ty.api_Expr (0,0)),(bb6,.cells [.int .i64 op3,.int .i64 ar3,.bool ng3,nn3.val,dd3.val,.string (txt nm3),ss3.val].toArray Ty.api_Expr (0,0)),(bb5,.cells [.int .i64 op1,.int .i64 ar1,.bool ng1,nn1.val,dd1.val,.string (txt nm1),ss1.val].toArray Ty.api_Expr (0,0)),(bb4,.cells [.int .i64 0,.int .i64 0,.bool false,.slice none 0 0,.slice none 0 0,.string ByteArray.empty,.slice none 0 0].toArray Ty.api_Expr (0,0)),(bb2,.cells [.int .i64 7,.int .i64 arg,.bool neg,a.val,b.val,.string (txt name),s.val].toArray Ty.api_Expr (0,0))])∧IsE hx [.int .i64 op7,.int .i64 ar7,.bool ng7,nn7.val,dd7.val,.string (txt nm7),ss7.val] (nodeT 7 0 [D1,k'])∧IsE hx [.int .i64 op8,.int .i64 ar8,.bool ng8,nn8.val,dd8.val,.string (txt nm8),ss8.val] (nodeT 7 0 [k,D2])) ?_ ?_⟩
  ·conv=>whnf
   repeat ((first|refine oI.z ?_|refine cI.z ?_);conv=>whnf)
   repeat' first|((first|(show LdN _ _ _ _ _;first|refine LdN.oA 0 rfl rfl ?_|refine LdN.oA 1 rfl rfl ?_|refine LdN.oA 2 rfl rfl ?_|refine LdN.oA 3 rfl rfl ?_)|(show Sto _ _ _ _;first|refine Sto.l 0 rfl rfl rfl ?_|refine Sto.l 1 rfl rfl rfl ?_)|refine DrN.run (by decide +kernel) ?_|refine ⟨fun _=>HasLe.cons _,?_⟩|refine ⟨fun hst=>(by cases (show true=false from hst)),?_⟩|intro (_:Nat)) <;> (conv=>whnf))|(show CN _ _ _ _ _ _;first|(refine CN.keep 0 rfl rfl (fun hl5=>?_);refine CN.f rfl (node2_ct _ _ (by first|decide|exact ⟨by omega,by omega⟩) (by first|decide|exact ⟨by omega,by omega⟩) (IsE.mono (by assumption) (by (iterate 30 try first|assumption|refine Heap.lt ?_ (by assumption));first|done|assumption)) (IsE.mono (by assumption) (by (iterate 30 try first|assumption|refine Heap.lt ?_ (by assumption));first|done|assumption)) hl5) (fun v h' hl2 hr=>?_);obtain ⟨op9,ar9,ng9,nn9,dd9,nm9,ss9,rfl,hE9⟩:=hr;first|(refine ⟨fun _=>HasLe.keep (n:=0) rfl hl5 hl2,?_⟩;conv=>whnf)|(conv=>whnf))|(refine CN.keep 1 rfl rfl (fun hl5=>?_);refine CN.f rfl (node2_ct _ _ (by first|decide|exact ⟨by omega,by omega⟩) (by first|decide|exact ⟨by omega,by omega⟩) (IsE.mono (by assumption) (by (iterate 30 try first|assumption|refine Heap.lt ?_ (by assumption));first|done|assumption)) (IsE.mono (by assumption) (by (iterate 30 try first|assumption|refine Heap.lt ?_ (by assumption));first|done|assumption)) hl5) (fun v h' hl2 hr=>?_);obtain ⟨op9,ar9,ng9,nn9,dd9,nm9,ss9,rfl,hE9⟩:=hr;first|(refine ⟨fun _=>HasLe.keep (n:=1) rfl hl5 hl2,?_⟩;conv=>whnf)|(conv=>whnf))|(refine CN.keep 2 rfl rfl (fun hl5=>?_);refine CN.f rfl (node2_ct _ _ (by first|decide|exact ⟨by omega,by omega⟩) (by first|decide|exact ⟨by omega,by omega⟩) (IsE.mono (by assumption) (by (iterate 30 try first|assumption|refine Heap.lt ?_ (by assumption));first|done|assumption)) (IsE.mono (by assumption) (by (iterate 30 try first|assumption|refine Heap.lt ?_ (by assumption));first|done|assumption)) hl5) (fun v h' hl2 hr=>?_);obtain ⟨op9,ar9,ng9,nn9,dd9,nm9,ss9,rfl,hE9⟩:=hr;first|(refine ⟨fun _=>HasLe.keep (n:=2) rfl hl5 hl2,?_⟩;conv=>whnf)|(conv=>whnf))|(refine CN.keep 3 rfl rfl (fun hl5=>?_);refine CN.f rfl (node2_ct _ _ (by first|decide|exact ⟨by omega,by omega⟩) (by first|decide|exact ⟨by omega,by omega⟩) (IsE.mono (by assumption) (by assumption)) (IsE.mono (by assumption) (by (iterate 30 try first|assumption|refine Heap.lt ?_ (by assumption));first|done|assumption)) hl5) (fun v h' hl2 hr=>?_);obtain ⟨op9,ar9,ng9,nn9,dd9,nm9,ss9,rfl,hE9⟩:=hr;first|(refine ⟨fun _=>HasLe.keep (n:=3) rfl hl5 hl2,?_⟩;conv=>whnf)|(conv=>whnf)))|(refine Both.mk ?_ ?_ <;> (conv=>whnf))
   all_goals first
    | exact ⟨rfl,_,_,_,_,_,_,_,_,_,_,_,_,_,_,_,_,rfl,rfl,(by (iterate 30 try first|assumption|refine Heap.lt ?_ (by assumption));first|done|assumption),.inl rfl,(IsE.mono (by assumption) (by (iterate 30 try first|assumption|refine Heap.lt ?_ (by assumption));first|done|assumption)),(IsE.mono (by assumption) (by first|assumption|exact Heap.lr _))⟩
    | exact ⟨rfl,_,_,_,_,_,_,_,_,_,_,_,_,_,_,_,_,rfl,rfl,(by (iterate 30 try first|assumption|refine Heap.lt ?_ (by assumption));first|done|assumption),.inr rfl,(IsE.mono (by assumption) (by (iterate 30 try first|assumption|refine Heap.lt ?_ (by assumption));first|done|assumption)),(IsE.mono (by assumption) (by first|assumption|exact Heap.lr _))⟩
  conv=>whnf
  repeat intro _
  rename_i h4 L4 hJ
  obtain ⟨b10,b11,op7,ar7,ng7,nn7,dd7,nm7,ss7,op8,ar8,ng8,nn8,dd8,nm8,ss8,e10,e11,hle4,rfl|rfl,hE7,hE8⟩:=hJ
  ·skip
   conv at e10=>lhs;whnf
   subst e10
   conv at e11=>lhs;whnf
   subst e11
   conv=>whnf
   repeat ((first|refine oI.z ?_|refine cI.z ?_);conv=>whnf)
   repeat' first|((first|(show LdN _ _ _ _ _;first|refine LdN.oA 0 rfl rfl ?_|refine LdN.oA 1 rfl rfl ?_|refine LdN.oA 6 rfl rfl ?_)|((first|refine oI.z ?_|refine cI.z ?_))|intro (_:Nat)|refine Ld.o 7 rfl rfl ?_|refine Sto.l 6 rfl rfl rfl ?_) <;> (conv=>whnf))|(show CN _ _ _ _ _ _;first|(refine CN.keep 0 rfl rfl (fun hl5=>?_);refine CN.f rfl (node2_ct _ _ (by first|decide|exact ⟨by omega,by omega⟩) (by first|decide|exact ⟨by omega,by omega⟩) (IsE.mono (by assumption) (by first|assumption|exact Heap.lr _)) (IsE.mono (by assumption) (by first|assumption|exact Heap.lr _)) hl5) (fun v h' hl2 hr=>?_);obtain ⟨op9,ar9,ng9,nn9,dd9,nm9,ss9,rfl,hE9⟩:=hr;first|(refine ⟨fun _=>HasLe.keep (n:=0) rfl hl5 hl2,?_⟩;conv=>whnf)|(conv=>whnf)))|(refine cnd_eq (fun _=>?_) (fun _=>?_) <;> first|(exfalso;omega)|(conv=>whnf))
   all_goals exact RN.a ⟨_,_,_,_,_,_,_,rfl,(by assumption)⟩
  ·skip
   conv at e10=>lhs;whnf
   subst e10
   conv at e11=>lhs;whnf
   subst e11
   conv=>whnf
   repeat ((first|refine oI.z ?_|refine cI.z ?_);conv=>whnf)
   repeat' first|((first|(show LdN _ _ _ _ _;first|refine LdN.oA 0 rfl rfl ?_|refine LdN.oA 1 rfl rfl ?_|refine LdN.oA 6 rfl rfl ?_)|((first|refine oI.z ?_|refine cI.z ?_))|intro (_:Nat)|refine Ld.o 7 rfl rfl ?_|refine Sto.l 6 rfl rfl rfl ?_) <;> (conv=>whnf))|(show CN _ _ _ _ _ _;first|(refine CN.keep 0 rfl rfl (fun hl5=>?_);refine CN.f rfl (node2_ct _ _ (by first|decide|exact ⟨by omega,by omega⟩) (by first|decide|exact ⟨by omega,by omega⟩) (IsE.mono (by assumption) (by first|assumption|exact Heap.lr _)) (IsE.mono (by assumption) (by first|assumption|exact Heap.lr _)) hl5) (fun v h' hl2 hr=>?_);obtain ⟨op9,ar9,ng9,nn9,dd9,nm9,ss9,rfl,hE9⟩:=hr;first|(refine ⟨fun _=>HasLe.keep (n:=0) rfl hl5 hl2,?_⟩;conv=>whnf)|(conv=>whnf)))|(refine cnd_eq (fun _=>?_) (fun _=>?_) <;> first|(exfalso;omega)|(conv=>whnf))
   all_goals exact RN.a ⟨_,_,_,_,_,_,_,rfl,(by assumption)⟩
 ·obtain ⟨k,k',rfl⟩:∃k k',ks=[k,k']:=by
   match ks,hn2 with
   | [k,k'],_=>exact ⟨k,k',rfl⟩
  rw [okGs,okGs] at hoks
  rw [smTs,smTs] at hs2
  obtain ⟨bl1,off1,op1,ar1,ng1,nn1,dd1,nm1,ss1,hE1,hld1,hln1,hix1⟩:=hk.kidP 0 _ rfl
  obtain ⟨bl2,off2,op2,ar2,ng2,nn2,dd2,nm2,ss2,hE2,hld2,hln2,hix2⟩:=hk.kidP 1 _ rfl
  have e1:=fun h vs w=>ih k (szT_kid (j:=0) rfl) h vs w hoks.1 hs2.1
  have e2:=fun h vs w=>ih k' (szT_kid (j:=1) rfl) h vs w hoks.2.1 hs2.2.1
  rw [if_neg (by decide),if_neg (by decide),derTs,derTs,derTs,nodeD]
  show Fn0 T _ _ _ fun v h'=>VE h' v (nodeT 8 0 [nodeT 6 0 [nodeT 7 0 [derT id nm k,k'],nodeT 7 0 [k,derT id nm k']],nodeT 9 2 [k']])
  obtain ⟨D1,hD1⟩:∃D,D=derT id nm k:=⟨_,rfl⟩
  obtain ⟨D2,hD2⟩:∃D,D=derT id nm k':=⟨_,rfl⟩
  simp only [← hD1] at e1 ⊢
  simp only [← hD2] at e2 ⊢
  clear hD1 hD2
  have hkl:s.l=2:=hk.len
  refine f0C ok D.expr_derived rfl ?_
  conv=>whnf
  repeat ((first|refine oI.z ?_|refine cI.z ?_);conv=>whnf)
  repeat' first|((first|(show SeqN _ _ _ _ _ _ _;refine SeqN.go ?_)|(show LdN _ _ _ _ _;first|refine LdN.oA 0 rfl rfl ?_|(refine LdN.hasN [.int .i64 op1,.int .i64 ar1,.bool ng1,nn1.val,dd1.val,.string (txt nm1),ss1.val] rfl (fun i v hv=>hld1 _ _ i v (by first|assumption|exact Heap.lr _) hv) ?_)|refine LdN.hasN [.int .i64 op2,.int .i64 ar2,.bool ng2,nn2.val,dd2.val,.string (txt nm2),ss2.val] rfl (fun i v hv=>hld2 _ _ i v (by assumption) hv) ?_)|(show CN _ _ _ _ _ _;first|(refine CN.f rfl (e1 _ _ (hE1.mono (by first|assumption|exact Heap.lr _))) (fun v h' hl2 hr=>?_);obtain ⟨op3,ar3,ng3,nn3,dd3,nm3,ss3,rfl,hE3⟩:=hr)|(refine CN.f rfl (e2 _ _ (hE2.mono (by assumption))) (fun v h' hl2 hr=>?_);obtain ⟨op4,ar4,ng4,nn4,dd4,nm4,ss4,rfl,hE4⟩:=hr))|(show Ld _ _ _ _;first|refine Ld.o 1 rfl rfl ?_|refine Ld.o 3 rfl rfl ?_|refine Ld.o 5 rfl rfl ?_)|refine Sto.l 0 rfl rfl rfl ?_) <;> (conv=>whnf))|(refine hix1 _ _ rfl ?_;conv=>whnf)|(refine hix2 _ _ rfl ?_;conv=>whnf)|(refine cI.stop 27 ?_)|((first|refine oI.z ?_|refine cI.z ?_);conv=>whnf)|(intro (_:Nat);conv=>whnf)|(refine cnd_eq (fun _=>?_) (fun _=>?_) <;> first|(exfalso;omega)|(conv=>whnf))
  rename_i bb2 bb4 y1 y2 y3 bb5 y31 y32 bb6 y4 y5 y6 y7 bb8 bb9 y8 y9
  refine ⟨SeqN.cut (fun ρ hx Lx=>∃(b10 b11:Nat) (op7 ar7:Int) (ng7:Bool) (nn7 dd7:Sl) (nm7:List Nat) (ss7:Sl) (op8 ar8:Int) (ng8:Bool) (nn8 dd8:Sl) (nm8:List Nat) (ss8:Sl),rd ρ 10=.pointer (some ⟨b10,0,none⟩)∧rd ρ 11=.pointer (some ⟨b11,0,none⟩)∧h'.le hx∧(Lx=(b10,.cells [.int .i64 op7,.int .i64 ar7,.bool ng7,nn7.val,dd7.val,.string (txt nm7),ss7.val].toArray Ty.api_Expr (0,0))::(b11,.cells [.int .i64 op8,.int .i64 ar8,.bool ng8,nn8.val,dd8.val,.string (txt nm8),ss8.val].toArray Ty.api_Expr (0,0))::[(bb9,.cells [.int .i64 op4,.int .i64 ar4,.bool ng4,nn4.val,dd4.val,.string (txt nm4),ss4.val].toArray Ty.api_Expr (0,0)),(bb8,.cells [.int .i64 op2,.int .i64 ar2,.bool ng2,nn2.val,dd2.val,.string (txt nm2),ss2.val].toArray Ty.api_Expr (0,0)),(bb6,.cells [.int .i64 op3,.int .i64 ar3,.bool ng3,nn3.val,dd3.val,.string (txt nm3),ss3.val].toArray Ty.api_Expr (0,0)),(bb5,.cells [.int .i64 op1,.int .i64 ar1,.bool ng1,nn1.val,dd1.val,.string (txt nm1),ss1.val].toArray Ty.api_Expr (0,0)),(bb4,.cells [.int .i64 0,.int .i64 0,.bool false,.slice none 0 0,.slice none 0 0,.string ByteArray.empty,.slice none 0 0].toArray Ty.api_Expr (0,0)),(bb2,.cells [.int .i64 8,.int .i64 arg,.bool neg,a.val,b.val,.string (txt name),s.val].toArray Ty.api_Expr (0,0))]∨Lx=(b11,.cells [.int .i64 op8,.int .i64 ar8,.bool ng8,nn8.val,dd8.val,.string (txt nm8),ss8.val].toArray Ty.api_Expr (0,0))::(b10,.cells [.int .i64 op7,.int .i64 ar7,.bool ng7,nn7.val,dd7.val,.string (txt nm7),ss7.val].toArray Ty.api_Expr (0,0))::[(bb9,.cells [.int .i64 op4,.int .i64 ar4,.bool ng4,nn4.val,dd4.val,.string (txt nm4),ss4.val].toArray Ty.api_Expr (0,0)),(bb8,.cells [.int .i64 op2,.int .i64 ar2,.bool ng2,nn2.val,dd2.val,.string (txt nm2),ss2.val].toArray Ty.api_Expr (0,0)),(bb6,.cells [.int .i64 op3,.int .i64 ar3,.bool ng3,nn3.val,dd3.val,.string (txt nm3),ss3.val].toArray Ty.api_Expr (0,0)),(bb5,.cells [.int .i64 op1,.int .i64 ar1,.bool ng1,nn1.val,dd1.val,.string (txt nm1),ss1.val].toArray Ty.api_Expr (0,0)),(bb4,.cells [.int .i64 0,.int .i64 0,.bool false,.slice none 0 0,.slice none 0 0,.string ByteArray.empty,.slice none 0 0].toArray Ty.api_Expr (0,0)),(bb2,.cells [.int .i64 8,.int .i64 arg,.bool neg,a.val,b.val,.string (txt name),s.val].toArray Ty.api_Expr (0,0))])∧IsE hx [.int .i64 op7,.int .i64 ar7,.bool ng7,nn7.val,dd7.val,.string (txt nm7),ss7.val] (nodeT 7 0 [D1,k'])∧IsE hx [.int .i64 op8,.int .i64 ar8,.bool ng8,nn8.val,dd8.val,.string (txt nm8),ss8.val] (nodeT 7 0 [k,D2])) ?_ ?_⟩
  ·conv=>whnf
   repeat ((first|refine oI.z ?_|refine cI.z ?_);conv=>whnf)
   repeat' first|((first|(show LdN _ _ _ _ _;first|refine LdN.oA 0 rfl rfl ?_|refine LdN.oA 1 rfl rfl ?_|refine LdN.oA 2 rfl rfl ?_|refine LdN.oA 3 rfl rfl ?_)|(show Sto _ _ _ _;first|refine Sto.l 0 rfl rfl rfl ?_|refine Sto.l 1 rfl rfl rfl ?_)|refine DrN.run (by decide +kernel) ?_|refine ⟨fun _=>HasLe.cons _,?_⟩|refine ⟨fun hst=>(by cases (show true=false from hst)),?_⟩|intro (_:Nat)) <;> (conv=>whnf))|(show CN _ _ _ _ _ _;first|(refine CN.keep 0 rfl rfl (fun hl5=>?_);refine CN.f rfl (node2_ct _ _ (by first|decide|exact ⟨by omega,by omega⟩) (by first|decide|exact ⟨by omega,by omega⟩) (IsE.mono (by assumption) (by (iterate 30 try first|assumption|refine Heap.lt ?_ (by assumption));first|done|assumption)) (IsE.mono (by assumption) (by (iterate 30 try first|assumption|refine Heap.lt ?_ (by assumption));first|done|assumption)) hl5) (fun v h' hl2 hr=>?_);obtain ⟨op9,ar9,ng9,nn9,dd9,nm9,ss9,rfl,hE9⟩:=hr;first|(refine ⟨fun _=>HasLe.keep (n:=0) rfl hl5 hl2,?_⟩;conv=>whnf)|(conv=>whnf))|(refine CN.keep 1 rfl rfl (fun hl5=>?_);refine CN.f rfl (node2_ct _ _ (by first|decide|exact ⟨by omega,by omega⟩) (by first|decide|exact ⟨by omega,by omega⟩) (IsE.mono (by assumption) (by (iterate 30 try first|assumption|refine Heap.lt ?_ (by assumption));first|done|assumption)) (IsE.mono (by assumption) (by (iterate 30 try first|assumption|refine Heap.lt ?_ (by assumption));first|done|assumption)) hl5) (fun v h' hl2 hr=>?_);obtain ⟨op9,ar9,ng9,nn9,dd9,nm9,ss9,rfl,hE9⟩:=hr;first|(refine ⟨fun _=>HasLe.keep (n:=1) rfl hl5 hl2,?_⟩;conv=>whnf)|(conv=>whnf))|(refine CN.keep 2 rfl rfl (fun hl5=>?_);refine CN.f rfl (node2_ct _ _ (by first|decide|exact ⟨by omega,by omega⟩) (by first|decide|exact ⟨by omega,by omega⟩) (IsE.mono (by assumption) (by (iterate 30 try first|assumption|refine Heap.lt ?_ (by assumption));first|done|assumption)) (IsE.mono (by assumption) (by (iterate 30 try first|assumption|refine Heap.lt ?_ (by assumption));first|done|assumption)) hl5) (fun v h' hl2 hr=>?_);obtain ⟨op9,ar9,ng9,nn9,dd9,nm9,ss9,rfl,hE9⟩:=hr;first|(refine ⟨fun _=>HasLe.keep (n:=2) rfl hl5 hl2,?_⟩;conv=>whnf)|(conv=>whnf))|(refine CN.keep 3 rfl rfl (fun hl5=>?_);refine CN.f rfl (node2_ct _ _ (by first|decide|exact ⟨by omega,by omega⟩) (by first|decide|exact ⟨by omega,by omega⟩) (IsE.mono (by assumption) (by assumption)) (IsE.mono (by assumption) (by (iterate 30 try first|assumption|refine Heap.lt ?_ (by assumption));first|done|assumption)) hl5) (fun v h' hl2 hr=>?_);obtain ⟨op9,ar9,ng9,nn9,dd9,nm9,ss9,rfl,hE9⟩:=hr;first|(refine ⟨fun _=>HasLe.keep (n:=3) rfl hl5 hl2,?_⟩;conv=>whnf)|(conv=>whnf)))|(refine Both.mk ?_ ?_ <;> (conv=>whnf))
   all_goals first
    | exact ⟨rfl,_,_,_,_,_,_,_,_,_,_,_,_,_,_,_,_,rfl,rfl,(by (iterate 30 try first|assumption|refine Heap.lt ?_ (by assumption));first|done|assumption),.inl rfl,(IsE.mono (by assumption) (by (iterate 30 try first|assumption|refine Heap.lt ?_ (by assumption));first|done|assumption)),(IsE.mono (by assumption) (by first|assumption|exact Heap.lr _))⟩
    | exact ⟨rfl,_,_,_,_,_,_,_,_,_,_,_,_,_,_,_,_,rfl,rfl,(by (iterate 30 try first|assumption|refine Heap.lt ?_ (by assumption));first|done|assumption),.inr rfl,(IsE.mono (by assumption) (by (iterate 30 try first|assumption|refine Heap.lt ?_ (by assumption));first|done|assumption)),(IsE.mono (by assumption) (by first|assumption|exact Heap.lr _))⟩
  conv=>whnf
  repeat intro _
  rename_i h4 L4 hJ
  obtain ⟨b10,b11,op7,ar7,ng7,nn7,dd7,nm7,ss7,op8,ar8,ng8,nn8,dd8,nm8,ss8,e10,e11,hle4,rfl|rfl,hE7,hE8⟩:=hJ
  ·skip
   conv at e10=>lhs;whnf
   subst e10
   conv at e11=>lhs;whnf
   subst e11
   conv=>whnf
   repeat ((first|refine oI.z ?_|refine cI.z ?_);conv=>whnf)
   repeat' first|((first|(show LdN _ _ _ _ _;first|refine LdN.oA 0 rfl rfl ?_|refine LdN.oA 1 rfl rfl ?_|refine LdN.oA 3 rfl rfl ?_|refine LdN.oA 6 rfl rfl ?_)|((first|refine oI.z ?_|refine cI.z ?_))|refine ⟨fun _=>HasLe.cons _,?_⟩|refine ⟨fun hst=>(by cases (show true=false from hst)),?_⟩|intro (_:Nat)|refine Ld.o 7 rfl rfl ?_|refine Sto.l 6 rfl rfl rfl ?_|refine DrN.run (by decide +kernel) ?_) <;> (conv=>whnf))|(show CN _ _ _ _ _ _;first|(refine CN.keep 0 rfl rfl (fun hl5=>?_);refine CN.f rfl (node1_ct _ _ (by first|decide|exact ⟨by omega,by omega⟩) (by first|decide|exact ⟨by omega,by omega⟩) (IsE.mono (by assumption) (by (iterate 30 try first|assumption|refine Heap.lt ?_ (by assumption));first|done|assumption)) hl5) (fun v h' hl2 hr=>?_);obtain ⟨op9,ar9,ng9,nn9,dd9,nm9,ss9,rfl,hE9⟩:=hr;first|(refine ⟨fun _=>HasLe.keep (n:=0) rfl hl5 hl2,?_⟩;conv=>whnf)|(conv=>whnf))|(refine CN.keep 0 rfl rfl (fun hl5=>?_);refine CN.f rfl (node2_ct _ _ (by first|decide|exact ⟨by omega,by omega⟩) (by first|decide|exact ⟨by omega,by omega⟩) (IsE.mono (by assumption) (by (iterate 30 try first|assumption|exact Heap.lr _|refine Heap.lt ?_ (by assumption));first|done|assumption)) (IsE.mono (by assumption) (by first|assumption|exact Heap.lr _)) hl5) (fun v h' hl2 hr=>?_);obtain ⟨op9,ar9,ng9,nn9,dd9,nm9,ss9,rfl,hE9⟩:=hr;first|(refine ⟨fun _=>HasLe.keep (n:=0) rfl hl5 hl2,?_⟩;conv=>whnf)|(conv=>whnf))|(refine CN.keep 1 rfl rfl (fun hl5=>?_);refine CN.f rfl (node2_ct _ _ (by first|decide|exact ⟨by omega,by omega⟩) (by first|decide|exact ⟨by omega,by omega⟩) (IsE.mono (by assumption) (by first|assumption|exact Heap.lr _)) (IsE.mono (by assumption) (by first|assumption|exact Heap.lr _)) hl5) (fun v h' hl2 hr=>?_);obtain ⟨op9,ar9,ng9,nn9,dd9,nm9,ss9,rfl,hE9⟩:=hr;first|(refine ⟨fun _=>HasLe.keep (n:=1) rfl hl5 hl2,?_⟩;conv=>whnf)|(conv=>whnf)))|(refine cnd_eq (fun _=>?_) (fun _=>?_) <;> first|(exfalso;omega)|(conv=>whnf))|(refine Both.mk ?_ ?_ <;> (conv=>whnf))
   all_goals exact RN.a ⟨_,_,_,_,_,_,_,rfl,(by assumption)⟩
  ·skip
   conv at e10=>lhs;whnf
   subst e10
   conv at e11=>lhs;whnf
   subst e11
   conv=>whnf
   repeat ((first|refine oI.z ?_|refine cI.z ?_);conv=>whnf)
   repeat' first|((first|(show LdN _ _ _ _ _;first|refine LdN.oA 0 rfl rfl ?_|refine LdN.oA 1 rfl rfl ?_|refine LdN.oA 3 rfl rfl ?_|refine LdN.oA 6 rfl rfl ?_)|((first|refine oI.z ?_|refine cI.z ?_))|refine ⟨fun _=>HasLe.cons _,?_⟩|refine ⟨fun hst=>(by cases (show true=false from hst)),?_⟩|intro (_:Nat)|refine Ld.o 7 rfl rfl ?_|refine Sto.l 6 rfl rfl rfl ?_|refine DrN.run (by decide +kernel) ?_) <;> (conv=>whnf))|(show CN _ _ _ _ _ _;first|(refine CN.keep 0 rfl rfl (fun hl5=>?_);refine CN.f rfl (node1_ct _ _ (by first|decide|exact ⟨by omega,by omega⟩) (by first|decide|exact ⟨by omega,by omega⟩) (IsE.mono (by assumption) (by (iterate 30 try first|assumption|refine Heap.lt ?_ (by assumption));first|done|assumption)) hl5) (fun v h' hl2 hr=>?_);obtain ⟨op9,ar9,ng9,nn9,dd9,nm9,ss9,rfl,hE9⟩:=hr;first|(refine ⟨fun _=>HasLe.keep (n:=0) rfl hl5 hl2,?_⟩;conv=>whnf)|(conv=>whnf))|(refine CN.keep 0 rfl rfl (fun hl5=>?_);refine CN.f rfl (node2_ct _ _ (by first|decide|exact ⟨by omega,by omega⟩) (by first|decide|exact ⟨by omega,by omega⟩) (IsE.mono (by assumption) (by (iterate 30 try first|assumption|exact Heap.lr _|refine Heap.lt ?_ (by assumption));first|done|assumption)) (IsE.mono (by assumption) (by first|assumption|exact Heap.lr _)) hl5) (fun v h' hl2 hr=>?_);obtain ⟨op9,ar9,ng9,nn9,dd9,nm9,ss9,rfl,hE9⟩:=hr;first|(refine ⟨fun _=>HasLe.keep (n:=0) rfl hl5 hl2,?_⟩;conv=>whnf)|(conv=>whnf))|(refine CN.keep 1 rfl rfl (fun hl5=>?_);refine CN.f rfl (node2_ct _ _ (by first|decide|exact ⟨by omega,by omega⟩) (by first|decide|exact ⟨by omega,by omega⟩) (IsE.mono (by assumption) (by first|assumption|exact Heap.lr _)) (IsE.mono (by assumption) (by first|assumption|exact Heap.lr _)) hl5) (fun v h' hl2 hr=>?_);obtain ⟨op9,ar9,ng9,nn9,dd9,nm9,ss9,rfl,hE9⟩:=hr;first|(refine ⟨fun _=>HasLe.keep (n:=1) rfl hl5 hl2,?_⟩;conv=>whnf)|(conv=>whnf)))|(refine cnd_eq (fun _=>?_) (fun _=>?_) <;> first|(exfalso;omega)|(conv=>whnf))|(refine Both.mk ?_ ?_ <;> (conv=>whnf))
   all_goals exact RN.a ⟨_,_,_,_,_,_,_,rfl,(by assumption)⟩
theorem Derive_ct (t:Tr) (nm:List Nat) (hnm:∀y∈nm,y<256) (h:Heap) (vs:List Value) (tb:Tb h) (w:IsE h vs t):Fn0 T F.expr_Derive [.agg vs.toArray,.string (txt nm)] h fun v h'=>ResT h' v (derX nm t):=by
 have c1:=fun h tb w=>Valid_ct t h vs tb w
 have c2:=fun h=>XIsName_ct h nm hnm
 have c3:=fun h w (x:ValT t)=>smooth_ct t h vs w x.1
 have c4:=fun h w (x:ValT t) (y:resT t=none)=>derived_ct nm hnm t h vs w (okG_of x.1) (smT_res y)
 have c5:=fun h us tb w (x:ValT t) (y:resT t=none)=>simplified_ct (derT id nm t) h us tb w (derI_G (okG_of x.1) (smT_res y))
 have c6:=fun h us tb w=>checked_ct (simT (derT id nm t)) h us tb w
 obtain ⟨⟨op,arg,neg,l,m,name,ks⟩,ht⟩:∃x,x=t:=⟨_,rfl⟩
 obtain ⟨a,b,s,hvs,-⟩:=(ht.symm▸w:IsE h vs (.mk op arg neg l m name ks)).isK
 subst hvs
 unfold derX
 by_cases hvt:ValT t
 ·rw [if_neg (not_not_intro hvt)]
  rw [show dec (ValT t)=true from dec_true hvt] at c1
  by_cases hnt:IsNm nm
  ·rw [if_neg (not_not_intro hnt)]
   rw [show dec (IsNm nm)=true from dec_true hnt] at c2
   by_cases hrt:resT t=none
   ·rw [if_neg (not_not_intro hrt)]
    rw [show dec (resT t=none)=true from dec_true hrt] at c3
    refine f0C ok D.expr_Derive rfl ?_
    conv=>whnf
    repeat ((first|refine oI.z ?_|refine cI.z ?_);conv=>whnf)
    repeat' first|((first|(show LdN _ _ _ _ _;first|refine LdN.oA 0 rfl rfl ?_|refine LdN.oA 1 rfl rfl ?_)|(show CN _ _ _ _ _ _;first|(refine CN.f rfl (c1 _ (by assumption) (by assumption)) (fun v h' hl2 hr=>?_);subst hr)|(refine CN.f rfl (c2 _) (fun v h' hl2 hr=>?_);subst hr)|(refine CN.quiet rfl (c3 _ (by (iterate 30 try first|assumption|refine IsE.mono ?_ (by assumption));first|done|assumption) hvt) ?_)|(refine CN.f rfl (c4 _ (by (iterate 30 try first|assumption|refine IsE.mono ?_ (by assumption));first|done|assumption) hvt hrt) (fun v h' hl2 hr=>?_);obtain ⟨op6,ar6,ng6,nn6,dd6,nm6,ss6,rfl,hE6⟩:=hr)|(refine CN.f rfl (c5 _ _ (by (iterate 30 try first|assumption|refine Tb.mono ?_ (by assumption));first|done|assumption) hE6 hvt hrt) (fun v h' hl2 hr=>?_);obtain ⟨op7,ar7,ng7,nn7,dd7,nm7,ss7,rfl,hE7⟩:=hr)|(refine CN.f rfl (c6 _ _ (by (iterate 30 try first|assumption|refine Tb.mono ?_ (by assumption));first|done|assumption) hE7) (fun v h' hl2 hr=>?_);obtain ⟨_,rfl,op8,ar8,ng8,nn8,dd8,nm8,ss8,rfl,hE8⟩:=hr))|((first|refine oI.z ?_|refine cI.z ?_))|intro (_:Nat)|refine Sto.l 0 rfl rfl rfl ?_) <;> (conv=>whnf))
    all_goals exact RN.a ⟨_,rfl,op8,ar8,ng8,nn8,dd8,nm8,ss8,rfl,(by assumption)⟩
   ·rw [if_pos hrt]
    rw [show dec (resT t=none)=false from dec_false hrt] at c3
    refine f0C ok D.expr_Derive rfl ?_
    conv=>whnf
    repeat ((first|refine oI.z ?_|refine cI.z ?_);conv=>whnf)
    repeat' first|((first|(show LdN _ _ _ _ _;first|refine LdN.oA 0 rfl rfl ?_|refine LdN.oA 1 rfl rfl ?_)|(show CN _ _ _ _ _ _;first|(refine CN.f rfl (c1 _ (by assumption) (by assumption)) (fun v h' hl2 hr=>?_);subst hr)|(refine CN.f rfl (c2 _) (fun v h' hl2 hr=>?_);subst hr)|(refine CN.quiet rfl (c3 _ (by (iterate 30 try first|assumption|refine IsE.mono ?_ (by assumption));first|done|assumption) hvt) ?_))|((first|refine oI.z ?_|refine cI.z ?_))|intro (_:Nat)|refine Sto.l 0 rfl rfl rfl ?_) <;> (conv=>whnf))
    all_goals exact RN.a ⟨_,rfl,VE.zero _⟩
  ·rw [if_pos hnt]
   rw [show dec (IsNm nm)=false from dec_false hnt] at c2
   refine f0C ok D.expr_Derive rfl ?_
   conv=>whnf
   repeat ((first|refine oI.z ?_|refine cI.z ?_);conv=>whnf)
   repeat' first|((first|(show LdN _ _ _ _ _;first|refine LdN.oA 0 rfl rfl ?_|refine LdN.oA 1 rfl rfl ?_)|(show CN _ _ _ _ _ _;first|(refine CN.f rfl (c1 _ (by assumption) (by assumption)) (fun v h' hl2 hr=>?_);subst hr)|(refine CN.f rfl (c2 _) (fun v h' hl2 hr=>?_);subst hr))|((first|refine oI.z ?_|refine cI.z ?_))|intro (_:Nat)|refine Sto.l 0 rfl rfl rfl ?_) <;> (conv=>whnf))
   all_goals exact RN.a ⟨_,rfl,VE.zero _⟩
 ·rw [if_pos hvt]
  rw [show dec (ValT t)=false from dec_false hvt] at c1
  refine f0C ok D.expr_Derive rfl ?_
  conv=>whnf
  repeat ((first|refine oI.z ?_|refine cI.z ?_);conv=>whnf)
  repeat' first|((first|(show LdN _ _ _ _ _;first|refine LdN.oA 0 rfl rfl ?_|refine LdN.oA 1 rfl rfl ?_)|(show CN _ _ _ _ _ _;(refine CN.f rfl (c1 _ (by assumption) (by assumption)) (fun v h' hl2 hr=>?_);subst hr))|((first|refine oI.z ?_|refine cI.z ?_))|intro (_:Nat)|refine Sto.l 0 rfl rfl rfl ?_) <;> (conv=>whnf))
  all_goals exact RN.a ⟨_,rfl,VE.zero _⟩
end Go.Proofs.YtbgicephinomlaaGreatDoor
/- Derivatives: the document's side. -/
namespace Go.Proofs.YtbgicephinomlaaGreatDoor
open Go Go.Vc Go.Dig
attribute [local irreducible] Vc.Fn
end Go.Proofs.YtbgicephinomlaaGreatDoor
/- The laws of Derive and DeriveFree. -/
namespace Go.Proofs.YtbgicephinomlaaGreatDoor
open Go Go.Vc Go.Dig
attribute [local irreducible] Vc.Fn
theorem derX_val {nm:List Nat} {t:Tr} (h:(derX nm t).2=0):ValT t:=by
 unfold derX at h
 split at h
 ·cases h
 ·rename_i x;exact Decidable.not_not.1 x
theorem signQ_nought:signQ 0=0:=signQ_zero.2 (nu_eq_zero.2 rfl)
theorem DeriveFree_law (h:Heap) (tb:Tb h) (pw:Pw h) (t:Tr) (vs:List Value) (w:IsE h vs t) (sa:ByteArray) (hsa:sa.size≤maxLen):Fn0 T F.law04_ExprDeriveFree [.agg vs.toArray,.string sa] h fun v h'=>v=.bool true:=by
 obtain ⟨na,hla⟩:∃l,l=rl sa:=⟨_,rfl⟩
 have hna:∀y∈na,y<256:=by rw [hla];exact rl_lt sa
 obtain rfl:sa=txt na:=by rw [hla,txt_rl]
 clear hla hsa
 have c1:=fun h tb w=>Derive_ct t na hna h vs tb w
 have hz:=fun x y=>derX_free (nm:=na) (t:=t) x y
 have hvt:=fun x=>derX_val (nm:=na) (t:=t) x
 obtain ⟨⟨⟨op1,arg1,neg1,l1,m1,name1,ks1⟩,X2⟩,hX⟩:∃X,X=derX na t:=⟨_,rfl⟩
 simp only [← hX] at c1 hz hvt
 replace hvt:X2=0→ValT t:=hvt
 replace hz:X2=0→hasT na t=false→op1=1∧ratOf neg1 l1 m1=0:=hz
 replace c1:∀h,Tb h→IsE h vs t→Fn0 T F.expr_Derive [.agg vs.toArray,.string (txt na)] h fun v h'=>∃a,v=.tuple #[a,.int .i64 X2]∧VE h' a (.mk op1 arg1 neg1 l1 m1 name1 ks1):=c1
 have c9:=fun h tb pw=>sane_ct h tb pw
 clear hX
 by_cases hx:X2=0
 ·subst hx
  have c2:=fun h w=>Has_ct na hna t 1 (hvt rfl).1 h vs w
  have hz:=hz rfl
  obtain ⟨⟨op,arg,neg,l,m,name,ks⟩,ht⟩:∃x,x=t:=⟨_,rfl⟩
  obtain ⟨a,b,s,hvs,-⟩:=(ht.symm▸w:IsE h vs (.mk op arg neg l m name ks)).isK
  subst hvs
  clear hvt
  cases hh:hasT na t with
  | true=>
   rw [hh] at c2
   clear hz
   refine f0C ok D.law04_ExprDeriveFree rfl ?_
   conv=>whnf
   repeat ((first|refine oI.z ?_|refine cI.z ?_);conv=>whnf)
   repeat' first|((first|(show LdN _ _ _ _ _;first|refine LdN.oA 0 rfl rfl ?_|refine LdN.oA 1 rfl rfl ?_)|(show CN _ _ _ _ _ _;first|(refine CN.f rfl (c1 _ (by assumption) (by assumption)) (fun v h' hl2 hr=>?_);obtain ⟨_,rfl,op6,ar6,ng6,nn6,dd6,nm6,ss6,rfl,hE6⟩:=hr)|(refine CN.f rfl (c2 _ (by (iterate 30 try first|assumption|refine IsE.mono ?_ (by assumption));first|done|assumption)) (fun v h' hl2 hr=>?_);subst hr)|(refine CN.f rfl (c9 _ (by (iterate 30 try first|assumption|refine Tb.mono ?_ (by assumption));first|done|assumption) (by iterate 12 (try first|assumption|refine Pw.mono ?_ (by assumption)))) (fun v h' hl2 hr=>?_);subst hr))|((first|refine oI.z ?_|refine cI.z ?_))|intro (_:Nat)|refine Sto.l 0 rfl rfl rfl ?_) <;> (conv=>whnf))|(show cnd _ _ _;first|(refine cnd_eq (fun _=>?_) (fun _=>?_) <;> first|(exfalso;omega)|(conv=>whnf))|(refine cnd_not ?_))
   all_goals first
    | exact RN.a rfl
    | exact RN.a (congrArg Value.bool (Vc.eq_true' rfl))
  | false=>
   rw [hh] at c2
   obtain ⟨rfl,z⟩:=hz hh
   have q1:=fun h (a b:Sl) hv=>QOf_ct h neg1 a b l1 m1 hv
   simp only [z] at q1
   have q2:=fun h (a b:Sl) w=>Sgn_q h a b 0 w ((sr_of fits_zero).mono (by decide))
   simp only [signQ_nought] at q2
   clear z
   refine f0C ok D.law04_ExprDeriveFree rfl ?_
   conv=>whnf
   repeat ((first|refine oI.z ?_|refine cI.z ?_);conv=>whnf)
   repeat' first|((first|(show LdN _ _ _ _ _;first|refine LdN.oA 0 rfl rfl ?_|refine LdN.oA 1 rfl rfl ?_)|(show CN _ _ _ _ _ _;first|(refine CN.f rfl (c1 _ (by assumption) (by assumption)) (fun v h' hl2 hr=>?_);obtain ⟨_,rfl,op6,ar6,ng6,nn6,dd6,nm6,ss6,rfl,hE6⟩:=hr;obtain ⟨rfl,rfl,rfl,hv6,hnm6,hb6,hk6⟩:=IsE.inv hE6)|(refine CN.f rfl (c2 _ (by (iterate 30 try first|assumption|refine IsE.mono ?_ (by assumption));first|done|assumption)) (fun v h' hl2 hr=>?_);subst hr)|(refine CN.f rfl (c9 _ (by (iterate 30 try first|assumption|refine Tb.mono ?_ (by assumption));first|done|assumption) (by iterate 12 (try first|assumption|refine Pw.mono ?_ (by assumption)))) (fun v h' hl2 hr=>?_);subst hr)|(refine CN.f rfl (q1 _ _ _ (hv6.mono (by (iterate 30 try first|assumption|refine Heap.lt ?_ (by assumption));first|done|assumption))) (fun v h' hl2 hr=>?_);obtain ⟨cc7,dd7,rfl,hq7⟩:=hr)|refine CN.quiet rfl (q2 _ _ _ hq7) ?_)|((first|refine oI.z ?_|refine cI.z ?_))|intro (_:Nat)|refine Ld.o 0 rfl rfl ?_|refine Sto.l 0 rfl rfl rfl ?_) <;> (conv=>whnf))|(show cnd _ _ _;first|(refine cnd_eq (fun _=>?_) (fun _=>?_) <;> first|(exfalso;omega)|(conv=>whnf))|(refine cnd_not ?_))
   all_goals first
    | exact RN.a rfl
    | exact RN.a (congrArg Value.bool (Vc.eq_true' rfl))
 ·obtain ⟨⟨op,arg,neg,l,m,name,ks⟩,ht⟩:∃x,x=t:=⟨_,rfl⟩
  obtain ⟨a,b,s,hvs,-⟩:=(ht.symm▸w:IsE h vs (.mk op arg neg l m name ks)).isK
  subst hvs
  clear hz hvt
  refine f0C ok D.law04_ExprDeriveFree rfl ?_
  conv=>whnf
  repeat ((first|refine oI.z ?_|refine cI.z ?_);conv=>whnf)
  repeat' first|((first|(show LdN _ _ _ _ _;refine LdN.oA 0 rfl rfl ?_)|(show CN _ _ _ _ _ _;first|(refine CN.f rfl (c1 _ (by assumption) (by assumption)) (fun v h' hl2 hr=>?_);obtain ⟨_,rfl,op6,ar6,ng6,nn6,dd6,nm6,ss6,rfl,hE6⟩:=hr)|(refine CN.f rfl (c9 _ (by (iterate 30 try first|assumption|refine Tb.mono ?_ (by assumption));first|done|assumption) (by iterate 12 (try first|assumption|refine Pw.mono ?_ (by assumption)))) (fun v h' hl2 hr=>?_);subst hr))|((first|refine oI.z ?_|refine cI.z ?_))|intro (_:Nat)|refine Sto.l 0 rfl rfl rfl ?_) <;> (conv=>whnf))|(show cnd _ _ _;first|(refine cnd_eq (fun _=>?_) (fun _=>?_) <;> first|(exfalso;omega)|(conv=>whnf))|(refine cnd_not ?_))
  all_goals exact RN.a rfl
end Go.Proofs.YtbgicephinomlaaGreatDoor