/- A walk that stops ahead of a region. -/
import Derived.Test.YtbgicephinomlaaGreatDoorVcMeet
import Derived.Test.YtbgicephinomlaaGreatDoorR6
import Derived.Test.YtbgicephinomlaaGreatDoorE85
import Derived.Test.YtbgicephinomlaaGreatDoorE76
import Derived.Test.YtbgicephinomlaaGreatDoorE55
import Derived.Test.YtbgicephinomlaaGreatDoorE42
import Derived.Test.YtbgicephinomlaaGreatDoorE82
import Derived.Test.YtbgicephinomlaaGreatDoorE67
import Derived.Test.YtbgicephinomlaaGreatDoorE45
set_option linter.unusedVariables false
set_option linter.unusedSimpArgs false
set_option maxHeartbeats 4000000
set_option maxRecDepth 20000
namespace Go.Vc
open Go
structure StopN (p:Prop):Prop where x:p
theorem cI.stop {T:Tab} {Q:Post} {ρ:Env} {h:Heap} {L:Own} (id:Nat) {ops:Array Oper} {dr:Bool} {b:Code} (x:StopN (SeqN (cI T (.region id ops dr)) (cI T b) (wr (.region id ops dr)) Q ρ h L)):cI T (.seq (.region id ops dr) b) Q ρ h L:=cI.seqN x.x
end Go.Vc
/- Derivatives: the program's side. -/
namespace Go.Proofs.YtbgicephinomlaaGreatDoor
open Go Go.Vc Go.Dig
theorem node1_ct (op arg:Int) (ho:-9223372036854775808≤op∧op≤9223372036854775807) (ha:-9223372036854775808≤arg∧arg≤9223372036854775807) {h:Heap} {b:Nat} {T0:TypeId} {fz:Nat × Nat} {a1 a2 a3 a4 a5 a6 a7:Value} {t:Tr} (i:IsE h [a1,a2,a3,a4,a5,a6,a7] t) (hle:h.le (h.put b (.cells #[a1,a2,a3,a4,a5,a6,a7] T0 fz))):
  Fn0 T F.expr_node [.int .i64 op,.int .i64 arg,.slice (some ⟨b,0,none⟩) 1 1] (h.put b (.cells #[a1,a2,a3,a4,a5,a6,a7] T0 fz)) fun v h'=>VE h' v (nodeT op arg [t]):=
 enode_ct op arg ho ha [t] ⟨some ⟨b,0,none⟩,1,1⟩ _ (IsK.one i rfl hle)
theorem node2_ct (op arg:Int) (ho:-9223372036854775808≤op∧op≤9223372036854775807) (ha:-9223372036854775808≤arg∧arg≤9223372036854775807) {h:Heap} {b:Nat} {T0:TypeId} {fz:Nat × Nat} {a1 a2 a3 a4 a5 a6 a7 c1 c2 c3 c4 c5 c6 c7:Value} {t u:Tr} (i:IsE h [a1,a2,a3,a4,a5,a6,a7] t) (j:IsE h [c1,c2,c3,c4,c5,c6,c7] u)
  (hle:h.le (h.put b (.cells #[a1,a2,a3,a4,a5,a6,a7,c1,c2,c3,c4,c5,c6,c7] T0 fz))):Fn0 T F.expr_node [.int .i64 op,.int .i64 arg,.slice (some ⟨b,0,none⟩) 2 2] (h.put b (.cells #[a1,a2,a3,a4,a5,a6,a7,c1,c2,c3,c4,c5,c6,c7] T0 fz)) fun v h'=>VE h' v (nodeT op arg [t,u]):=
 enode_ct op arg ho ha [t,u] ⟨some ⟨b,0,none⟩,2,2⟩ _ (IsK.two i j rfl rfl hle)
attribute [local irreducible] Vc.Fn
theorem derivedPower_ct (k u:Tr) (arg:Int) (ha1:-32≤arg) (ha2:arg≤32) (neg:Bool) (l m name:List Nat) (h:Heap) (vs us2:List Value) (w:IsE h vs (.mk 9 arg neg l m name [k])) (w2:IsE h us2 u):Fn0 T F.expr_derivedPower [.agg vs.toArray,.agg us2.toArray] h fun v h'=>VE h' v (powD (.mk 9 arg neg l m name [k]) arg k u):=by
 obtain ⟨a,b,s,rfl,ho,ha,hv,hb,hk⟩:=w.isK
 obtain ⟨⟨tp2,ta2,tg2,tl2,tm2,tn2,tk2⟩,hu2⟩:∃x,x=u:=⟨_,rfl⟩
 obtain ⟨a2,b2,s2,hus2,-⟩:=(hu2.symm▸w2:IsE h us2 (.mk tp2 ta2 tg2 tl2 tm2 tn2 tk2)).isK
 subst hus2
 clear hu2
 have hkl:s.l=1:=hk.len
 obtain ⟨bl1,off1,op1,ar1,ng1,nn1,dd1,nm1,ss1,hE1,hld1,hln1,hix1⟩:=hk.kidP 0 _ rfl
 have w0:=fun h=>whole_ct h 0 (by decide) (by decide)
 simp only [ratI0] at w0
 have wN:=fun h=>whole_ct h arg (by omega) (by omega)
 obtain ⟨Q,hQ⟩:∃Q,Q=(arg:Rat):=⟨_,rfl⟩
 simp only [← hQ] at wN
 unfold powD
 rw [← hQ]
 clear hQ
 by_cases h0:arg=0
 ·rw [if_pos h0]
  refine f0C ok D.expr_derivedPower rfl ?_
  conv=>whnf
  repeat ((first|refine oI.z ?_|refine cI.z ?_);conv=>whnf)
  repeat' first|((first|(show LdN _ _ _ _ _;refine LdN.oA 0 rfl rfl ?_)|(show CN _ _ _ _ _ _;(refine CN.f rfl (w0 _) (fun v h' hl2 hr=>?_);obtain ⟨op8,ar8,ng8,nn8,dd8,nm8,ss8,rfl,hE8⟩:=hr))|((first|refine oI.z ?_|refine cI.z ?_))|intro (_:Nat)|refine Ld.o 2 rfl rfl ?_|refine Sto.l 0 rfl rfl rfl ?_) <;> (conv=>whnf))|(refine cnd_eq (fun _=>?_) (fun _=>?_) <;> first|(exfalso;omega)|(conv=>whnf))
  all_goals exact RN.a ⟨_,_,_,_,_,_,_,rfl,(by assumption)⟩
 rw [if_neg h0]
 refine f0C ok D.expr_derivedPower rfl ?_
 conv=>whnf
 repeat ((first|refine oI.z ?_|refine cI.z ?_);conv=>whnf)
 repeat' first|((first|refine Ld.o 2 rfl rfl ?_) <;> (conv=>whnf))|(refine cI.stop 4 ?_)|((first|refine oI.z ?_|refine cI.z ?_);conv=>whnf)|(intro (_:Nat);conv=>whnf)|(refine cnd_eq (fun _=>?_) (fun _=>?_) <;> first|(exfalso;omega)|(conv=>whnf))
 rename_i bb2 bb3 bb4 x0
 refine ⟨SeqN.cut (fun ρ hx Lx=>∃(b6:Nat) (op6 ar6:Int) (ng6:Bool) (nn6 dd6:Sl) (nm6:List Nat) (ss6:Sl),rd ρ 6=.pointer (some ⟨b6,0,none⟩)∧h.le hx∧Lx=[(b6,.cells [.int .i64 op6,.int .i64 ar6,.bool ng6,nn6.val,dd6.val,.string (txt nm6),ss6.val].toArray Ty.api_Expr (0,0)),(bb4,.cells [.int .i64 0,.int .i64 0,.bool false,.slice none 0 0,.slice none 0 0,.string ByteArray.empty,.slice none 0 0].toArray Ty.api_Expr (0,0)),(bb3,.cells [.int .i64 tp2,.int .i64 ta2,.bool tg2,a2.val,b2.val,.string (txt tn2),s2.val].toArray Ty.api_Expr (0,0)),(bb2,.cells [.int .i64 9,.int .i64 arg,.bool neg,a.val,b.val,.string (txt name),s.val].toArray Ty.api_Expr (0,0))]∧IsE hx [.int .i64 op6,.int .i64 ar6,.bool ng6,nn6.val,dd6.val,.string (txt nm6),ss6.val] (nodeT 8 0 [.mk 9 arg neg l m name [k],k])) ?_ ?_⟩
 ·conv=>whnf
  repeat ((first|refine oI.z ?_|refine cI.z ?_);conv=>whnf)
  repeat' first|((first|(show LdN _ _ _ _ _;first|refine LdN.oA 2 rfl rfl ?_|(refine LdN.hasN [.int .i64 op1,.int .i64 ar1,.bool ng1,nn1.val,dd1.val,.string (txt nm1),ss1.val] rfl (fun i v hv=>hld1 _ _ i v (by first|assumption|exact Heap.lr _) hv) ?_))|refine hix1 _ _ rfl ?_|refine ⟨fun _=>HasLe.cons _,?_⟩|refine ⟨fun hst=>(by cases (show true=false from hst)),?_⟩|intro (_:Nat)|refine Ld.o 2 rfl rfl ?_|refine Sto.l 0 rfl rfl rfl ?_|refine DrN.run (by decide +kernel) ?_) <;> (conv=>whnf))|(show CN _ _ _ _ _ _;first|(refine CN.keep 0 rfl rfl (fun hl5=>?_);refine CN.f rfl (node2_ct _ _ (by first|decide|exact ⟨by omega,by omega⟩) (by first|decide|exact ⟨by omega,by omega⟩) (IsE.mono (by assumption) (by first|assumption|exact Heap.lr _)) (IsE.mono (by assumption) (by first|assumption|exact Heap.lr _)) hl5) (fun v h' hl2 hr=>?_);obtain ⟨op9,ar9,ng9,nn9,dd9,nm9,ss9,rfl,hE9⟩:=hr;first|(refine ⟨fun _=>HasLe.keep (n:=0) rfl hl5 hl2,?_⟩;conv=>whnf)|(conv=>whnf))|(refine CN.keep 1 rfl rfl (fun hl5=>?_);refine CN.f rfl (node2_ct _ _ (by first|decide|exact ⟨by omega,by omega⟩) (by first|decide|exact ⟨by omega,by omega⟩) (IsE.mono (by assumption) (by first|assumption|exact Heap.lr _)) (IsE.mono (by assumption) (by first|assumption|exact Heap.lr _)) hl5) (fun v h' hl2 hr=>?_);obtain ⟨op9,ar9,ng9,nn9,dd9,nm9,ss9,rfl,hE9⟩:=hr;first|(refine ⟨fun _=>HasLe.keep (n:=1) rfl hl5 hl2,?_⟩;conv=>whnf)|(conv=>whnf)))|(refine Both.mk ?_ ?_ <;> (conv=>whnf))
  all_goals exact ⟨rfl,_,op9,ar9,ng9,nn9,dd9,nm9,ss9,rfl,(by (iterate 30 try first|assumption|refine Heap.lt ?_ (by assumption));first|done|assumption),rfl,by assumption⟩
 conv=>whnf
 repeat intro _
 rename_i h4 L4 hJ
 obtain ⟨b6,op6,ar6,ng6,nn6,dd6,nm6,ss6,e6,hle4,rfl,hE6⟩:=hJ
 conv at e6=>lhs;whnf
 subst e6
 by_cases h1:-32<arg
 ·rw [if_pos h1]
  conv=>whnf
  repeat ((first|refine oI.z ?_|refine cI.z ?_);conv=>whnf)
  repeat' first|((first|(show SeqN _ _ _ _ _ _ _;refine SeqN.go ?_)|(show LdN _ _ _ _ _;first|refine LdN.oA 0 rfl rfl ?_|refine LdN.oA 1 rfl rfl ?_|refine LdN.oA 2 rfl rfl ?_|refine LdN.hasN [.int .i64 op1,.int .i64 ar1,.bool ng1,nn1.val,dd1.val,.string (txt nm1),ss1.val] rfl (fun i v hv=>hld1 _ _ i v (by assumption) hv) ?_)|refine hix1 _ _ rfl ?_|((first|refine oI.z ?_|refine cI.z ?_))|refine ⟨fun _=>HasLe.o (by assumption),?_⟩|refine ⟨fun _=>HasLe.cons _,?_⟩|refine ⟨fun hst=>(by cases (show true=false from hst)),?_⟩|intro (_:Nat)|refine WN.i64 (by omega) (by omega) ?_|refine Ld.o 3 rfl rfl ?_|(show Sto _ _ _ _;first|refine Sto.l 0 rfl rfl rfl ?_|refine Sto.l 1 rfl rfl rfl ?_)|refine DrN.run (by decide +kernel) ?_) <;> (conv=>whnf))|(show CN _ _ _ _ _ _;first|(refine CN.keep 0 rfl rfl (fun hl5=>?_);refine CN.f rfl (node1_ct _ _ (by first|decide|exact ⟨by omega,by omega⟩) (by first|decide|exact ⟨by omega,by omega⟩) (IsE.mono (by assumption) (by assumption)) hl5) (fun v h' hl2 hr=>?_);obtain ⟨op9,ar9,ng9,nn9,dd9,nm9,ss9,rfl,hE9⟩:=hr;first|(refine ⟨fun _=>HasLe.keep (n:=0) rfl hl5 hl2,?_⟩;conv=>whnf)|(conv=>whnf))|(refine CN.keep 0 rfl rfl (fun hl5=>?_);refine CN.f rfl (node2_ct _ _ (by first|decide|exact ⟨by omega,by omega⟩) (by first|decide|exact ⟨by omega,by omega⟩) (IsE.mono (by assumption) (by first|assumption|exact Heap.lr _)) (IsE.mono (by assumption) (by (iterate 30 try first|assumption|refine Heap.lt ?_ (by assumption));first|done|assumption)) hl5) (fun v h' hl2 hr=>?_);obtain ⟨op9,ar9,ng9,nn9,dd9,nm9,ss9,rfl,hE9⟩:=hr;first|(refine ⟨fun _=>HasLe.keep (n:=0) rfl hl5 hl2,?_⟩;conv=>whnf)|(conv=>whnf))|(refine CN.f rfl (wN _) (fun v h' hl2 hr=>?_);obtain ⟨op8,ar8,ng8,nn8,dd8,nm8,ss8,rfl,hE8⟩:=hr;conv=>whnf))|(refine cnd_lt (fun _=>?_) (fun _=>?_) <;> first|(exfalso;omega)|(conv=>whnf))
  all_goals exact RN.a ⟨_,_,_,_,_,_,_,rfl,(by assumption)⟩
 ·rw [if_neg h1]
  conv=>whnf
  repeat ((first|refine oI.z ?_|refine cI.z ?_);conv=>whnf)
  repeat' first|((first|(show SeqN _ _ _ _ _ _ _;refine SeqN.go ?_)|(show LdN _ _ _ _ _;first|refine LdN.oA 0 rfl rfl ?_|refine LdN.oA 1 rfl rfl ?_|refine LdN.oA 2 rfl rfl ?_)|((first|refine oI.z ?_|refine cI.z ?_))|refine ⟨fun _=>HasLe.o (by assumption),?_⟩|refine ⟨fun _=>HasLe.cons _,?_⟩|refine ⟨fun hst=>(by cases (show true=false from hst)),?_⟩|intro (_:Nat)|refine Sto.l 1 rfl rfl rfl ?_|refine DrN.run (by decide +kernel) ?_) <;> (conv=>whnf))|(show CN _ _ _ _ _ _;first|(refine CN.keep 0 rfl rfl (fun hl5=>?_);refine CN.f rfl (node2_ct _ _ (by first|decide|exact ⟨by omega,by omega⟩) (by first|decide|exact ⟨by omega,by omega⟩) (IsE.mono (by assumption) (by first|assumption|exact Heap.lr _)) (IsE.mono (by assumption) (by (iterate 30 try first|assumption|refine Heap.lt ?_ (by assumption));first|done|assumption)) hl5) (fun v h' hl2 hr=>?_);obtain ⟨op9,ar9,ng9,nn9,dd9,nm9,ss9,rfl,hE9⟩:=hr;first|(refine ⟨fun _=>HasLe.keep (n:=0) rfl hl5 hl2,?_⟩;conv=>whnf)|(conv=>whnf))|(refine CN.f rfl (wN _) (fun v h' hl2 hr=>?_);obtain ⟨op8,ar8,ng8,nn8,dd8,nm8,ss8,rfl,hE8⟩:=hr;conv=>whnf))|(refine cnd_lt (fun _=>?_) (fun _=>?_) <;> first|(exfalso;omega)|(conv=>whnf))
  all_goals exact RN.a ⟨_,_,_,_,_,_,_,rfl,(by assumption)⟩
theorem derivedCall_ct (k u:Tr) (arg:Int) (ha1:1≤arg) (ha2:arg≤8) (neg:Bool) (l m name:List Nat) (h:Heap) (vs us2:List Value) (w:IsE h vs (.mk 11 arg neg l m name [k])) (w2:IsE h us2 u):Fn0 T F.expr_derivedCall [.agg vs.toArray,.agg us2.toArray] h fun v h'=>VE h' v (callD (.mk 11 arg neg l m name [k]) arg k u):=by
 obtain ⟨a,b,s,rfl,ho,ha,hv,hb,hk⟩:=w.isK
 have hkl:s.l=1:=hk.len
 obtain ⟨bl1,off1,op1,ar1,ng1,nn1,dd1,nm1,ss1,hE1,hld1,hln1,hix1⟩:=hk.kidP 0 _ rfl
 have r1:arg=1→callD (.mk 11 arg neg l m name [k]) arg k u=nodeT 7 0 [(.mk 11 arg neg l m name [k]),u]:=fun e=>by subst e;rfl
 have r2:arg=2→callD (.mk 11 arg neg l m name [k]) arg k u=nodeT 8 0 [u,k]:=fun e=>by subst e;rfl
 have r3:arg=3→callD (.mk 11 arg neg l m name [k]) arg k u=nodeT 7 0 [nodeT 11 4 [k],u]:=fun e=>by subst e;rfl
 have r4:arg=4→callD (.mk 11 arg neg l m name [k]) arg k u=nodeT 4 0 [nodeT 7 0 [nodeT 11 3 [k],u]]:=fun e=>by subst e;rfl
 have r5:arg=5→callD (.mk 11 arg neg l m name [k]) arg k u=nodeT 7 0 [nodeT 5 0 [mkL 1,nodeT 9 2 [(.mk 11 arg neg l m name [k])]],u]:=fun e=>by subst e;rfl
 have r6:arg=6→callD (.mk 11 arg neg l m name [k]) arg k u=nodeT 8 0 [u,oneD k]:=fun e=>by subst e;rfl
 have r7:arg=7→callD (.mk 11 arg neg l m name [k]) arg k u=nodeT 4 0 [nodeT 8 0 [u,oneD k]]:=fun e=>by subst e;rfl
 have r8:arg=8→callD (.mk 11 arg neg l m name [k]) arg k u=nodeT 8 0 [u,nodeT 5 0 [mkL 1,nodeT 9 2 [k]]]:=fun e=>by subst e;rfl
 obtain ⟨R,hR⟩:∃R,R=callD (.mk 11 arg neg l m name [k]) arg k u:=⟨_,rfl⟩
 rw [← hR] at r1 r2 r3 r4 r5 r6 r7 r8 ⊢
 replace r1:=Hq.mk r1
 replace r2:=Hq.mk r2
 replace r3:=Hq.mk r3
 replace r4:=Hq.mk r4
 replace r5:=Hq.mk r5
 replace r6:=Hq.mk r6
 replace r7:=Hq.mk r7
 replace r8:=Hq.mk r8
 clear hR
 obtain ⟨⟨tp2,ta2,tg2,tl2,tm2,tn2,tk2⟩,hu2⟩:∃x,x=u:=⟨_,rfl⟩
 obtain ⟨a2,b2,s2,hus2,-⟩:=(hu2.symm▸w2:IsE h us2 (.mk tp2 ta2 tg2 tl2 tm2 tn2 tk2)).isK
 subst hus2
 clear hu2
 have w1:=fun h=>whole_ct h 1 (by decide) (by decide)
 simp only [ratI1] at w1
 refine f0C ok D.expr_derivedCall rfl ?_
 conv=>whnf
 repeat ((first|refine oI.z ?_|refine cI.z ?_);conv=>whnf)
 repeat' first|((first|(show LdN _ _ _ _ _;(refine LdN.hasN [.int .i64 op1,.int .i64 ar1,.bool ng1,nn1.val,dd1.val,.string (txt nm1),ss1.val] rfl (fun i v hv=>hld1 _ _ i v (by first|assumption|exact Heap.lr _) hv) ?_))|(show CN _ _ _ _ _ _;(refine CN.f rfl (w1 _) (fun v h' hl2 hr=>?_);obtain ⟨op8,ar8,ng8,nn8,dd8,nm8,ss8,rfl,hE8⟩:=hr))|refine Ld.o 2 rfl rfl ?_|refine Sto.l 0 rfl rfl rfl ?_) <;> (conv=>whnf))|(refine hix1 _ _ rfl ?_;conv=>whnf)|(refine cI.stop 3 ?_)|((first|refine oI.z ?_|refine cI.z ?_);conv=>whnf)|(intro (_:Nat);conv=>whnf)
 rename_i bb2 bb3 bb4 bb5 bb6
 refine ⟨SeqN.cut (fun ρ hx Lx=>∃(b7:Nat) (op7 ar7:Int) (ng7:Bool) (nn7 dd7:Sl) (nm7:List Nat) (ss7:Sl),rd ρ 7=.pointer (some ⟨b7,0,none⟩)∧h'.le hx∧Lx=[(b7,.cells [.int .i64 op7,.int .i64 ar7,.bool ng7,nn7.val,dd7.val,.string (txt nm7),ss7.val].toArray Ty.api_Expr (0,0)),(bb6,.cells [.int .i64 op8,.int .i64 ar8,.bool ng8,nn8.val,dd8.val,.string (txt nm8),ss8.val].toArray Ty.api_Expr (0,0)),(bb5,.cells [.int .i64 op1,.int .i64 ar1,.bool ng1,nn1.val,dd1.val,.string (txt nm1),ss1.val].toArray Ty.api_Expr (0,0)),(bb4,.cells [.int .i64 0,.int .i64 0,.bool false,.slice none 0 0,.slice none 0 0,.string ByteArray.empty,.slice none 0 0].toArray Ty.api_Expr (0,0)),(bb3,.cells [.int .i64 tp2,.int .i64 ta2,.bool tg2,a2.val,b2.val,.string (txt tn2),s2.val].toArray Ty.api_Expr (0,0)),(bb2,.cells [.int .i64 11,.int .i64 arg,.bool neg,a.val,b.val,.string (txt name),s.val].toArray Ty.api_Expr (0,0))]∧IsE hx [.int .i64 op7,.int .i64 ar7,.bool ng7,nn7.val,dd7.val,.string (txt nm7),ss7.val] (oneD k)) ?_ ?_⟩
 ·conv=>whnf
  repeat ((first|refine oI.z ?_|refine cI.z ?_);conv=>whnf)
  repeat' first|((first|(show LdN _ _ _ _ _;first|refine LdN.oA 0 rfl rfl ?_|refine LdN.oA 1 rfl rfl ?_)|refine Sto.l 0 rfl rfl rfl ?_|refine DrN.run (by decide +kernel) ?_|refine ⟨fun _=>HasLe.cons _,?_⟩|refine ⟨fun hst=>(by cases (show true=false from hst)),?_⟩|intro (_:Nat)) <;> (conv=>whnf))|(show CN _ _ _ _ _ _;first|(refine CN.keep 0 rfl rfl (fun hl5=>?_);refine CN.f rfl (node1_ct _ _ (by first|decide|exact ⟨by omega,by omega⟩) (by first|decide|exact ⟨by omega,by omega⟩) (IsE.mono (by assumption) (by first|assumption|exact Heap.lr _)) hl5) (fun v h' hl2 hr=>?_);obtain ⟨op9,ar9,ng9,nn9,dd9,nm9,ss9,rfl,hE9⟩:=hr;first|(refine ⟨fun _=>HasLe.keep (n:=0) rfl hl5 hl2,?_⟩;conv=>whnf)|(conv=>whnf))|(refine CN.keep 1 rfl rfl (fun hl5=>?_);refine CN.f rfl (node1_ct _ _ (by first|decide|exact ⟨by omega,by omega⟩) (by first|decide|exact ⟨by omega,by omega⟩) (IsE.mono (by assumption) (by first|assumption|exact Heap.lr _)) hl5) (fun v h' hl2 hr=>?_);obtain ⟨op9,ar9,ng9,nn9,dd9,nm9,ss9,rfl,hE9⟩:=hr;first|(refine ⟨fun _=>HasLe.keep (n:=1) rfl hl5 hl2,?_⟩;conv=>whnf)|(conv=>whnf))|(refine CN.keep 0 rfl rfl (fun hl5=>?_);refine CN.f rfl (node2_ct _ _ (by first|decide|exact ⟨by omega,by omega⟩) (by first|decide|exact ⟨by omega,by omega⟩) (IsE.mono (by assumption) (by (iterate 30 try first|assumption|refine Heap.lt ?_ (by assumption));first|done|assumption)) (IsE.mono (by assumption) (by first|assumption|exact Heap.lr _)) hl5) (fun v h' hl2 hr=>?_);obtain ⟨op9,ar9,ng9,nn9,dd9,nm9,ss9,rfl,hE9⟩:=hr;first|(refine ⟨fun _=>HasLe.keep (n:=0) rfl hl5 hl2,?_⟩;conv=>whnf)|(conv=>whnf))|(refine CN.keep 1 rfl rfl (fun hl5=>?_);refine CN.f rfl (node2_ct _ _ (by first|decide|exact ⟨by omega,by omega⟩) (by first|decide|exact ⟨by omega,by omega⟩) (IsE.mono (by assumption) (by (iterate 30 try first|assumption|refine Heap.lt ?_ (by assumption));first|done|assumption)) (IsE.mono (by assumption) (by first|assumption|exact Heap.lr _)) hl5) (fun v h' hl2 hr=>?_);obtain ⟨op9,ar9,ng9,nn9,dd9,nm9,ss9,rfl,hE9⟩:=hr;first|(refine ⟨fun _=>HasLe.keep (n:=1) rfl hl5 hl2,?_⟩;conv=>whnf)|(conv=>whnf)))|(refine Both.mk ?_ ?_ <;> (conv=>whnf))
  all_goals exact ⟨rfl,_,op9,ar9,ng9,nn9,dd9,nm9,ss9,rfl,(by (iterate 30 try first|assumption|refine Heap.lt ?_ (by assumption));first|done|assumption),rfl,by assumption⟩
 conv=>whnf
 repeat intro _
 rename_i h4 L4 hJ
 obtain ⟨b7,op7,ar7,ng7,nn7,dd7,nm7,ss7,e7,hle4,rfl,hE7⟩:=hJ
 conv at e7=>lhs;whnf
 subst e7
 conv=>whnf
 repeat ((first|refine oI.z ?_|refine cI.z ?_);conv=>whnf)
 repeat' first|((first|(show LdN _ _ _ _ _;first|refine LdN.oA 0 rfl rfl ?_|refine LdN.oA 1 rfl rfl ?_|refine LdN.oA 2 rfl rfl ?_|refine LdN.oA 3 rfl rfl ?_|refine LdN.oA 4 rfl rfl ?_|refine LdN.oA 5 rfl rfl ?_)|((first|refine oI.z ?_|refine cI.z ?_))|refine ⟨fun _=>HasLe.cons _,?_⟩|refine ⟨fun hst=>(by cases (show true=false from hst)),?_⟩|intro (_:Nat)|refine Ld.o 5 rfl rfl ?_|refine Sto.l 3 rfl rfl rfl ?_|refine DrN.run (by decide +kernel) ?_) <;> (conv=>whnf))|(show CN _ _ _ _ _ _;first|(refine CN.keep 0 rfl rfl (fun hl5=>?_);refine CN.f rfl (node1_ct _ _ (by first|decide|exact ⟨by omega,by omega⟩) (by first|decide|exact ⟨by omega,by omega⟩) (IsE.mono (by assumption) (by (iterate 30 try first|assumption|exact Heap.lr _|refine Heap.lt ?_ (by assumption));first|done|assumption)) hl5) (fun v h' hl2 hr=>?_);obtain ⟨op9,ar9,ng9,nn9,dd9,nm9,ss9,rfl,hE9⟩:=hr;first|(refine ⟨fun _=>HasLe.keep (n:=0) rfl hl5 hl2,?_⟩;conv=>whnf)|(conv=>whnf))|(refine CN.keep 0 rfl rfl (fun hl5=>?_);refine CN.f rfl (node2_ct _ _ (by first|decide|exact ⟨by omega,by omega⟩) (by first|decide|exact ⟨by omega,by omega⟩) (IsE.mono (by assumption) (by (iterate 30 try first|assumption|exact Heap.lr _|refine Heap.lt ?_ (by assumption));first|done|assumption)) (IsE.mono (by assumption) (by (iterate 30 try first|assumption|exact Heap.lr _|refine Heap.lt ?_ (by assumption));first|done|assumption)) hl5) (fun v h' hl2 hr=>?_);obtain ⟨op9,ar9,ng9,nn9,dd9,nm9,ss9,rfl,hE9⟩:=hr;first|(refine ⟨fun _=>HasLe.keep (n:=0) rfl hl5 hl2,?_⟩;conv=>whnf)|(conv=>whnf)))|(refine cnd_eq (fun _=>?_) (fun _=>?_) <;> first|(exfalso;omega)|(conv=>whnf))
 all_goals first
  | (rw [r1.out (by omega)];exact RN.a ⟨_,_,_,_,_,_,_,rfl,(by assumption)⟩)
  | (rw [r2.out (by omega)];exact RN.a ⟨_,_,_,_,_,_,_,rfl,(by assumption)⟩)
  | (rw [r3.out (by omega)];exact RN.a ⟨_,_,_,_,_,_,_,rfl,(by assumption)⟩)
  | (rw [r4.out (by omega)];exact RN.a ⟨_,_,_,_,_,_,_,rfl,(by assumption)⟩)
  | (rw [r5.out (by omega)];exact RN.a ⟨_,_,_,_,_,_,_,rfl,(by assumption)⟩)
  | (rw [r6.out (by omega)];exact RN.a ⟨_,_,_,_,_,_,_,rfl,(by assumption)⟩)
  | (rw [r7.out (by omega)];exact RN.a ⟨_,_,_,_,_,_,_,rfl,(by assumption)⟩)
  | (rw [r8.out (by omega)];exact RN.a ⟨_,_,_,_,_,_,_,rfl,(by assumption)⟩)
theorem derived_ct (nm:List Nat) (hnm:∀y∈nm,y<256):∀t:Tr,∀(h:Heap) (vs:List Value),IsE h vs t→okG t→smT t→Fn0 T F.expr_derived [.agg vs.toArray,.string (txt nm)] h fun v h'=>VE h' v (derT id nm t):=by
 refine tree_ind fun t ih=>?_
 intro h vs w hok hsm
 obtain ⟨op,arg,neg,l,m,name,ks⟩:=t
 obtain ⟨a,b,s,rfl,ho,ha,hv,hb,hk⟩:=w.isK
 rw [okG] at hok
 obtain ⟨hnb,hoks⟩:=hok
 rw [smT] at hsm
 obtain ⟨hs1,hs2⟩:=hsm
 have kn:=kinds_sm hnb hs1
 obtain ⟨-,n2,n3,-,-⟩:=hnb
 have w0:=fun h=>whole_ct h 0 (by decide) (by decide)
 simp only [ratI0] at w0
 have w1:=fun h=>whole_ct h 1 (by decide) (by decide)
 simp only [ratI1] at w1
 rw [derT]
 rcases kn with rfl|rfl|rfl|⟨rfl|rfl|rfl|rfl,hn1⟩|⟨rfl|rfl|rfl|rfl,hn2⟩
 ·rw [if_pos (by decide)]
  refine f0C ok D.expr_derived rfl ?_
  conv=>whnf
  repeat ((first|refine oI.z ?_|refine cI.z ?_);conv=>whnf)
  repeat' first|((first|(show SeqN _ _ _ _ _ _ _;refine SeqN.go ?_)|(show LdN _ _ _ _ _;refine LdN.oA 0 rfl rfl ?_)|(show CN _ _ _ _ _ _;(refine CN.f rfl (w0 _) (fun v h' hl2 hr=>?_);obtain ⟨op8,ar8,ng8,nn8,dd8,nm8,ss8,rfl,hE8⟩:=hr))|((first|refine oI.z ?_|refine cI.z ?_))|intro (_:Nat)|refine Ld.o 1 rfl rfl ?_|refine Sto.l 0 rfl rfl rfl ?_) <;> (conv=>whnf))|(refine cnd_eq (fun _=>?_) (fun _=>?_) <;> first|(exfalso;omega)|(conv=>whnf))
  all_goals exact RN.a ⟨_,_,_,_,_,_,_,rfl,(by assumption)⟩
 ·rw [if_neg (by decide),if_pos rfl]
  refine f0C ok D.expr_derived rfl ?_
  conv=>whnf
  repeat ((first|refine oI.z ?_|refine cI.z ?_);conv=>whnf)
  repeat' first|((first|(show SeqN _ _ _ _ _ _ _;refine SeqN.go ?_)|(show LdN _ _ _ _ _;refine LdN.oA 0 rfl rfl ?_)|(show CN _ _ _ _ _ _;first|(refine CN.f rfl (w0 _) (fun v h' hl2 hr=>?_);obtain ⟨op8,ar8,ng8,nn8,dd8,nm8,ss8,rfl,hE8⟩:=hr)|(refine CN.f rfl (w1 _) (fun v h' hl2 hr=>?_);obtain ⟨op8,ar8,ng8,nn8,dd8,nm8,ss8,rfl,hE8⟩:=hr))|((first|refine oI.z ?_|refine cI.z ?_))|intro (_:Nat)|refine Ld.o 1 rfl rfl ?_|refine Sto.l 0 rfl rfl rfl ?_) <;> (conv=>whnf))|(show cnd _ _ _;first|(refine cnd_txt hb hnm (fun _=>?_) (fun _=>?_) <;> (conv=>whnf))|(refine cnd_eq (fun _=>?_) (fun _=>?_) <;> first|(exfalso;omega)|(conv=>whnf)))
  all_goals first
   | (rw [if_pos (by assumption)];exact RN.a ⟨_,_,_,_,_,_,_,rfl,(by assumption)⟩)
   | (rw [if_neg (by assumption)];exact RN.a ⟨_,_,_,_,_,_,_,rfl,(by assumption)⟩)
 ·rw [if_pos (by decide)]
  refine f0C ok D.expr_derived rfl ?_
  conv=>whnf
  repeat ((first|refine oI.z ?_|refine cI.z ?_);conv=>whnf)
  repeat' first|((first|(show SeqN _ _ _ _ _ _ _;refine SeqN.go ?_)|(show LdN _ _ _ _ _;refine LdN.oA 0 rfl rfl ?_)|(show CN _ _ _ _ _ _;(refine CN.f rfl (w0 _) (fun v h' hl2 hr=>?_);obtain ⟨op8,ar8,ng8,nn8,dd8,nm8,ss8,rfl,hE8⟩:=hr))|((first|refine oI.z ?_|refine cI.z ?_))|intro (_:Nat)|refine Ld.o 1 rfl rfl ?_|refine Sto.l 0 rfl rfl rfl ?_) <;> (conv=>whnf))|(refine cnd_eq (fun _=>?_) (fun _=>?_) <;> first|(exfalso;omega)|(conv=>whnf))
  all_goals exact RN.a ⟨_,_,_,_,_,_,_,rfl,(by assumption)⟩
 ·obtain ⟨k,rfl⟩:∃k,ks=[k]:=by
   match ks,hn1 with
   | [k],_=>exact ⟨k,rfl⟩
  rw [okGs] at hoks
  rw [smTs] at hs2
  obtain ⟨bl1,off1,op1,ar1,ng1,nn1,dd1,nm1,ss1,hE1,hld1,hln1,hix1⟩:=hk.kidP 0 _ rfl
  have e1:=fun h vs w=>ih k (szT_kid (j:=0) rfl) h vs w hoks.1 hs2.1
  rw [if_neg (by decide),if_neg (by decide),derTs,derTs,nodeD]
  show Fn0 T _ _ _ fun v h'=>VE h' v (nodeT 4 0 [derT id nm k])
  obtain ⟨D1,hD1⟩:∃D,D=derT id nm k:=⟨_,rfl⟩
  simp only [← hD1] at e1 ⊢
  clear hD1
  have hkl:s.l=1:=hk.len
  refine f0C ok D.expr_derived rfl ?_
  conv=>whnf
  repeat ((first|refine oI.z ?_|refine cI.z ?_);conv=>whnf)
  repeat' first|((first|(show SeqN _ _ _ _ _ _ _;refine SeqN.go ?_)|(show LdN _ _ _ _ _;first|refine LdN.oA 0 rfl rfl ?_|refine LdN.oA 2 rfl rfl ?_|(refine LdN.hasN [.int .i64 op1,.int .i64 ar1,.bool ng1,nn1.val,dd1.val,.string (txt nm1),ss1.val] rfl (fun i v hv=>hld1 _ _ i v (by first|assumption|exact Heap.lr _) hv) ?_))|refine hix1 _ _ rfl ?_|((first|refine oI.z ?_|refine cI.z ?_))|intro (_:Nat)|(show Ld _ _ _ _;first|refine Ld.o 1 rfl rfl ?_|refine Ld.o 3 rfl rfl ?_)|(show Sto _ _ _ _;first|refine Sto.l 0 rfl rfl rfl ?_|refine Sto.l 2 rfl rfl rfl ?_)) <;> (conv=>whnf))|(show CN _ _ _ _ _ _;first|(refine CN.f rfl (e1 _ _ (hE1.mono (by first|assumption|exact Heap.lr _))) (fun v h' hl2 hr=>?_);obtain ⟨op3,ar3,ng3,nn3,dd3,nm3,ss3,rfl,hE3⟩:=hr;conv=>whnf)|(refine CN.keep 0 rfl rfl (fun hl5=>?_);refine CN.f rfl (node1_ct _ _ (by first|decide|exact ⟨by omega,by omega⟩) (by first|decide|exact ⟨by omega,by omega⟩) (IsE.mono (by assumption) (by first|assumption|exact Heap.lr _)) hl5) (fun v h' hl2 hr=>?_);obtain ⟨op9,ar9,ng9,nn9,dd9,nm9,ss9,rfl,hE9⟩:=hr;first|(refine ⟨fun _=>HasLe.keep (n:=0) rfl hl5 hl2,?_⟩;conv=>whnf)|(conv=>whnf)))|(refine cnd_eq (fun _=>?_) (fun _=>?_) <;> first|(exfalso;omega)|(conv=>whnf))
  all_goals exact RN.a ⟨_,_,_,_,_,_,_,rfl,(by assumption)⟩
 ·obtain ⟨k,rfl⟩:∃k,ks=[k]:=by
   match ks,hn1 with
   | [k],_=>exact ⟨k,rfl⟩
  rw [okGs] at hoks
  rw [smTs] at hs2
  rw [show lowA 9=-32 by decide] at n2
  rw [show highA 9=32 by decide] at n3
  have dp:=fun u h vs us2 w w2=>derivedPower_ct k u arg n2 n3 neg l m name h vs us2 w w2
  obtain ⟨bl1,off1,op1,ar1,ng1,nn1,dd1,nm1,ss1,hE1,hld1,hln1,hix1⟩:=hk.kidP 0 _ rfl
  have e1:=fun h vs w=>ih k (szT_kid (j:=0) rfl) h vs w hoks.1 hs2.1
  rw [if_neg (by decide),if_neg (by decide),derTs,derTs,nodeD]
  show Fn0 T _ _ _ fun v h'=>VE h' v (powD (.mk 9 arg neg l m name [k]) arg k (derT id nm k))
  obtain ⟨D1,hD1⟩:∃D,D=derT id nm k:=⟨_,rfl⟩
  simp only [← hD1] at e1 ⊢
  clear hD1
  have hkl:s.l=1:=hk.len
  refine f0C ok D.expr_derived rfl ?_
  conv=>whnf
  repeat ((first|refine oI.z ?_|refine cI.z ?_);conv=>whnf)
  repeat' first|((first|(show SeqN _ _ _ _ _ _ _;refine SeqN.go ?_)|(show LdN _ _ _ _ _;first|refine LdN.oA 0 rfl rfl ?_|refine LdN.oA 2 rfl rfl ?_|refine LdN.oA 3 rfl rfl ?_|(refine LdN.hasN [.int .i64 op1,.int .i64 ar1,.bool ng1,nn1.val,dd1.val,.string (txt nm1),ss1.val] rfl (fun i v hv=>hld1 _ _ i v (by first|assumption|exact Heap.lr _) hv) ?_))|refine hix1 _ _ rfl ?_|((first|refine oI.z ?_|refine cI.z ?_))|intro (_:Nat)|(show CN _ _ _ _ _ _;first|(refine CN.f rfl (e1 _ _ (hE1.mono (by first|assumption|exact Heap.lr _))) (fun v h' hl2 hr=>?_);obtain ⟨op3,ar3,ng3,nn3,dd3,nm3,ss3,rfl,hE3⟩:=hr)|(refine CN.f rfl (dp _ _ _ _ (w.mono (by assumption)) hE3) (fun v h' hl2 hr=>?_);obtain ⟨op9,ar9,ng9,nn9,dd9,nm9,ss9,rfl,hE9⟩:=hr))|(show Ld _ _ _ _;first|refine Ld.o 1 rfl rfl ?_|refine Ld.o 3 rfl rfl ?_)|(show Sto _ _ _ _;first|refine Sto.l 0 rfl rfl rfl ?_|refine Sto.l 2 rfl rfl rfl ?_)) <;> (conv=>whnf))|(refine cnd_eq (fun _=>?_) (fun _=>?_) <;> first|(exfalso;omega)|(conv=>whnf))
  all_goals exact RN.a ⟨_,_,_,_,_,_,_,rfl,(by assumption)⟩
 ·obtain ⟨k,rfl⟩:∃k,ks=[k]:=by
   match ks,hn1 with
   | [k],_=>exact ⟨k,rfl⟩
  rw [okGs] at hoks
  rw [smTs] at hs2
  rw [show lowA 10=2 by decide] at n2
  rw [show highA 10=8 by decide] at n3
  have wN:=fun h=>whole_ct h arg (by omega) (by omega)
  obtain ⟨Q,hQ⟩:∃Q,Q=(arg:Rat):=⟨_,rfl⟩
  simp only [← hQ] at wN
  obtain ⟨bl1,off1,op1,ar1,ng1,nn1,dd1,nm1,ss1,hE1,hld1,hln1,hix1⟩:=hk.kidP 0 _ rfl
  have e1:=fun h vs w=>ih k (szT_kid (j:=0) rfl) h vs w hoks.1 hs2.1
  rw [if_neg (by decide),if_neg (by decide),derTs,derTs,nodeD]
  show Fn0 T _ _ _ fun v h'=>VE h' v (nodeT 8 0 [derT id nm k,nodeT 7 0 [mkL (arg:Rat),nodeT 9 (arg-1) [.mk 10 arg neg l m name [k]]]])
  rw [← hQ]
  obtain ⟨D1,hD1⟩:∃D,D=derT id nm k:=⟨_,rfl⟩
  simp only [← hD1] at e1 ⊢
  clear hD1
  have hkl:s.l=1:=hk.len
  refine f0C ok D.expr_derived rfl ?_
  conv=>whnf
  repeat ((first|refine oI.z ?_|refine cI.z ?_);conv=>whnf)
  repeat' first|((first|(show SeqN _ _ _ _ _ _ _;refine SeqN.go ?_)|(show LdN _ _ _ _ _;first|refine LdN.oA 0 rfl rfl ?_|(refine LdN.hasN [.int .i64 op1,.int .i64 ar1,.bool ng1,nn1.val,dd1.val,.string (txt nm1),ss1.val] rfl (fun i v hv=>hld1 _ _ i v (by first|assumption|exact Heap.lr _) hv) ?_))|(show CN _ _ _ _ _ _;(refine CN.f rfl (e1 _ _ (hE1.mono (by first|assumption|exact Heap.lr _))) (fun v h' hl2 hr=>?_);obtain ⟨op3,ar3,ng3,nn3,dd3,nm3,ss3,rfl,hE3⟩:=hr))|(show Ld _ _ _ _;first|refine Ld.o 1 rfl rfl ?_|refine Ld.o 3 rfl rfl ?_)|refine Sto.l 0 rfl rfl rfl ?_) <;> (conv=>whnf))|(refine hix1 _ _ rfl ?_;conv=>whnf)|(refine cI.stop 17 ?_)|((first|refine oI.z ?_|refine cI.z ?_);conv=>whnf)|(intro (_:Nat);conv=>whnf)|(refine cnd_eq (fun _=>?_) (fun _=>?_) <;> first|(exfalso;omega)|(conv=>whnf))
  rename_i bb2 bb4 y1 y2 y3 bb5 bb6 y4 y5 y6
  refine ⟨SeqN.cut (fun ρ hx Lx=>∃(b7:Nat) (op7 ar7:Int) (ng7:Bool) (nn7 dd7:Sl) (nm7:List Nat) (ss7:Sl),rd ρ 7=.pointer (some ⟨b7,0,none⟩)∧h'.le hx∧Lx=[(b7,.cells [.int .i64 op7,.int .i64 ar7,.bool ng7,nn7.val,dd7.val,.string (txt nm7),ss7.val].toArray Ty.api_Expr (0,0)),(bb6,.cells [.int .i64 op3,.int .i64 ar3,.bool ng3,nn3.val,dd3.val,.string (txt nm3),ss3.val].toArray Ty.api_Expr (0,0)),(bb5,.cells [.int .i64 op1,.int .i64 ar1,.bool ng1,nn1.val,dd1.val,.string (txt nm1),ss1.val].toArray Ty.api_Expr (0,0)),(bb4,.cells [.int .i64 0,.int .i64 0,.bool false,.slice none 0 0,.slice none 0 0,.string ByteArray.empty,.slice none 0 0].toArray Ty.api_Expr (0,0)),(bb2,.cells [.int .i64 10,.int .i64 arg,.bool neg,a.val,b.val,.string (txt name),s.val].toArray Ty.api_Expr (0,0))]∧IsE hx [.int .i64 op7,.int .i64 ar7,.bool ng7,nn7.val,dd7.val,.string (txt nm7),ss7.val] (nodeT 7 0 [mkL Q,nodeT 9 (arg-1) [.mk 10 arg neg l m name [k]]])) ?_ ?_⟩
  ·conv=>whnf
   repeat ((first|refine oI.z ?_|refine cI.z ?_);conv=>whnf)
   repeat' first|((first|(show LdN _ _ _ _ _;refine LdN.oA 3 rfl rfl ?_)|refine WN.i64 (by omega) (by omega) ?_|refine Ld.o 3 rfl rfl ?_|refine Sto.l 0 rfl rfl rfl ?_|refine DrN.run (by decide +kernel) ?_|refine ⟨fun _=>HasLe.o (by assumption),?_⟩|refine ⟨fun _=>HasLe.cons _,?_⟩|refine ⟨fun hst=>(by cases (show true=false from hst)),?_⟩|intro (_:Nat)) <;> (conv=>whnf))|(show CN _ _ _ _ _ _;first|(refine CN.keep 0 rfl rfl (fun hl5=>?_);refine CN.f rfl (node1_ct _ _ (by first|decide|exact ⟨by omega,by omega⟩) (by first|decide|exact ⟨by omega,by omega⟩) (IsE.mono (by assumption) (by (iterate 30 try first|assumption|refine Heap.lt ?_ (by assumption));first|done|assumption)) hl5) (fun v h' hl2 hr=>?_);obtain ⟨op9,ar9,ng9,nn9,dd9,nm9,ss9,rfl,hE9⟩:=hr;first|(refine ⟨fun _=>HasLe.keep (n:=0) rfl hl5 hl2,?_⟩;conv=>whnf)|(conv=>whnf))|(refine CN.keep 1 rfl rfl (fun hl5=>?_);refine CN.f rfl (node1_ct _ _ (by first|decide|exact ⟨by omega,by omega⟩) (by first|decide|exact ⟨by omega,by omega⟩) (IsE.mono (by assumption) (by (iterate 30 try first|assumption|refine Heap.lt ?_ (by assumption));first|done|assumption)) hl5) (fun v h' hl2 hr=>?_);obtain ⟨op9,ar9,ng9,nn9,dd9,nm9,ss9,rfl,hE9⟩:=hr;first|(refine ⟨fun _=>HasLe.keep (n:=1) rfl hl5 hl2,?_⟩;conv=>whnf)|(conv=>whnf))|(refine CN.keep 0 rfl rfl (fun hl5=>?_);refine CN.f rfl (node2_ct _ _ (by first|decide|exact ⟨by omega,by omega⟩) (by first|decide|exact ⟨by omega,by omega⟩) (IsE.mono (by assumption) (by (iterate 30 try first|assumption|refine Heap.lt ?_ (by assumption));first|done|assumption)) (IsE.mono (by assumption) (by first|assumption|exact Heap.lr _)) hl5) (fun v h' hl2 hr=>?_);obtain ⟨op9,ar9,ng9,nn9,dd9,nm9,ss9,rfl,hE9⟩:=hr;first|(refine ⟨fun _=>HasLe.keep (n:=0) rfl hl5 hl2,?_⟩;conv=>whnf)|(conv=>whnf))|(refine CN.keep 1 rfl rfl (fun hl5=>?_);refine CN.f rfl (node2_ct _ _ (by first|decide|exact ⟨by omega,by omega⟩) (by first|decide|exact ⟨by omega,by omega⟩) (IsE.mono (by assumption) (by (iterate 30 try first|assumption|refine Heap.lt ?_ (by assumption));first|done|assumption)) (IsE.mono (by assumption) (by first|assumption|exact Heap.lr _)) hl5) (fun v h' hl2 hr=>?_);obtain ⟨op9,ar9,ng9,nn9,dd9,nm9,ss9,rfl,hE9⟩:=hr;first|(refine ⟨fun _=>HasLe.keep (n:=1) rfl hl5 hl2,?_⟩;conv=>whnf)|(conv=>whnf))|(refine CN.f rfl (wN _) (fun v h' hl2 hr=>?_);obtain ⟨op8,ar8,ng8,nn8,dd8,nm8,ss8,rfl,hE8⟩:=hr;conv=>whnf))|(refine Both.mk ?_ ?_ <;> (conv=>whnf))
   all_goals exact ⟨rfl,_,op9,ar9,ng9,nn9,dd9,nm9,ss9,rfl,(by (iterate 30 try first|assumption|refine Heap.lt ?_ (by assumption));first|done|assumption),rfl,by assumption⟩
  conv=>whnf
  repeat intro _
  rename_i h4 L4 hJ
  obtain ⟨b7,op7,ar7,ng7,nn7,dd7,nm7,ss7,e7,hle4,rfl,hE7⟩:=hJ
  conv at e7=>lhs;whnf
  subst e7
  conv=>whnf
  repeat ((first|refine oI.z ?_|refine cI.z ?_);conv=>whnf)
  repeat' first|((first|(show LdN _ _ _ _ _;first|refine LdN.oA 0 rfl rfl ?_|refine LdN.oA 1 rfl rfl ?_|refine LdN.oA 3 rfl rfl ?_)|((first|refine oI.z ?_|refine cI.z ?_))|intro (_:Nat)|refine Sto.l 3 rfl rfl rfl ?_) <;> (conv=>whnf))|(show CN _ _ _ _ _ _;first|(refine CN.keep 0 rfl rfl (fun hl5=>?_);refine CN.f rfl (node2_ct _ _ (by first|decide|exact ⟨by omega,by omega⟩) (by first|decide|exact ⟨by omega,by omega⟩) (IsE.mono (by assumption) (by assumption)) (IsE.mono (by assumption) (by first|assumption|exact Heap.lr _)) hl5) (fun v h' hl2 hr=>?_);obtain ⟨op9,ar9,ng9,nn9,dd9,nm9,ss9,rfl,hE9⟩:=hr;first|(refine ⟨fun _=>HasLe.keep (n:=0) rfl hl5 hl2,?_⟩;conv=>whnf)|(conv=>whnf)))
  all_goals exact RN.a ⟨_,_,_,_,_,_,_,rfl,(by assumption)⟩
 ·obtain ⟨k,rfl⟩:∃k,ks=[k]:=by
   match ks,hn1 with
   | [k],_=>exact ⟨k,rfl⟩
  rw [okGs] at hoks
  rw [smTs] at hs2
  rw [show lowA 11=1 by decide] at n2
  rw [show highA 11=8 by decide] at n3
  have dc:=fun u h vs us2 w w2=>derivedCall_ct k u arg n2 n3 neg l m name h vs us2 w w2
  obtain ⟨bl1,off1,op1,ar1,ng1,nn1,dd1,nm1,ss1,hE1,hld1,hln1,hix1⟩:=hk.kidP 0 _ rfl
  have e1:=fun h vs w=>ih k (szT_kid (j:=0) rfl) h vs w hoks.1 hs2.1
  rw [if_neg (by decide),if_neg (by decide),derTs,derTs,nodeD]
  show Fn0 T _ _ _ fun v h'=>VE h' v (callD (.mk 11 arg neg l m name [k]) arg k (derT id nm k))
  obtain ⟨D1,hD1⟩:∃D,D=derT id nm k:=⟨_,rfl⟩
  simp only [← hD1] at e1 ⊢
  clear hD1
  have hkl:s.l=1:=hk.len
  refine f0C ok D.expr_derived rfl ?_
  conv=>whnf
  repeat ((first|refine oI.z ?_|refine cI.z ?_);conv=>whnf)
  repeat' first|((first|(show SeqN _ _ _ _ _ _ _;refine SeqN.go ?_)|(show LdN _ _ _ _ _;first|refine LdN.oA 0 rfl rfl ?_|refine LdN.oA 2 rfl rfl ?_|refine LdN.oA 3 rfl rfl ?_|(refine LdN.hasN [.int .i64 op1,.int .i64 ar1,.bool ng1,nn1.val,dd1.val,.string (txt nm1),ss1.val] rfl (fun i v hv=>hld1 _ _ i v (by first|assumption|exact Heap.lr _) hv) ?_))|refine hix1 _ _ rfl ?_|((first|refine oI.z ?_|refine cI.z ?_))|intro (_:Nat)|(show CN _ _ _ _ _ _;first|(refine CN.f rfl (e1 _ _ (hE1.mono (by first|assumption|exact Heap.lr _))) (fun v h' hl2 hr=>?_);obtain ⟨op3,ar3,ng3,nn3,dd3,nm3,ss3,rfl,hE3⟩:=hr)|(refine CN.f rfl (dc _ _ _ _ (w.mono (by assumption)) hE3) (fun v h' hl2 hr=>?_);obtain ⟨op9,ar9,ng9,nn9,dd9,nm9,ss9,rfl,hE9⟩:=hr))|(show Ld _ _ _ _;first|refine Ld.o 1 rfl rfl ?_|refine Ld.o 3 rfl rfl ?_)|(show Sto _ _ _ _;first|refine Sto.l 0 rfl rfl rfl ?_|refine Sto.l 2 rfl rfl rfl ?_)) <;> (conv=>whnf))|(refine cnd_eq (fun _=>?_) (fun _=>?_) <;> first|(exfalso;omega)|(conv=>whnf))
  all_goals exact RN.a ⟨_,_,_,_,_,_,_,rfl,(by assumption)⟩
 ·obtain ⟨k,k',rfl⟩:∃k k',ks=[k,k']:=by
   match ks,hn2 with
   | [k,k'],_=>exact ⟨k,k',rfl⟩
  rw [okGs,okGs] at hoks
  rw [smTs,smTs] at hs2
  obtain ⟨bl1,off1,op1,ar1,ng1,nn1,dd1,nm1,ss1,hE1,hld1,hln1,hix1⟩:=hk.kidP 0 _ rfl
  obtain ⟨bl2,off2,op2,ar2,ng2,nn2,dd2,nm2,ss2,hE2,hld2,hln2,hix2⟩:=hk.kidP 1 _ rfl
  have e1:=fun h vs w=>ih k (szT_kid (j:=0) rfl) h vs w hoks.1 hs2.1
  have e2:=fun h vs w=>ih k' (szT_kid (j:=1) rfl) h vs w hoks.2.1 hs2.2.1
  rw [if_neg (by decide),if_neg (by decide),derTs,derTs,derTs,nodeD]
  show Fn0 T _ _ _ fun v h'=>VE h' v (nodeT 5 0 [derT id nm k,derT id nm k'])
  obtain ⟨D1,hD1⟩:∃D,D=derT id nm k:=⟨_,rfl⟩
  obtain ⟨D2,hD2⟩:∃D,D=derT id nm k':=⟨_,rfl⟩
  simp only [← hD1] at e1 ⊢
  simp only [← hD2] at e2 ⊢
  clear hD1 hD2
  have hkl:s.l=2:=hk.len
  refine f0C ok D.expr_derived rfl ?_
  conv=>whnf
  repeat ((first|refine oI.z ?_|refine cI.z ?_);conv=>whnf)
  repeat' first|((first|(show SeqN _ _ _ _ _ _ _;refine SeqN.go ?_)|(show LdN _ _ _ _ _;first|refine LdN.oA 0 rfl rfl ?_|refine LdN.oA 2 rfl rfl ?_|refine LdN.oA 4 rfl rfl ?_|(refine LdN.hasN [.int .i64 op1,.int .i64 ar1,.bool ng1,nn1.val,dd1.val,.string (txt nm1),ss1.val] rfl (fun i v hv=>hld1 _ _ i v (by first|assumption|exact Heap.lr _) hv) ?_)|refine LdN.hasN [.int .i64 op2,.int .i64 ar2,.bool ng2,nn2.val,dd2.val,.string (txt nm2),ss2.val] rfl (fun i v hv=>hld2 _ _ i v (by assumption) hv) ?_)|refine hix1 _ _ rfl ?_|refine hix2 _ _ rfl ?_|((first|refine oI.z ?_|refine cI.z ?_))|intro (_:Nat)|(show Ld _ _ _ _;first|refine Ld.o 1 rfl rfl ?_|refine Ld.o 3 rfl rfl ?_|refine Ld.o 5 rfl rfl ?_)|(show Sto _ _ _ _;first|refine Sto.l 0 rfl rfl rfl ?_|refine Sto.l 4 rfl rfl rfl ?_)) <;> (conv=>whnf))|(show CN _ _ _ _ _ _;first|(refine CN.f rfl (e1 _ _ (hE1.mono (by first|assumption|exact Heap.lr _))) (fun v h' hl2 hr=>?_);obtain ⟨op3,ar3,ng3,nn3,dd3,nm3,ss3,rfl,hE3⟩:=hr;conv=>whnf)|(refine CN.f rfl (e2 _ _ (hE2.mono (by assumption))) (fun v h' hl2 hr=>?_);obtain ⟨op4,ar4,ng4,nn4,dd4,nm4,ss4,rfl,hE4⟩:=hr;conv=>whnf)|(refine CN.keep 0 rfl rfl (fun hl5=>?_);refine CN.f rfl (node2_ct _ _ (by first|decide|exact ⟨by omega,by omega⟩) (by first|decide|exact ⟨by omega,by omega⟩) (IsE.mono (by assumption) (by assumption)) (IsE.mono (by assumption) (by first|assumption|exact Heap.lr _)) hl5) (fun v h' hl2 hr=>?_);obtain ⟨op9,ar9,ng9,nn9,dd9,nm9,ss9,rfl,hE9⟩:=hr;first|(refine ⟨fun _=>HasLe.keep (n:=0) rfl hl5 hl2,?_⟩;conv=>whnf)|(conv=>whnf)))|(refine cnd_eq (fun _=>?_) (fun _=>?_) <;> first|(exfalso;omega)|(conv=>whnf))
  all_goals exact RN.a ⟨_,_,_,_,_,_,_,rfl,(by assumption)⟩
 ·obtain ⟨k,k',rfl⟩:∃k k',ks=[k,k']:=by
   match ks,hn2 with
   | [k,k'],_=>exact ⟨k,k',rfl⟩
  rw [okGs,okGs] at hoks
  rw [smTs,smTs] at hs2
  obtain ⟨bl1,off1,op1,ar1,ng1,nn1,dd1,nm1,ss1,hE1,hld1,hln1,hix1⟩:=hk.kidP 0 _ rfl
  obtain ⟨bl2,off2,op2,ar2,ng2,nn2,dd2,nm2,ss2,hE2,hld2,hln2,hix2⟩:=hk.kidP 1 _ rfl
  have e1:=fun h vs w=>ih k (szT_kid (j:=0) rfl) h vs w hoks.1 hs2.1
  have e2:=fun h vs w=>ih k' (szT_kid (j:=1) rfl) h vs w hoks.2.1 hs2.2.1
  rw [if_neg (by decide),if_neg (by decide),derTs,derTs,derTs,nodeD]
  show Fn0 T _ _ _ fun v h'=>VE h' v (nodeT 6 0 [derT id nm k,derT id nm k'])
  obtain ⟨D1,hD1⟩:∃D,D=derT id nm k:=⟨_,rfl⟩
  obtain ⟨D2,hD2⟩:∃D,D=derT id nm k':=⟨_,rfl⟩
  simp only [← hD1] at e1 ⊢
  simp only [← hD2] at e2 ⊢
  clear hD1 hD2
  have hkl:s.l=2:=hk.len
  refine f0C ok D.expr_derived rfl ?_
  conv=>whnf
  repeat ((first|refine oI.z ?_|refine cI.z ?_);conv=>whnf)
  repeat' first|((first|(show SeqN _ _ _ _ _ _ _;refine SeqN.go ?_)|(show LdN _ _ _ _ _;first|refine LdN.oA 0 rfl rfl ?_|refine LdN.oA 2 rfl rfl ?_|refine LdN.oA 4 rfl rfl ?_|(refine LdN.hasN [.int .i64 op1,.int .i64 ar1,.bool ng1,nn1.val,dd1.val,.string (txt nm1),ss1.val] rfl (fun i v hv=>hld1 _ _ i v (by first|assumption|exact Heap.lr _) hv) ?_)|refine LdN.hasN [.int .i64 op2,.int .i64 ar2,.bool ng2,nn2.val,dd2.val,.string (txt nm2),ss2.val] rfl (fun i v hv=>hld2 _ _ i v (by assumption) hv) ?_)|refine hix1 _ _ rfl ?_|refine hix2 _ _ rfl ?_|((first|refine oI.z ?_|refine cI.z ?_))|intro (_:Nat)|(show Ld _ _ _ _;first|refine Ld.o 1 rfl rfl ?_|refine Ld.o 3 rfl rfl ?_|refine Ld.o 5 rfl rfl ?_)|(show Sto _ _ _ _;first|refine Sto.l 0 rfl rfl rfl ?_|refine Sto.l 4 rfl rfl rfl ?_)) <;> (conv=>whnf))|(show CN _ _ _ _ _ _;first|(refine CN.f rfl (e1 _ _ (hE1.mono (by first|assumption|exact Heap.lr _))) (fun v h' hl2 hr=>?_);obtain ⟨op3,ar3,ng3,nn3,dd3,nm3,ss3,rfl,hE3⟩:=hr;conv=>whnf)|(refine CN.f rfl (e2 _ _ (hE2.mono (by assumption))) (fun v h' hl2 hr=>?_);obtain ⟨op4,ar4,ng4,nn4,dd4,nm4,ss4,rfl,hE4⟩:=hr;conv=>whnf)|(refine CN.keep 0 rfl rfl (fun hl5=>?_);refine CN.f rfl (node2_ct _ _ (by first|decide|exact ⟨by omega,by omega⟩) (by first|decide|exact ⟨by omega,by omega⟩) (IsE.mono (by assumption) (by assumption)) (IsE.mono (by assumption) (by first|assumption|exact Heap.lr _)) hl5) (fun v h' hl2 hr=>?_);obtain ⟨op9,ar9,ng9,nn9,dd9,nm9,ss9,rfl,hE9⟩:=hr;first|(refine ⟨fun _=>HasLe.keep (n:=0) rfl hl5 hl2,?_⟩;conv=>whnf)|(conv=>whnf)))|(refine cnd_eq (fun _=>?_) (fun _=>?_) <;> first|(exfalso;omega)|(conv=>whnf))
  all_goals exact RN.a ⟨_,_,_,_,_,_,_,rfl,(by assumption)⟩
 ·obtain ⟨k,k',rfl⟩:∃k k',ks=[k,k']:=by
   match ks,hn2 with
   | [k,k'],_=>exact ⟨k,k',rfl⟩
  rw [okGs,okGs] at hoks
  rw [smTs,smTs] at hs2
  obtain ⟨bl1,off1,op1,ar1,ng1,nn1,dd1,nm1,ss1,hE1,hld1,hln1,hix1⟩:=hk.kidP 0 _ rfl
  obtain ⟨bl2,off2,op2,ar2,ng2,nn2,dd2,nm2,ss2,hE2,hld2,hln2,hix2⟩:=hk.kidP 1 _ rfl
  have e1:=fun h vs w=>ih k (szT_kid (j:=0) rfl) h vs w hoks.1 hs2.1
  have e2:=fun h vs w=>ih k' (szT_kid (j:=1) rfl) h vs w hoks.2.1 hs2.2.1
  rw [if_neg (by decide),if_neg (by decide),derTs,derTs,derTs,nodeD]
  show Fn0 T _ _ _ fun v h'=>VE h' v (nodeT 5 0 [nodeT 7 0 [derT id nm k,k'],nodeT 7 0 [k,derT id nm k']])
  obtain ⟨D1,hD1⟩:∃D,D=derT id nm k:=⟨_,rfl⟩
  obtain ⟨D2,hD2⟩:∃D,D=derT id nm k':=⟨_,rfl⟩
  simp only [← hD1] at e1 ⊢
  simp only [← hD2] at e2 ⊢
  clear hD1 hD2
  have hkl:s.l=2:=hk.len
  refine f0C ok D.expr_derived rfl ?_
  conv=>whnf
  repeat ((first|refine oI.z ?_|refine cI.z ?_);conv=>whnf)
  repeat' first|((first|(show SeqN _ _ _ _ _ _ _;refine SeqN.go ?_)|(show LdN _ _ _ _ _;first|refine LdN.oA 0 rfl rfl ?_|(refine LdN.hasN [.int .i64 op1,.int .i64 ar1,.bool ng1,nn1.val,dd1.val,.string (txt nm1),ss1.val] rfl (fun i v hv=>hld1 _ _ i v (by first|assumption|exact Heap.lr _) hv) ?_)|refine LdN.hasN [.int .i64 op2,.int .i64 ar2,.bool ng2,nn2.val,dd2.val,.string (txt nm2),ss2.val] rfl (fun i v hv=>hld2 _ _ i v (by assumption) hv) ?_)|(show CN _ _ _ _ _ _;first|(refine CN.f rfl (e1 _ _ (hE1.mono (by first|assumption|exact Heap.lr _))) (fun v h' hl2 hr=>?_);obtain ⟨op3,ar3,ng3,nn3,dd3,nm3,ss3,rfl,hE3⟩:=hr)|(refine CN.f rfl (e2 _ _ (hE2.mono (by assumption))) (fun v h' hl2 hr=>?_);obtain ⟨op4,ar4,ng4,nn4,dd4,nm4,ss4,rfl,hE4⟩:=hr))|(show Ld _ _ _ _;first|refine Ld.o 1 rfl rfl ?_|refine Ld.o 3 rfl rfl ?_|refine Ld.o 5 rfl rfl ?_)|refine Sto.l 0 rfl rfl rfl ?_) <;> (conv=>whnf))|(refine hix1 _ _ rfl ?_;conv=>whnf)|(refine hix2 _ _ rfl ?_;conv=>whnf)|(refine cI.stop 27 ?_)|((first|refine oI.z ?_|refine cI.z ?_);conv=>whnf)|(intro (_:Nat);conv=>whnf)|(refine cnd_eq (fun _=>?_) (fun _=>?_) <;> first|(exfalso;omega)|(conv=>whnf))
  rename_i bb2 bb4 y1 y2 y3 bb5 y31 y32 bb6 y4 y5 y6 y7 bb8 bb9 y8 y9
  refine ⟨SeqN.cut (fun ρ hx Lx=>∃(b10 b11:Nat) (op7 ar7:Int) (ng7:Bool) (nn7 dd7:Sl) (nm7:List Nat) (ss7:Sl) (op8 ar8:Int) (ng8:Bool) (nn8 dd8:Sl) (nm8:List Nat) (ss8:Sl),rd ρ 10=.pointer (some ⟨b10,0,none⟩)∧rd ρ 11=.pointer (some ⟨b11,0,none⟩)∧h'.le hx∧(Lx=(b10,.cells [.int .i64 op7,.int .i64 ar7,.bool ng7,nn7.val,dd7.val,.string (txt nm7),ss7.val].toArray Ty.api_Expr (0,0))::(b11,.cells [.int .i64 op8,.int .i64 ar8,.bool ng8,nn8.val,dd8.val,.string (txt nm8),ss8.val].toArray Ty.api_Expr (0,0))::[(bb9,.cells [.int .i64 op4,.int .i64 ar4,.bool ng4,nn4.val,dd4.val,.string (txt nm4),ss4.val].toArray Ty.api_Expr (0,0)),(bb8,.cells [.int .i64 op2,.int .i64 ar2,.bool ng2,nn2.val,dd2.val,.string (txt nm2),ss2.val].toArray Ty.api_Expr (0,0)),(bb6,.cells [.int .i64 op3,.int .i64 ar3,.bool ng3,nn3.val,dd3.val,.string (txt nm3),ss3.val].toArray Ty.api_Expr (0,0)),(bb5,.cells [.int .i64 op1,.int .i64 ar1,.bool ng1,nn1.val,dd1.val,.string (txt nm1),ss1.val].toArray Ty.api_Expr (0,0)),(bb4,.cells [.int .i64 0,.int .i64 0,.bool false,.slice none 0 0,.slice none 0 0,.string ByteArray.empty,.slice none 0 0].toArray Ty.api_Expr (0,0)),(bb2,.cells [.int .i64 7,.int .i64 arg,.bool neg,a.val,b.val,.string (txt name),s.val].toArray Ty.api_Expr (0,0))]∨Lx=(b11,.cells [.int .i64 op8,.int .i64 ar8,.bool ng8,nn8.val,dd8.val,.string (txt nm8),ss8.val].toArray Ty.api_Expr (0,0))::(b10,.cells [.int .i64 op7,.int .i64 ar7,.bool ng7,nn7.val,dd7.val,.string (txt nm7),ss7.val].toArray Ty.api_Expr (0,0))::[(bb9,.cells [.int .i64 op4,.int .i64 ar4,.bool ng4,nn4.val,dd4.val,.string (txt nm4),ss4.val].toArray Ty.api_Expr (0,0)),(bb8,.cells [.int .i64 op2,.int .i64 ar2,.bool ng2,nn2.val,dd2.val,.string (txt nm2),ss2.val].toArray Ty.api_Expr (0,0)),(bb6,.cells [.int .i64 op3,.int .i64 ar3,.bool ng3,nn3.val,dd3.val,.string (txt nm3),ss3.val].toArray Ty.api_Expr (0,0)),(bb5,.cells [.int .i64 op1,.int .i64 ar1,.bool ng1,nn1.val,dd1.val,.string (txt nm1),ss1.val].toArray Ty.api_Expr (0,0)),(bb4,.cells [.int .i64 0,.int .i64 0,.bool false,.slice none 0 0,.slice none 0 0,.string ByteArray.empty,.slice none 0 0].toArray Ty.api_Expr (0,0)),(bb2,.cells [.int .i64 7,.int .i64 arg,.bool neg,a.val,b.val,.string (txt name),s.val].toArray Ty.api_Expr (0,0))])∧IsE hx [.int .i64 op7,.int .i64 ar7,.bool ng7,nn7.val,dd7.val,.string (txt nm7),ss7.val] (nodeT 7 0 [D1,k'])∧IsE hx [.int .i64 op8,.int .i64 ar8,.bool ng8,nn8.val,dd8.val,.string (txt nm8),ss8.val] (nodeT 7 0 [k,D2])) ?_ ?_⟩
  ·conv=>whnf
   repeat ((first|refine oI.z ?_|refine cI.z ?_);conv=>whnf)
   repeat' first|((first|(show LdN _ _ _ _ _;first|refine LdN.oA 0 rfl rfl ?_|refine LdN.oA 1 rfl rfl ?_|refine LdN.oA 2 rfl rfl ?_|refine LdN.oA 3 rfl rfl ?_)|(show Sto _ _ _ _;first|refine Sto.l 0 rfl rfl rfl ?_|refine Sto.l 1 rfl rfl rfl ?_)|refine DrN.run (by decide +kernel) ?_|refine ⟨fun _=>HasLe.cons _,?_⟩|refine ⟨fun hst=>(by cases (show true=false from hst)),?_⟩|intro (_:Nat)) <;> (conv=>whnf))|(show CN _ _ _ _ _ _;first|(refine CN.keep 0 rfl rfl (fun hl5=>?_);refine CN.f rfl (node2_ct _ _ (by first|decide|exact ⟨by omega,by omega⟩) (by first|decide|exact ⟨by omega,by omega⟩) (IsE.mono (by assumption) (by (iterate 30 try first|assumption|refine Heap.lt ?_ (by assumption));first|done|assumption)) (IsE.mono (by assumption) (by (iterate 30 try first|assumption|refine Heap.lt ?_ (by assumption));first|done|assumption)) hl5) (fun v h' hl2 hr=>?_);obtain ⟨op9,ar9,ng9,nn9,dd9,nm9,ss9,rfl,hE9⟩:=hr;first|(refine ⟨fun _=>HasLe.keep (n:=0) rfl hl5 hl2,?_⟩;conv=>whnf)|(conv=>whnf))|(refine CN.keep 1 rfl rfl (fun hl5=>?_);refine CN.f rfl (node2_ct _ _ (by first|decide|exact ⟨by omega,by omega⟩) (by first|decide|exact ⟨by omega,by omega⟩) (IsE.mono (by assumption) (by (iterate 30 try first|assumption|refine Heap.lt ?_ (by assumption));first|done|assumption)) (IsE.mono (by assumption) (by (iterate 30 try first|assumption|refine Heap.lt ?_ (by assumption));first|done|assumption)) hl5) (fun v h' hl2 hr=>?_);obtain ⟨op9,ar9,ng9,nn9,dd9,nm9,ss9,rfl,hE9⟩:=hr;first|(refine ⟨fun _=>HasLe.keep (n:=1) rfl hl5 hl2,?_⟩;conv=>whnf)|(conv=>whnf))|(refine CN.keep 2 rfl rfl (fun hl5=>?_);refine CN.f rfl (node2_ct _ _ (by first|decide|exact ⟨by omega,by omega⟩) (by first|decide|exact ⟨by omega,by omega⟩) (IsE.mono (by assumption) (by (iterate 30 try first|assumption|refine Heap.lt ?_ (by assumption));first|done|assumption)) (IsE.mono (by assumption) (by (iterate 30 try first|assumption|refine Heap.lt ?_ (by assumption));first|done|assumption)) hl5) (fun v h' hl2 hr=>?_);obtain ⟨op9,ar9,ng9,nn9,dd9,nm9,ss9,rfl,hE9⟩:=hr;first|(refine ⟨fun _=>HasLe.keep (n:=2) rfl hl5 hl2,?_⟩;conv=>whnf)|(conv=>whnf))|(refine CN.keep 3 rfl rfl (fun hl5=>?_);refine CN.f rfl (node2_ct _ _ (by first|decide|exact ⟨by omega,by omega⟩) (by first|decide|exact ⟨by omega,by omega⟩) (IsE.mono (by assumption) (by assumption)) (IsE.mono (by assumption) (by (iterate 30 try first|assumption|refine Heap.lt ?_ (by assumption));first|done|assumption)) hl5) (fun v h' hl2 hr=>?_);obtain ⟨op9,ar9,ng9,nn9,dd9,nm9,ss9,rfl,hE9⟩:=hr;first|(refine ⟨fun _=>HasLe.keep (n:=3) rfl hl5 hl2,?_⟩;conv=>whnf)|(conv=>whnf)))|(refine Both.mk ?_ ?_ <;> (conv=>whnf))
   all_goals first
    | exact ⟨rfl,_,_,_,_,_,_,_,_,_,_,_,_,_,_,_,_,rfl,rfl,(by (iterate 30 try first|assumption|refine Heap.lt ?_ (by assumption));first|done|assumption),.inl rfl,(IsE.mono (by assumption) (by (iterate 30 try first|assumption|refine Heap.lt ?_ (by assumption));first|done|assumption)),(IsE.mono (by assumption) (by first|assumption|exact Heap.lr _))⟩
    | exact ⟨rfl,_,_,_,_,_,_,_,_,_,_,_,_,_,_,_,_,rfl,rfl,(by (iterate 30 try first|assumption|refine Heap.lt ?_ (by assumption));first|done|assumption),.inr rfl,(IsE.mono (by assumption) (by (iterate 30 try first|assumption|refine Heap.lt ?_ (by assumption));first|done|assumption)),(IsE.mono (by assumption) (by first|assumption|exact Heap.lr _))⟩
  conv=>whnf
  repeat intro _
  rename_i h4 L4 hJ
  obtain ⟨b10,b11,op7,ar7,ng7,nn7,dd7,nm7,ss7,op8,ar8,ng8,nn8,dd8,nm8,ss8,e10,e11,hle4,rfl|rfl,hE7,hE8⟩:=hJ
  ·skip
   conv at e10=>lhs;whnf
   subst e10
   conv at e11=>lhs;whnf
   subst e11
   conv=>whnf
   repeat ((first|refine oI.z ?_|refine cI.z ?_);conv=>whnf)
   repeat' first|((first|(show LdN _ _ _ _ _;first|refine LdN.oA 0 rfl rfl ?_|refine LdN.oA 1 rfl rfl ?_|refine LdN.oA 6 rfl rfl ?_)|((first|refine oI.z ?_|refine cI.z ?_))|intro (_:Nat)|refine Ld.o 7 rfl rfl ?_|refine Sto.l 6 rfl rfl rfl ?_) <;> (conv=>whnf))|(show CN _ _ _ _ _ _;first|(refine CN.keep 0 rfl rfl (fun hl5=>?_);refine CN.f rfl (node2_ct _ _ (by first|decide|exact ⟨by omega,by omega⟩) (by first|decide|exact ⟨by omega,by omega⟩) (IsE.mono (by assumption) (by first|assumption|exact Heap.lr _)) (IsE.mono (by assumption) (by first|assumption|exact Heap.lr _)) hl5) (fun v h' hl2 hr=>?_);obtain ⟨op9,ar9,ng9,nn9,dd9,nm9,ss9,rfl,hE9⟩:=hr;first|(refine ⟨fun _=>HasLe.keep (n:=0) rfl hl5 hl2,?_⟩;conv=>whnf)|(conv=>whnf)))|(refine cnd_eq (fun _=>?_) (fun _=>?_) <;> first|(exfalso;omega)|(conv=>whnf))
   all_goals exact RN.a ⟨_,_,_,_,_,_,_,rfl,(by assumption)⟩
  ·skip
   conv at e10=>lhs;whnf
   subst e10
   conv at e11=>lhs;whnf
   subst e11
   conv=>whnf
   repeat ((first|refine oI.z ?_|refine cI.z ?_);conv=>whnf)
   repeat' first|((first|(show LdN _ _ _ _ _;first|refine LdN.oA 0 rfl rfl ?_|refine LdN.oA 1 rfl rfl ?_|refine LdN.oA 6 rfl rfl ?_)|((first|refine oI.z ?_|refine cI.z ?_))|intro (_:Nat)|refine Ld.o 7 rfl rfl ?_|refine Sto.l 6 rfl rfl rfl ?_) <;> (conv=>whnf))|(show CN _ _ _ _ _ _;first|(refine CN.keep 0 rfl rfl (fun hl5=>?_);refine CN.f rfl (node2_ct _ _ (by first|decide|exact ⟨by omega,by omega⟩) (by first|decide|exact ⟨by omega,by omega⟩) (IsE.mono (by assumption) (by first|assumption|exact Heap.lr _)) (IsE.mono (by assumption) (by first|assumption|exact Heap.lr _)) hl5) (fun v h' hl2 hr=>?_);obtain ⟨op9,ar9,ng9,nn9,dd9,nm9,ss9,rfl,hE9⟩:=hr;first|(refine ⟨fun _=>HasLe.keep (n:=0) rfl hl5 hl2,?_⟩;conv=>whnf)|(conv=>whnf)))|(refine cnd_eq (fun _=>?_) (fun _=>?_) <;> first|(exfalso;omega)|(conv=>whnf))
   all_goals exact RN.a ⟨_,_,_,_,_,_,_,rfl,(by assumption)⟩
 ·obtain ⟨k,k',rfl⟩:∃k k',ks=[k,k']:=by
   match ks,hn2 with
   | [k,k'],_=>exact ⟨k,k',rfl⟩
  rw [okGs,okGs] at hoks
  rw [smTs,smTs] at hs2
  obtain ⟨bl1,off1,op1,ar1,ng1,nn1,dd1,nm1,ss1,hE1,hld1,hln1,hix1⟩:=hk.kidP 0 _ rfl
  obtain ⟨bl2,off2,op2,ar2,ng2,nn2,dd2,nm2,ss2,hE2,hld2,hln2,hix2⟩:=hk.kidP 1 _ rfl
  have e1:=fun h vs w=>ih k (szT_kid (j:=0) rfl) h vs w hoks.1 hs2.1
  have e2:=fun h vs w=>ih k' (szT_kid (j:=1) rfl) h vs w hoks.2.1 hs2.2.1
  rw [if_neg (by decide),if_neg (by decide),derTs,derTs,derTs,nodeD]
  show Fn0 T _ _ _ fun v h'=>VE h' v (nodeT 8 0 [nodeT 6 0 [nodeT 7 0 [derT id nm k,k'],nodeT 7 0 [k,derT id nm k']],nodeT 9 2 [k']])
  obtain ⟨D1,hD1⟩:∃D,D=derT id nm k:=⟨_,rfl⟩
  obtain ⟨D2,hD2⟩:∃D,D=derT id nm k':=⟨_,rfl⟩
  simp only [← hD1] at e1 ⊢
  simp only [← hD2] at e2 ⊢
  clear hD1 hD2
  have hkl:s.l=2:=hk.len
  refine f0C ok D.expr_derived rfl ?_
  conv=>whnf
  repeat ((first|refine oI.z ?_|refine cI.z ?_);conv=>whnf)
  repeat' first|((first|(show SeqN _ _ _ _ _ _ _;refine SeqN.go ?_)|(show LdN _ _ _ _ _;first|refine LdN.oA 0 rfl rfl ?_|(refine LdN.hasN [.int .i64 op1,.int .i64 ar1,.bool ng1,nn1.val,dd1.val,.string (txt nm1),ss1.val] rfl (fun i v hv=>hld1 _ _ i v (by first|assumption|exact Heap.lr _) hv) ?_)|refine LdN.hasN [.int .i64 op2,.int .i64 ar2,.bool ng2,nn2.val,dd2.val,.string (txt nm2),ss2.val] rfl (fun i v hv=>hld2 _ _ i v (by assumption) hv) ?_)|(show CN _ _ _ _ _ _;first|(refine CN.f rfl (e1 _ _ (hE1.mono (by first|assumption|exact Heap.lr _))) (fun v h' hl2 hr=>?_);obtain ⟨op3,ar3,ng3,nn3,dd3,nm3,ss3,rfl,hE3⟩:=hr)|(refine CN.f rfl (e2 _ _ (hE2.mono (by assumption))) (fun v h' hl2 hr=>?_);obtain ⟨op4,ar4,ng4,nn4,dd4,nm4,ss4,rfl,hE4⟩:=hr))|(show Ld _ _ _ _;first|refine Ld.o 1 rfl rfl ?_|refine Ld.o 3 rfl rfl ?_|refine Ld.o 5 rfl rfl ?_)|refine Sto.l 0 rfl rfl rfl ?_) <;> (conv=>whnf))|(refine hix1 _ _ rfl ?_;conv=>whnf)|(refine hix2 _ _ rfl ?_;conv=>whnf)|(refine cI.stop 27 ?_)|((first|refine oI.z ?_|refine cI.z ?_);conv=>whnf)|(intro (_:Nat);conv=>whnf)|(refine cnd_eq (fun _=>?_) (fun _=>?_) <;> first|(exfalso;omega)|(conv=>whnf))
  rename_i bb2 bb4 y1 y2 y3 bb5 y31 y32 bb6 y4 y5 y6 y7 bb8 bb9 y8 y9
  refine ⟨SeqN.cut (fun ρ hx Lx=>∃(b10 b11:Nat) (op7 ar7:Int) (ng7:Bool) (nn7 dd7:Sl) (nm7:List Nat) (ss7:Sl) (op8 ar8:Int) (ng8:Bool) (nn8 dd8:Sl) (nm8:List Nat) (ss8:Sl),rd ρ 10=.pointer (some ⟨b10,0,none⟩)∧rd ρ 11=.pointer (some ⟨b11,0,none⟩)∧h'.le hx∧(Lx=(b10,.cells [.int .i64 op7,.int .i64 ar7,.bool ng7,nn7.val,dd7.val,.string (txt nm7),ss7.val].toArray Ty.api_Expr (0,0))::(b11,.cells [.int .i64 op8,.int .i64 ar8,.bool ng8,nn8.val,dd8.val,.string (txt nm8),ss8.val].toArray Ty.api_Expr (0,0))::[(bb9,.cells [.int .i64 op4,.int .i64 ar4,.bool ng4,nn4.val,dd4.val,.string (txt nm4),ss4.val].toArray Ty.api_Expr (0,0)),(bb8,.cells [.int .i64 op2,.int .i64 ar2,.bool ng2,nn2.val,dd2.val,.string (txt nm2),ss2.val].toArray Ty.api_Expr (0,0)),(bb6,.cells [.int .i64 op3,.int .i64 ar3,.bool ng3,nn3.val,dd3.val,.string (txt nm3),ss3.val].toArray Ty.api_Expr (0,0)),(bb5,.cells [.int .i64 op1,.int .i64 ar1,.bool ng1,nn1.val,dd1.val,.string (txt nm1),ss1.val].toArray Ty.api_Expr (0,0)),(bb4,.cells [.int .i64 0,.int .i64 0,.bool false,.slice none 0 0,.slice none 0 0,.string ByteArray.empty,.slice none 0 0].toArray Ty.api_Expr (0,0)),(bb2,.cells [.int .i64 8,.int .i64 arg,.bool neg,a.val,b.val,.string (txt name),s.val].toArray Ty.api_Expr (0,0))]∨Lx=(b11,.cells [.int .i64 op8,.int .i64 ar8,.bool ng8,nn8.val,dd8.val,.string (txt nm8),ss8.val].toArray Ty.api_Expr (0,0))::(b10,.cells [.int .i64 op7,.int .i64 ar7,.bool ng7,nn7.val,dd7.val,.string (txt nm7),ss7.val].toArray Ty.api_Expr (0,0))::[(bb9,.cells [.int .i64 op4,.int .i64 ar4,.bool ng4,nn4.val,dd4.val,.string (txt nm4),ss4.val].toArray Ty.api_Expr (0,0)),(bb8,.cells [.int .i64 op2,.int .i64 ar2,.bool ng2,nn2.val,dd2.val,.string (txt nm2),ss2.val].toArray Ty.api_Expr (0,0)),(bb6,.cells [.int .i64 op3,.int .i64 ar3,.bool ng3,nn3.val,dd3.val,.string (txt nm3),ss3.val].toArray Ty.api_Expr (0,0)),(bb5,.cells [.int .i64 op1,.int .i64 ar1,.bool ng1,nn1.val,dd1.val,.string (txt nm1),ss1.val].toArray Ty.api_Expr (0,0)),(bb4,.cells [.int .i64 0,.int .i64 0,.bool false,.slice none 0 0,.slice none 0 0,.string ByteArray.empty,.slice none 0 0].toArray Ty.api_Expr (0,0)),(bb2,.cells [.int .i64 8,.int .i64 arg,.bool neg,a.val,b.val,.string (txt name),s.val].toArray Ty.api_Expr (0,0))])∧IsE hx [.int .i64 op7,.int .i64 ar7,.bool ng7,nn7.val,dd7.val,.string (txt nm7),ss7.val] (nodeT 7 0 [D1,k'])∧IsE hx [.int .i64 op8,.int .i64 ar8,.bool ng8,nn8.val,dd8.val,.string (txt nm8),ss8.val] (nodeT 7 0 [k,D2])) ?_ ?_⟩
  ·conv=>whnf
   repeat ((first|refine oI.z ?_|refine cI.z ?_);conv=>whnf)
   repeat' first|((first|(show LdN _ _ _ _ _;first|refine LdN.oA 0 rfl rfl ?_|refine LdN.oA 1 rfl rfl ?_|refine LdN.oA 2 rfl rfl ?_|refine LdN.oA 3 rfl rfl ?_)|(show Sto _ _ _ _;first|refine Sto.l 0 rfl rfl rfl ?_|refine Sto.l 1 rfl rfl rfl ?_)|refine DrN.run (by decide +kernel) ?_|refine ⟨fun _=>HasLe.cons _,?_⟩|refine ⟨fun hst=>(by cases (show true=false from hst)),?_⟩|intro (_:Nat)) <;> (conv=>whnf))|(show CN _ _ _ _ _ _;first|(refine CN.keep 0 rfl rfl (fun hl5=>?_);refine CN.f rfl (node2_ct _ _ (by first|decide|exact ⟨by omega,by omega⟩) (by first|decide|exact ⟨by omega,by omega⟩) (IsE.mono (by assumption) (by (iterate 30 try first|assumption|refine Heap.lt ?_ (by assumption));first|done|assumption)) (IsE.mono (by assumption) (by (iterate 30 try first|assumption|refine Heap.lt ?_ (by assumption));first|done|assumption)) hl5) (fun v h' hl2 hr=>?_);obtain ⟨op9,ar9,ng9,nn9,dd9,nm9,ss9,rfl,hE9⟩:=hr;first|(refine ⟨fun _=>HasLe.keep (n:=0) rfl hl5 hl2,?_⟩;conv=>whnf)|(conv=>whnf))|(refine CN.keep 1 rfl rfl (fun hl5=>?_);refine CN.f rfl (node2_ct _ _ (by first|decide|exact ⟨by omega,by omega⟩) (by first|decide|exact ⟨by omega,by omega⟩) (IsE.mono (by assumption) (by (iterate 30 try first|assumption|refine Heap.lt ?_ (by assumption));first|done|assumption)) (IsE.mono (by assumption) (by (iterate 30 try first|assumption|refine Heap.lt ?_ (by assumption));first|done|assumption)) hl5) (fun v h' hl2 hr=>?_);obtain ⟨op9,ar9,ng9,nn9,dd9,nm9,ss9,rfl,hE9⟩:=hr;first|(refine ⟨fun _=>HasLe.keep (n:=1) rfl hl5 hl2,?_⟩;conv=>whnf)|(conv=>whnf))|(refine CN.keep 2 rfl rfl (fun hl5=>?_);refine CN.f rfl (node2_ct _ _ (by first|decide|exact ⟨by omega,by omega⟩) (by first|decide|exact ⟨by omega,by omega⟩) (IsE.mono (by assumption) (by (iterate 30 try first|assumption|refine Heap.lt ?_ (by assumption));first|done|assumption)) (IsE.mono (by assumption) (by (iterate 30 try first|assumption|refine Heap.lt ?_ (by assumption));first|done|assumption)) hl5) (fun v h' hl2 hr=>?_);obtain ⟨op9,ar9,ng9,nn9,dd9,nm9,ss9,rfl,hE9⟩:=hr;first|(refine ⟨fun _=>HasLe.keep (n:=2) rfl hl5 hl2,?_⟩;conv=>whnf)|(conv=>whnf))|(refine CN.keep 3 rfl rfl (fun hl5=>?_);refine CN.f rfl (node2_ct _ _ (by first|decide|exact ⟨by omega,by omega⟩) (by first|decide|exact ⟨by omega,by omega⟩) (IsE.mono (by assumption) (by assumption)) (IsE.mono (by assumption) (by (iterate 30 try first|assumption|refine Heap.lt ?_ (by assumption));first|done|assumption)) hl5) (fun v h' hl2 hr=>?_);obtain ⟨op9,ar9,ng9,nn9,dd9,nm9,ss9,rfl,hE9⟩:=hr;first|(refine ⟨fun _=>HasLe.keep (n:=3) rfl hl5 hl2,?_⟩;conv=>whnf)|(conv=>whnf)))|(refine Both.mk ?_ ?_ <;> (conv=>whnf))
   all_goals first
    | exact ⟨rfl,_,_,_,_,_,_,_,_,_,_,_,_,_,_,_,_,rfl,rfl,(by (iterate 30 try first|assumption|refine Heap.lt ?_ (by assumption));first|done|assumption),.inl rfl,(IsE.mono (by assumption) (by (iterate 30 try first|assumption|refine Heap.lt ?_ (by assumption));first|done|assumption)),(IsE.mono (by assumption) (by first|assumption|exact Heap.lr _))⟩
    | exact ⟨rfl,_,_,_,_,_,_,_,_,_,_,_,_,_,_,_,_,rfl,rfl,(by (iterate 30 try first|assumption|refine Heap.lt ?_ (by assumption));first|done|assumption),.inr rfl,(IsE.mono (by assumption) (by (iterate 30 try first|assumption|refine Heap.lt ?_ (by assumption));first|done|assumption)),(IsE.mono (by assumption) (by first|assumption|exact Heap.lr _))⟩
  conv=>whnf
  repeat intro _
  rename_i h4 L4 hJ
  obtain ⟨b10,b11,op7,ar7,ng7,nn7,dd7,nm7,ss7,op8,ar8,ng8,nn8,dd8,nm8,ss8,e10,e11,hle4,rfl|rfl,hE7,hE8⟩:=hJ
  ·skip
   conv at e10=>lhs;whnf
   subst e10
   conv at e11=>lhs;whnf
   subst e11
   conv=>whnf
   repeat ((first|refine oI.z ?_|refine cI.z ?_);conv=>whnf)
   repeat' first|((first|(show LdN _ _ _ _ _;first|refine LdN.oA 0 rfl rfl ?_|refine LdN.oA 1 rfl rfl ?_|refine LdN.oA 3 rfl rfl ?_|refine LdN.oA 6 rfl rfl ?_)|((first|refine oI.z ?_|refine cI.z ?_))|refine ⟨fun _=>HasLe.cons _,?_⟩|refine ⟨fun hst=>(by cases (show true=false from hst)),?_⟩|intro (_:Nat)|refine Ld.o 7 rfl rfl ?_|refine Sto.l 6 rfl rfl rfl ?_|refine DrN.run (by decide +kernel) ?_) <;> (conv=>whnf))|(show CN _ _ _ _ _ _;first|(refine CN.keep 0 rfl rfl (fun hl5=>?_);refine CN.f rfl (node1_ct _ _ (by first|decide|exact ⟨by omega,by omega⟩) (by first|decide|exact ⟨by omega,by omega⟩) (IsE.mono (by assumption) (by (iterate 30 try first|assumption|refine Heap.lt ?_ (by assumption));first|done|assumption)) hl5) (fun v h' hl2 hr=>?_);obtain ⟨op9,ar9,ng9,nn9,dd9,nm9,ss9,rfl,hE9⟩:=hr;first|(refine ⟨fun _=>HasLe.keep (n:=0) rfl hl5 hl2,?_⟩;conv=>whnf)|(conv=>whnf))|(refine CN.keep 0 rfl rfl (fun hl5=>?_);refine CN.f rfl (node2_ct _ _ (by first|decide|exact ⟨by omega,by omega⟩) (by first|decide|exact ⟨by omega,by omega⟩) (IsE.mono (by assumption) (by (iterate 30 try first|assumption|exact Heap.lr _|refine Heap.lt ?_ (by assumption));first|done|assumption)) (IsE.mono (by assumption) (by first|assumption|exact Heap.lr _)) hl5) (fun v h' hl2 hr=>?_);obtain ⟨op9,ar9,ng9,nn9,dd9,nm9,ss9,rfl,hE9⟩:=hr;first|(refine ⟨fun _=>HasLe.keep (n:=0) rfl hl5 hl2,?_⟩;conv=>whnf)|(conv=>whnf))|(refine CN.keep 1 rfl rfl (fun hl5=>?_);refine CN.f rfl (node2_ct _ _ (by first|decide|exact ⟨by omega,by omega⟩) (by first|decide|exact ⟨by omega,by omega⟩) (IsE.mono (by assumption) (by first|assumption|exact Heap.lr _)) (IsE.mono (by assumption) (by first|assumption|exact Heap.lr _)) hl5) (fun v h' hl2 hr=>?_);obtain ⟨op9,ar9,ng9,nn9,dd9,nm9,ss9,rfl,hE9⟩:=hr;first|(refine ⟨fun _=>HasLe.keep (n:=1) rfl hl5 hl2,?_⟩;conv=>whnf)|(conv=>whnf)))|(refine cnd_eq (fun _=>?_) (fun _=>?_) <;> first|(exfalso;omega)|(conv=>whnf))|(refine Both.mk ?_ ?_ <;> (conv=>whnf))
   all_goals exact RN.a ⟨_,_,_,_,_,_,_,rfl,(by assumption)⟩
  ·skip
   conv at e10=>lhs;whnf
   subst e10
   conv at e11=>lhs;whnf
   subst e11
   conv=>whnf
   repeat ((first|refine oI.z ?_|refine cI.z ?_);conv=>whnf)
   repeat' first|((first|(show LdN _ _ _ _ _;first|refine LdN.oA 0 rfl rfl ?_|refine LdN.oA 1 rfl rfl ?_|refine LdN.oA 3 rfl rfl ?_|refine LdN.oA 6 rfl rfl ?_)|((first|refine oI.z ?_|refine cI.z ?_))|refine ⟨fun _=>HasLe.cons _,?_⟩|refine ⟨fun hst=>(by cases (show true=false from hst)),?_⟩|intro (_:Nat)|refine Ld.o 7 rfl rfl ?_|refine Sto.l 6 rfl rfl rfl ?_|refine DrN.run (by decide +kernel) ?_) <;> (conv=>whnf))|(show CN _ _ _ _ _ _;first|(refine CN.keep 0 rfl rfl (fun hl5=>?_);refine CN.f rfl (node1_ct _ _ (by first|decide|exact ⟨by omega,by omega⟩) (by first|decide|exact ⟨by omega,by omega⟩) (IsE.mono (by assumption) (by (iterate 30 try first|assumption|refine Heap.lt ?_ (by assumption));first|done|assumption)) hl5) (fun v h' hl2 hr=>?_);obtain ⟨op9,ar9,ng9,nn9,dd9,nm9,ss9,rfl,hE9⟩:=hr;first|(refine ⟨fun _=>HasLe.keep (n:=0) rfl hl5 hl2,?_⟩;conv=>whnf)|(conv=>whnf))|(refine CN.keep 0 rfl rfl (fun hl5=>?_);refine CN.f rfl (node2_ct _ _ (by first|decide|exact ⟨by omega,by omega⟩) (by first|decide|exact ⟨by omega,by omega⟩) (IsE.mono (by assumption) (by (iterate 30 try first|assumption|exact Heap.lr _|refine Heap.lt ?_ (by assumption));first|done|assumption)) (IsE.mono (by assumption) (by first|assumption|exact Heap.lr _)) hl5) (fun v h' hl2 hr=>?_);obtain ⟨op9,ar9,ng9,nn9,dd9,nm9,ss9,rfl,hE9⟩:=hr;first|(refine ⟨fun _=>HasLe.keep (n:=0) rfl hl5 hl2,?_⟩;conv=>whnf)|(conv=>whnf))|(refine CN.keep 1 rfl rfl (fun hl5=>?_);refine CN.f rfl (node2_ct _ _ (by first|decide|exact ⟨by omega,by omega⟩) (by first|decide|exact ⟨by omega,by omega⟩) (IsE.mono (by assumption) (by first|assumption|exact Heap.lr _)) (IsE.mono (by assumption) (by first|assumption|exact Heap.lr _)) hl5) (fun v h' hl2 hr=>?_);obtain ⟨op9,ar9,ng9,nn9,dd9,nm9,ss9,rfl,hE9⟩:=hr;first|(refine ⟨fun _=>HasLe.keep (n:=1) rfl hl5 hl2,?_⟩;conv=>whnf)|(conv=>whnf)))|(refine cnd_eq (fun _=>?_) (fun _=>?_) <;> first|(exfalso;omega)|(conv=>whnf))|(refine Both.mk ?_ ?_ <;> (conv=>whnf))
   all_goals exact RN.a ⟨_,_,_,_,_,_,_,rfl,(by assumption)⟩
theorem Derive_ct (t:Tr) (nm:List Nat) (hnm:∀y∈nm,y<256) (h:Heap) (vs:List Value) (tb:Tb h) (w:IsE h vs t):Fn0 T F.expr_Derive [.agg vs.toArray,.string (txt nm)] h fun v h'=>ResT h' v (derX nm t):=by
 have c1:=fun h tb w=>Valid_ct t h vs tb w
 have c2:=fun h=>XIsName_ct h nm hnm
 have c3:=fun h w (x:ValT t)=>smooth_ct t h vs w x.1
 have c4:=fun h w (x:ValT t) (y:resT t=none)=>derived_ct nm hnm t h vs w (okG_of x.1) (smT_res y)
 have c5:=fun h us tb w (x:ValT t) (y:resT t=none)=>simplified_ct (derT id nm t) h us tb w (derI_G (okG_of x.1) (smT_res y))
 have c6:=fun h us tb w=>checked_ct (simT (derT id nm t)) h us tb w
 obtain ⟨⟨op,arg,neg,l,m,name,ks⟩,ht⟩:∃x,x=t:=⟨_,rfl⟩
 obtain ⟨a,b,s,hvs,-⟩:=(ht.symm▸w:IsE h vs (.mk op arg neg l m name ks)).isK
 subst hvs
 unfold derX
 by_cases hvt:ValT t
 ·rw [if_neg (not_not_intro hvt)]
  rw [show dec (ValT t)=true from dec_true hvt] at c1
  by_cases hnt:IsNm nm
  ·rw [if_neg (not_not_intro hnt)]
   rw [show dec (IsNm nm)=true from dec_true hnt] at c2
   by_cases hrt:resT t=none
   ·rw [if_neg (not_not_intro hrt)]
    rw [show dec (resT t=none)=true from dec_true hrt] at c3
    refine f0C ok D.expr_Derive rfl ?_
    conv=>whnf
    repeat ((first|refine oI.z ?_|refine cI.z ?_);conv=>whnf)
    repeat' first|((first|(show LdN _ _ _ _ _;first|refine LdN.oA 0 rfl rfl ?_|refine LdN.oA 1 rfl rfl ?_)|(show CN _ _ _ _ _ _;first|(refine CN.f rfl (c1 _ (by assumption) (by assumption)) (fun v h' hl2 hr=>?_);subst hr)|(refine CN.f rfl (c2 _) (fun v h' hl2 hr=>?_);subst hr)|(refine CN.quiet rfl (c3 _ (by (iterate 30 try first|assumption|refine IsE.mono ?_ (by assumption));first|done|assumption) hvt) ?_)|(refine CN.f rfl (c4 _ (by (iterate 30 try first|assumption|refine IsE.mono ?_ (by assumption));first|done|assumption) hvt hrt) (fun v h' hl2 hr=>?_);obtain ⟨op6,ar6,ng6,nn6,dd6,nm6,ss6,rfl,hE6⟩:=hr)|(refine CN.f rfl (c5 _ _ (by (iterate 30 try first|assumption|refine Tb.mono ?_ (by assumption));first|done|assumption) hE6 hvt hrt) (fun v h' hl2 hr=>?_);obtain ⟨op7,ar7,ng7,nn7,dd7,nm7,ss7,rfl,hE7⟩:=hr)|(refine CN.f rfl (c6 _ _ (by (iterate 30 try first|assumption|refine Tb.mono ?_ (by assumption));first|done|assumption) hE7) (fun v h' hl2 hr=>?_);obtain ⟨_,rfl,op8,ar8,ng8,nn8,dd8,nm8,ss8,rfl,hE8⟩:=hr))|((first|refine oI.z ?_|refine cI.z ?_))|intro (_:Nat)|refine Sto.l 0 rfl rfl rfl ?_) <;> (conv=>whnf))
    all_goals exact RN.a ⟨_,rfl,op8,ar8,ng8,nn8,dd8,nm8,ss8,rfl,(by assumption)⟩
   ·rw [if_pos hrt]
    rw [show dec (resT t=none)=false from dec_false hrt] at c3
    refine f0C ok D.expr_Derive rfl ?_
    conv=>whnf
    repeat ((first|refine oI.z ?_|refine cI.z ?_);conv=>whnf)
    repeat' first|((first|(show LdN _ _ _ _ _;first|refine LdN.oA 0 rfl rfl ?_|refine LdN.oA 1 rfl rfl ?_)|(show CN _ _ _ _ _ _;first|(refine CN.f rfl (c1 _ (by assumption) (by assumption)) (fun v h' hl2 hr=>?_);subst hr)|(refine CN.f rfl (c2 _) (fun v h' hl2 hr=>?_);subst hr)|(refine CN.quiet rfl (c3 _ (by (iterate 30 try first|assumption|refine IsE.mono ?_ (by assumption));first|done|assumption) hvt) ?_))|((first|refine oI.z ?_|refine cI.z ?_))|intro (_:Nat)|refine Sto.l 0 rfl rfl rfl ?_) <;> (conv=>whnf))
    all_goals exact RN.a ⟨_,rfl,VE.zero _⟩
  ·rw [if_pos hnt]
   rw [show dec (IsNm nm)=false from dec_false hnt] at c2
   refine f0C ok D.expr_Derive rfl ?_
   conv=>whnf
   repeat ((first|refine oI.z ?_|refine cI.z ?_);conv=>whnf)
   repeat' first|((first|(show LdN _ _ _ _ _;first|refine LdN.oA 0 rfl rfl ?_|refine LdN.oA 1 rfl rfl ?_)|(show CN _ _ _ _ _ _;first|(refine CN.f rfl (c1 _ (by assumption) (by assumption)) (fun v h' hl2 hr=>?_);subst hr)|(refine CN.f rfl (c2 _) (fun v h' hl2 hr=>?_);subst hr))|((first|refine oI.z ?_|refine cI.z ?_))|intro (_:Nat)|refine Sto.l 0 rfl rfl rfl ?_) <;> (conv=>whnf))
   all_goals exact RN.a ⟨_,rfl,VE.zero _⟩
 ·rw [if_pos hvt]
  rw [show dec (ValT t)=false from dec_false hvt] at c1
  refine f0C ok D.expr_Derive rfl ?_
  conv=>whnf
  repeat ((first|refine oI.z ?_|refine cI.z ?_);conv=>whnf)
  repeat' first|((first|(show LdN _ _ _ _ _;first|refine LdN.oA 0 rfl rfl ?_|refine LdN.oA 1 rfl rfl ?_)|(show CN _ _ _ _ _ _;(refine CN.f rfl (c1 _ (by assumption) (by assumption)) (fun v h' hl2 hr=>?_);subst hr))|((first|refine oI.z ?_|refine cI.z ?_))|intro (_:Nat)|refine Sto.l 0 rfl rfl rfl ?_) <;> (conv=>whnf))
  all_goals exact RN.a ⟨_,rfl,VE.zero _⟩
end Go.Proofs.YtbgicephinomlaaGreatDoor
/- Derivatives: the document's side. -/
namespace Go.Proofs.YtbgicephinomlaaGreatDoor
open Go Go.Vc Go.Dig
attribute [local irreducible] Vc.Fn
end Go.Proofs.YtbgicephinomlaaGreatDoor
/- The laws of Derive and DeriveFree. -/
namespace Go.Proofs.YtbgicephinomlaaGreatDoor
open Go Go.Vc Go.Dig
attribute [local irreducible] Vc.Fn
end Go.Proofs.YtbgicephinomlaaGreatDoor
/- DeriveParts: its law. -/

namespace Go.Proofs.YtbgicephinomlaaGreatDoor
open Go Go.Vc Go.Dig
theorem derX_inv {nm:List Nat} {t:Tr} (h:(derX nm t).2=0):ValT t∧resT t=none∧ValT (simT (derT id nm t))∧(derX nm t).1=cloneT (simT (derT id nm t)):=by
 unfold derX chkdT at h ⊢
 split at h
 ·cases h
 rename_i h1
 split at h
 ·cases h
 rename_i h2
 split at h
 ·cases h
 rename_i h3
 split at h
 ·rename_i h4
  rw [if_neg h1,if_neg h2,if_neg h3,if_pos h4]
  exact ⟨Decidable.not_not.1 h1,Decidable.not_not.1 h3,h4,rfl⟩
 ·cases h
theorem valX_yes {bs:List (List Nat × Option Rat)} {t:Tr} (h:(valX bs t).2.1=true):(valX bs t).2.2=0:=by
 revert h
 unfold valX
 repeat' split
 all_goals (intro x;first|rfl|cases x)
theorem valX_val {bs:List (List Nat × Option Rat)} {t:Tr} (h:(valX bs t).2.1=true):valT (stripV bs) t=some (valX bs t).1:=by
 have hx:=valX_inv (valX_yes h)
 rw [valX_of hx.1 hx.2.1 hx.2.2] at h ⊢
 cases e:valT (stripV bs) t with
 | none=>rw [e] at h;cases h
 | some r=>rfl
theorem parts_rule {bs:List (List Nat × Option Rat)} (hv:∀b∈stripV bs,fits b.2) {nm:List Nat} {op:Int} (hop:op=5∨op=6∨op=7∨op=8) {A B:Tr} (fa:(derX nm A).2=0) (fb:(derX nm B).2=0)
  (h1:(valX bs A).2.1=true) (h2:(valX bs B).2.1=true) (h3:(valX bs (derX nm A).1).2.1=true) (h4:(valX bs (derX nm B).1).2.1=true) (fe:(derX nm (nodeT op 0 [A,B])).2=0) (h5:(valX bs (derX nm (nodeT op 0 [A,B])).1).2.1=true):
  (valX bs (derX nm (nodeT op 0 [A,B])).1).1=ruleQ op (valX bs A).1 (valX bs B).1 (valX bs (derX nm A).1).1 (valX bs (derX nm B).1).1:=by
 obtain ⟨va,ra,ga,ea⟩:=derX_inv fa
 obtain ⟨vb,rb,gb,eb⟩:=derX_inv fb
 obtain ⟨ve,re,ge,ee⟩:=derX_inv fe
 have e1:=valX_val h1
 have e2:=valX_val h2
 have e3:=valX_val h3
 have e4:=valX_val h4
 have e5:=valX_val h5
 rw [ea,clone_val ga.1] at e3
 rw [eb,clone_val gb.1] at e4
 rw [ee,clone_val ge.1] at e5
 rw [ea,eb,ee] at *
 exact der_rule hv hop va.1 vb.1 (smT_res ra) (smT_res rb) e1 e2 e3 e4 _ e5
theorem sr_rule {op:Int} {a b x y:Rat} (ha:Sr 128 a) (hb:Sr 128 b) (hx:Sr 128 x) (hy:Sr 128 y) (h8:op=8→nu b≠0) (hop:op=5∨op=6∨op=7∨op=8):Sr 65536 (ruleQ op a b x y):=by
 have sub:∀{k:Nat} {q r:Rat},Sr k q→Sr k r→Sr (k+k+1) (q-r):=fun hq hr=>by rw [Rat.sub_eq_add_neg];exact sr_add hq (Sr.neg hr)
 unfold ruleQ
 split
 ·exact (sr_add hx hy).mono (by decide)
 split
 ·exact (sub hx hy).mono (by decide)
 split
 ·exact (sr_add (sr_mul hx hb) (sr_mul ha hy)).mono (by decide)
 ·have hb0:=h8 (by omega)
  have hbb:nu (b*b)≠0:=fun e=>by
   have e:=nu_eq_zero.1 e
   rcases Rat.mul_eq_zero.1 e with e|e <;> exact hb0 (nu_eq_zero.2 e)
  rw [Rat.div_def]
  exact (sr_mul (sub (sr_mul hx hb) (sr_mul ha hy)) (sr_inv (sr_mul hb hb) hbb)).mono (by decide)
theorem LdN.froz {h h0:Heap} {L:Vc.Own} {b o m:Nat} {k:Value→Prop} {l:List Value} {T:TypeId} {fz:Nat × Nat} (vs:List Value) (hb:h0 b=some (.cells l.toArray T fz)) (hle:h0.le h) (hl:Nat.ble (o+m) l.length=true) (hv:(l.drop o).take m=vs) (hk:k (.agg vs.toArray)):LdN h L ⟨b,o,none⟩ m k:=by
 have hle2:=Nat.le_of_ble_eq_true hl
 subst hv
 refine LdN.hasN _ (by rw [List.length_take,List.length_drop];omega) (fun i v hi=>?_) hk
 refine Has.imm (hle _ _ hb) ?_
 rw [List.getElem?_take] at hi
 split at hi
 ·rw [List.getElem?_drop] at hi
  rw [List.getElem?_toArray];exact hi
 ·cases hi
theorem Ld.froz {h h0:Heap} {L:Vc.Own} {b o:Nat} {k:Value→Prop} {l:List Value} {T:TypeId} {fz:Nat × Nat} {v:Value} (hb:h0 b=some (.cells l.toArray T fz)) (hle:h0.le h) (hv:l[o]?=some v) (hk:k v):Ld h L ⟨b,o,none⟩ k:=
 Ld.of (Has.imm (hle _ _ hb) (by rw [List.getElem?_toArray];exact hv)) hk
attribute [local irreducible] Vc.Fn
theorem pat_ct (bs:List (List Nat × Option Rat)) (hbl:bs.length≤1099511627776) (sb:Sl) (A B X:Tr) (nm:List Nat) (h:Heap) (va vb vx:List Value) (tb:Tb h) (wb:IsV h sb bs) (wA:IsE h va A) (wB:IsE h vb B) (w:IsE h vx X):
  Fn0 T F.law04_Parts_at [.agg (va++vb++[.string (txt nm),sb.val]).toArray,.agg vx.toArray] h fun v h'=>∃s t:Sl,v=.tuple #[.agg #[.bool (sg (valX bs X).1),s.val,t.val],.bool (valX bs X).2.1]∧IsQ h' s t (valX bs X).1:=by
 have hv:=strip_fits wb
 have hf:=valX_fits (t:=X) hv
 have c1:=fun h tb wb w=>Value_ct bs hbl sb X h vx tb wb w
 have yes:=fun x=>valX_yes (bs:=bs) (t:=X) x
 obtain ⟨⟨q,y,e⟩,hX⟩:∃X',X'=valX bs X:=⟨_,rfl⟩
 simp only [← hX] at c1 hf yes ⊢
 replace hf:fits q:=hf
 replace yes:y=true→e=0:=yes
 replace c1:∀h,Tb h→IsV h sb bs→IsE h vx X→Fn0 T F.expr_Value [.agg vx.toArray,sb.val] h fun v h'=>∃a b:Sl,v=.tuple #[.agg #[.bool (sg q),a.val,b.val],.bool y,.int .i64 e]∧IsRat h' a b q:=c1
 have c7:=fun h n a b w=>QOf_p h n a b q w
 obtain ⟨S,hS⟩:∃S,S=sg q:=⟨_,rfl⟩
 have nn:∀h a b,IsRat h a b q→IsNum h S a b (some q):=fun h a b w=>hS▸w.isnum hf
 simp only [← hS] at c1 c7 ⊢
 clear hX hS hv
 obtain ⟨⟨o1,r1,n1,l1,m1,x1,k1⟩,ht⟩:∃x,x=A:=⟨_,rfl⟩
 obtain ⟨a1,b1,s1,hvs,-⟩:=(ht.symm▸wA:IsE h va (.mk o1 r1 n1 l1 m1 x1 k1)).isK
 subst hvs
 clear ht
 obtain ⟨⟨o2,r2,n2,l2,m2,x2,k2⟩,ht⟩:∃x,x=B:=⟨_,rfl⟩
 obtain ⟨a2,b2,s2,hvs,-⟩:=(ht.symm▸wB:IsE h vb (.mk o2 r2 n2 l2 m2 x2 k2)).isK
 subst hvs
 clear ht
 obtain ⟨⟨o3,r3,n3,l3,m3,x3,k3⟩,ht⟩:∃x,x=X:=⟨_,rfl⟩
 obtain ⟨a3,b3,s3,hvs,-⟩:=(ht.symm▸w:IsE h vx (.mk o3 r3 n3 l3 m3 x3 k3)).isK
 subst hvs
 clear ht
 cases y with
 | true=>
  obtain rfl:=yes rfl
  refine f0C ok D.law04_Parts_at rfl ?_
  conv=>whnf
  repeat ((first|refine oI.z ?_|refine cI.z ?_);conv=>whnf)
  repeat' first|((first|(show LdN _ _ _ _ _;first|refine LdN.oA 0 rfl rfl ?_|refine LdN.oA 1 rfl rfl ?_)|(show CN _ _ _ _ _ _;first|(refine CN.f rfl (c1 _ (by assumption) (wb.mono (by first|assumption|exact Heap.lr _)) (by assumption)) (fun v h' hl2 hr=>?_);obtain ⟨a5,b5,rfl,hq5⟩:=hr;have hn5:=nn _ _ _ hq5)|(refine CN.f rfl (c7 _ _ _ _ (by assumption)) (fun v h' hl2 hr=>?_);obtain ⟨s8,t8,rfl,hq8⟩:=hr))|((first|refine oI.z ?_|refine cI.z ?_))|intro (_:Nat)|refine Ld.o 2 rfl rfl ?_|(show Sto _ _ _ _;first|refine Sto.l 0 rfl rfl rfl ?_|refine Sto.l 1 rfl rfl rfl ?_)) <;> (conv=>whnf))
  all_goals first
   | exact RN.a ⟨s8,t8,rfl,(by assumption)⟩
   | exact RN.a ⟨s8,t8,by rw [Vc.eq_true' rfl];rfl,(by assumption)⟩
 | false=>
  refine f0C ok D.law04_Parts_at rfl ?_
  conv=>whnf
  repeat ((first|refine oI.z ?_|refine cI.z ?_);conv=>whnf)
  repeat' first|((first|(show LdN _ _ _ _ _;first|refine LdN.oA 0 rfl rfl ?_|refine LdN.oA 1 rfl rfl ?_)|(show CN _ _ _ _ _ _;first|(refine CN.f rfl (c1 _ (by assumption) (wb.mono (by first|assumption|exact Heap.lr _)) (by assumption)) (fun v h' hl2 hr=>?_);obtain ⟨a5,b5,rfl,hq5⟩:=hr;have hn5:=nn _ _ _ hq5)|(refine CN.f rfl (c7 _ _ _ _ (by assumption)) (fun v h' hl2 hr=>?_);obtain ⟨s8,t8,rfl,hq8⟩:=hr))|((first|refine oI.z ?_|refine cI.z ?_))|intro (_:Nat)|refine Ld.o 2 rfl rfl ?_|(show Sto _ _ _ _;first|refine Sto.l 0 rfl rfl rfl ?_|refine Sto.l 1 rfl rfl rfl ?_)) <;> (conv=>whnf))
  all_goals first
   | exact RN.a ⟨s8,t8,rfl,(by assumption)⟩
   | exact RN.a ⟨s8,t8,by rw [Vc.eq_true' rfl];rfl,(by assumption)⟩
theorem sr_subk {k l:Nat} {q r:Rat} (hq:Sr k q) (hr:Sr l r):Sr (k+l+1) (q-r):=by rw [Rat.sub_eq_add_neg];exact sr_add hq (Sr.neg hr)
theorem rule_ct (op:Int) (hop:op=5∨op=6∨op=7∨op=8) (a b x y:Rat) (ha:Sr 128 a) (hb:Sr 128 b) (hx:Sr 128 x) (hy:Sr 128 y) (h8:op=8→nu b≠0) (h:Heap) (a1 a2 b1 b2 x1 x2 y1 y2:Sl) (wa:IsQ h a1 a2 a) (wb:IsQ h b1 b2 b) (wx:IsQ h x1 x2 x) (wy:IsQ h y1 y2 y):
  Fn0 T F.law04_rule [.int .i64 op,.agg #[.bool (sg a),a1.val,a2.val],.agg #[.bool (sg b),b1.val,b2.val],.agg #[.bool (sg x),x1.val,x2.val],.agg #[.bool (sg y),y1.val,y2.val]] h fun v h'=>∃s t:Sl,v=.agg #[.bool (sg (ruleQ op a b x y)),s.val,t.val]∧IsQ h' s t (ruleQ op a b x y):=by
 have r5:op=5→ruleQ op a b x y=x+y:=fun e=>if_pos e
 have r6:op=6→ruleQ op a b x y=x-y:=fun e=>(if_neg (by omega)).trans (if_pos e)
 have r7:op=7→ruleQ op a b x y=x*b+a*y:=fun e=>(if_neg (by omega)).trans ((if_neg (by omega)).trans (if_pos e))
 have r8:op=8→ruleQ op a b x y=(x*b-a*y) / (b*b):=fun e=>(if_neg (by omega)).trans ((if_neg (by omega)).trans (if_neg (by omega)))
 have bx:=hx.mono (l:=1073741824) (by decide)
 have by':=hy.mono (l:=1073741824) (by decide)
 have ba:=ha.mono (l:=1073741824) (by decide)
 have bb:=hb.mono (l:=1073741824) (by decide)
 have ml:=sr_mul hx hb
 have mr:=sr_mul ha hy
 have mb:=sr_mul hb hb
 have ml2:=ml.mono (l:=1073741824) (by decide)
 have mr2:=mr.mono (l:=1073741824) (by decide)
 have mb2:=mb.mono (l:=1073741824) (by decide)
 have md2:=(sr_subk ml mr).mono (l:=1073741824) (by decide)
 have c1:=fun h (a b c d:Sl) w w'=>Sum_ct h a b c d x y w w' bx by'
 have c2:=fun h (a b c d:Sl) w w'=>Diff_ct h a b c d x y w w' bx by'
 have c3:=fun h (a' b' c d:Sl) w w'=>Prod_ct h a' b' c d x b w w' bx bb
 have c4:=fun h (a' b' c d:Sl) w w'=>Prod_ct h a' b' c d a y w w' ba by'
 have c5:=fun h (a' b' c d:Sl) w w'=>Sum_ct h a' b' c d (x*b) (a*y) w w' ml2 mr2
 have c6:=fun h (a' b' c d:Sl) w w'=>Diff_ct h a' b' c d (x*b) (a*y) w w' ml2 mr2
 have c7:=fun h (a' b' c d:Sl) w w'=>Prod_ct h a' b' c d b b w w' bb bb
 have c8:=fun h (a' b' c d:Sl) w w'=>Quo_ct h a' b' c d (x*b-a*y) (b*b) w w' md2 mb2
 clear bx by' ba bb ml mr mb ml2 mr2 mb2 md2 ha hb hx hy h8
 obtain ⟨R,hR⟩:∃R,R=ruleQ op a b x y:=⟨_,rfl⟩
 rw [← hR] at r5 r6 r7 r8 ⊢
 obtain ⟨Q8,e8⟩:∃q,q=(x*b-a*y) / (b*b):=⟨_,rfl⟩
 simp only [← e8] at c8 r8
 obtain ⟨Q6,e6⟩:∃q,q=x*b-a*y:=⟨_,rfl⟩
 simp only [← e6] at c6 c8
 obtain ⟨Q7,e7⟩:∃q,q=b*b:=⟨_,rfl⟩
 simp only [← e7] at c7 c8
 obtain ⟨Q5,e5⟩:∃q,q=x*b+a*y:=⟨_,rfl⟩
 simp only [← e5] at c5 r7
 obtain ⟨Q3,e3⟩:∃q,q=x*b:=⟨_,rfl⟩
 simp only [← e3] at c3 c5 c6
 obtain ⟨Q4,e4⟩:∃q,q=a*y:=⟨_,rfl⟩
 simp only [← e4] at c4 c5 c6
 obtain ⟨Q1,e1⟩:∃q,q=x+y:=⟨_,rfl⟩
 simp only [← e1] at c1 r5
 obtain ⟨Q2,e2⟩:∃q,q=x-y:=⟨_,rfl⟩
 simp only [← e2] at c2 r6
 clear hR e1 e2 e3 e4 e5 e6 e7 e8
 rcases hop with rfl|rfl|rfl|rfl
 ·rw [r5 rfl]
  clear r5 r6 r7 r8
  refine f0C ok D.law04_rule rfl ?_
  conv=>whnf
  repeat ((first|refine oI.z ?_|refine cI.z ?_);conv=>whnf)
  repeat' first|((first|(show LdN _ _ _ _ _;first|refine LdN.oA 0 rfl rfl ?_|refine LdN.oA 1 rfl rfl ?_|refine LdN.oA 2 rfl rfl ?_)|(show CN _ _ _ _ _ _;(refine CN.f rfl (c1 _ _ _ _ _ (by assumption) (by assumption)) (fun v h' hl2 hr=>?_);obtain ⟨s1,t1,rfl,hq1⟩:=hr))|((first|refine oI.z ?_|refine cI.z ?_))|intro (_:Nat)|refine Sto.l 0 rfl rfl rfl ?_) <;> (conv=>whnf))|(refine cnd_eq (fun _=>?_) (fun _=>?_) <;> first|(exfalso;omega)|(conv=>whnf))
  all_goals exact RN.a ⟨_,_,rfl,by assumption⟩
 ·rw [r6 rfl]
  clear r5 r6 r7 r8
  refine f0C ok D.law04_rule rfl ?_
  conv=>whnf
  repeat ((first|refine oI.z ?_|refine cI.z ?_);conv=>whnf)
  repeat' first|((first|(show LdN _ _ _ _ _;first|refine LdN.oA 0 rfl rfl ?_|refine LdN.oA 1 rfl rfl ?_|refine LdN.oA 2 rfl rfl ?_)|(show CN _ _ _ _ _ _;(refine CN.f rfl (c2 _ _ _ _ _ (by assumption) (by assumption)) (fun v h' hl2 hr=>?_);obtain ⟨s2,t2,rfl,hq2⟩:=hr))|((first|refine oI.z ?_|refine cI.z ?_))|intro (_:Nat)|refine Sto.l 0 rfl rfl rfl ?_) <;> (conv=>whnf))|(refine cnd_eq (fun _=>?_) (fun _=>?_) <;> first|(exfalso;omega)|(conv=>whnf))
  all_goals exact RN.a ⟨_,_,rfl,by assumption⟩
 ·rw [r7 rfl]
  clear r5 r6 r7 r8
  refine f0C ok D.law04_rule rfl ?_
  conv=>whnf
  repeat ((first|refine oI.z ?_|refine cI.z ?_);conv=>whnf)
  repeat' first|((first|(show LdN _ _ _ _ _;first|refine LdN.oA 0 rfl rfl ?_|refine LdN.oA 1 rfl rfl ?_|refine LdN.oA 2 rfl rfl ?_|refine LdN.oA 3 rfl rfl ?_|refine LdN.oA 4 rfl rfl ?_)|(show CN _ _ _ _ _ _;first|(refine CN.f rfl (c3 _ _ _ _ _ (by assumption) (by assumption)) (fun v h' hl2 hr=>?_);obtain ⟨s3,t3,rfl,hq3⟩:=hr)|(refine CN.f rfl (c4 _ _ _ _ _ (by (iterate 30 try first|assumption|refine IsQ.mono ?_ (by assumption));first|done|assumption) (by (iterate 30 try first|assumption|refine IsQ.mono ?_ (by assumption));first|done|assumption)) (fun v h' hl2 hr=>?_);obtain ⟨s4,t4,rfl,hq4⟩:=hr)|(refine CN.f rfl (c5 _ _ _ _ _ (by (iterate 30 try first|assumption|refine IsQ.mono ?_ (by assumption));first|done|assumption) (by assumption)) (fun v h' hl2 hr=>?_);obtain ⟨s5,t5,rfl,hq5⟩:=hr))|((first|refine oI.z ?_|refine cI.z ?_))|refine ⟨fun _=>HasLe.o (by assumption),?_⟩|refine ⟨fun _=>HasLe.cons _,?_⟩|refine ⟨fun hst=>(by cases (show true=false from hst)),?_⟩|intro (_:Nat)|(show Sto _ _ _ _;first|refine Sto.l 0 rfl rfl rfl ?_|refine Sto.l 1 rfl rfl rfl ?_|refine Sto.l 2 rfl rfl rfl ?_)|refine DrN.run (by decide +kernel) ?_) <;> (conv=>whnf))|(refine cnd_eq (fun _=>?_) (fun _=>?_) <;> first|(exfalso;omega)|(conv=>whnf))|(refine Both.mk ?_ ?_ <;> (conv=>whnf))
  all_goals exact RN.a ⟨_,_,rfl,by assumption⟩
 ·rw [r8 rfl]
  clear r5 r6 r7 r8
  refine f0C ok D.law04_rule rfl ?_
  conv=>whnf
  repeat ((first|refine oI.z ?_|refine cI.z ?_);conv=>whnf)
  repeat' first|((first|(show LdN _ _ _ _ _;first|refine LdN.oA 0 rfl rfl ?_|refine LdN.oA 1 rfl rfl ?_|refine LdN.oA 2 rfl rfl ?_|refine LdN.oA 3 rfl rfl ?_|refine LdN.oA 4 rfl rfl ?_|refine LdN.oA 5 rfl rfl ?_)|(show CN _ _ _ _ _ _;first|(refine CN.f rfl (c3 _ _ _ _ _ (by assumption) (by assumption)) (fun v h' hl2 hr=>?_);obtain ⟨s3,t3,rfl,hq3⟩:=hr)|(refine CN.f rfl (c4 _ _ _ _ _ (by (iterate 30 try first|assumption|refine IsQ.mono ?_ (by assumption));first|done|assumption) (by (iterate 30 try first|assumption|refine IsQ.mono ?_ (by assumption));first|done|assumption)) (fun v h' hl2 hr=>?_);obtain ⟨s4,t4,rfl,hq4⟩:=hr)|(refine CN.f rfl (c6 _ _ _ _ _ (by (iterate 30 try first|assumption|refine IsQ.mono ?_ (by assumption));first|done|assumption) (by assumption)) (fun v h' hl2 hr=>?_);obtain ⟨s6,t6,rfl,hq6⟩:=hr)|(refine CN.f rfl (c7 _ _ _ _ _ (by (iterate 30 try first|assumption|refine IsQ.mono ?_ (by assumption));first|done|assumption) (by (iterate 30 try first|assumption|refine IsQ.mono ?_ (by assumption));first|done|assumption)) (fun v h' hl2 hr=>?_);obtain ⟨s7,t7,rfl,hq7⟩:=hr)|(refine CN.f rfl (c8 _ _ _ _ _ (by (iterate 30 try first|assumption|refine IsQ.mono ?_ (by assumption));first|done|assumption) (by assumption)) (fun v h' hl2 hr=>?_);obtain ⟨s8,t8,rfl,hq8⟩:=hr))|((first|refine oI.z ?_|refine cI.z ?_))|refine ⟨fun _=>HasLe.o (by assumption),?_⟩|refine ⟨fun _=>HasLe.cons _,?_⟩|refine ⟨fun hst=>(by cases (show true=false from hst)),?_⟩|intro (_:Nat)|(show Sto _ _ _ _;first|refine Sto.l 0 rfl rfl rfl ?_|refine Sto.l 1 rfl rfl rfl ?_|refine Sto.l 2 rfl rfl rfl ?_)|refine DrN.run (by decide +kernel) ?_) <;> (conv=>whnf))|(refine cnd_eq (fun _=>?_) (fun _=>?_) <;> first|(exfalso;omega)|(conv=>whnf))|(refine Both.mk ?_ ?_ <;> (conv=>whnf))
  all_goals exact RN.a ⟨_,_,rfl,by assumption⟩
theorem DeriveParts_law (h:Heap) (tb:Tb h) (pw:Pw h) (A B:Tr) (va vb:List Value) (wA:IsE h va A) (wB:IsE h vb B) (nm:List Nat) (hnm:∀y∈nm,y<256) (sb:Sl) (bs:List (List Nat × Option Rat)) (wb:IsV h sb bs) (hbl:bs.length≤1099511627776):
  Fn0 T F.law04_ExprDeriveParts [.agg (va++vb++[.string (txt nm),sb.val]).toArray] h fun v h'=>v=.bool true:=by
 have hv:=strip_fits wb
 have rul:=fun op hop fa fb h1 h2 h3 h4 fe h5=>parts_rule (bs:=bs) hv (nm:=nm) (op:=op) hop (A:=A) (B:=B) fa fb h1 h2 h3 h4 fe h5
 have c1:=fun h tb w=>Derive_ct A nm hnm h va tb w
 have c2:=fun h tb w=>Derive_ct B nm hnm h vb tb w
 have c3:=fun h tb wb wA wB w=>pat_ct bs hbl sb A B A nm h va vb va tb wb wA wB w
 have c4:=fun h tb wb wA wB w=>pat_ct bs hbl sb A B B nm h va vb vb tb wb wA wB w
 have c5:=fun h vx tb wb wA wB w=>pat_ct bs hbl sb A B (derX nm A).1 nm h va vb vx tb wb wA wB w
 have c6:=fun h vx tb wb wA wB w=>pat_ct bs hbl sb A B (derX nm B).1 nm h va vb vx tb wb wA wB w
 have c7:=fun op ho h w w'=>lnode_ct op ho A B h va vb w w'
 have c8:=fun op h vx tb w=>Derive_ct (nodeT op 0 [A,B]) nm hnm h vx tb w
 have c9:=fun op h vx tb wb wA wB w=>pat_ct bs hbl sb A B (derX nm (nodeT op 0 [A,B])).1 nm h va vb vx tb wb wA wB w
 have f1:=valX_fits (t:=A) hv
 have f2:=valX_fits (t:=B) hv
 have f3:=valX_fits (t:=(derX nm A).1) hv
 have f4:=valX_fits (t:=(derX nm B).1) hv
 have f9:=fun op=>valX_fits (t:=(derX nm (nodeT op 0 [A,B])).1) hv
 obtain ⟨⟨DA,ea⟩,hDA⟩:∃X,X=derX nm A:=⟨_,rfl⟩
 obtain ⟨⟨DB,eb⟩,hDB⟩:∃X,X=derX nm B:=⟨_,rfl⟩
 simp only [← hDA] at rul c1 c5 f3
 simp only [← hDB] at rul c2 c6 f4
 obtain ⟨⟨qa,ya,za⟩,hqa⟩:∃X,X=valX bs A:=⟨_,rfl⟩
 obtain ⟨⟨qb,yb,zb⟩,hqb⟩:∃X,X=valX bs B:=⟨_,rfl⟩
 obtain ⟨⟨qx,yx,zx⟩,hqx⟩:∃X,X=valX bs DA:=⟨_,rfl⟩
 obtain ⟨⟨qy,yy,zy⟩,hqy⟩:∃X,X=valX bs DB:=⟨_,rfl⟩
 simp only [← hqa] at rul c3 f1
 simp only [← hqb] at rul c4 f2
 simp only [← hqx] at rul c5 f3
 simp only [← hqy] at rul c6 f4
 replace c1:∀h,Tb h→IsE h va A→Fn0 T F.expr_Derive [.agg va.toArray,.string (txt nm)] h fun v h'=>∃a,v=.tuple #[a,.int .i64 ea]∧VE h' a DA:=c1
 replace c2:∀h,Tb h→IsE h vb B→Fn0 T F.expr_Derive [.agg vb.toArray,.string (txt nm)] h fun v h'=>∃a,v=.tuple #[a,.int .i64 eb]∧VE h' a DB:=c2
 have s1:=sr_of f1
 have s2:=sr_of f2
 have s3:=sr_of f3
 have s4:=sr_of f4
 have csg:=fun h a b w=>Sgn_q h a b qb w (s2.mono (by decide))
 have crl:=fun op hop h8 h a1 a2 b1 b2 x1 x2 y1 y2 wa wb' wx wy=>rule_ct op hop qa qb qx qy s1 s2 s3 s4 h8 h a1 a2 b1 b2 x1 x2 y1 y2 wa wb' wx wy
 have srr:=fun op hop h8=>sr_rule (op:=op) s1 s2 s3 s4 h8 hop
 have sgz:signQ qb≠0→nu qb≠0:=fun x y=>x (signQ_zero.2 y)
 obtain ⟨SG,hSG⟩:∃S,S=signQ qb:=⟨_,rfl⟩
 simp only [← hSG] at csg sgz
 have c10:=fun h tb pw=>sane_ct h tb pw
 clear hDA hDB hqa hqb hqx hqy hSG hv f1 f2 f3 f4 s1 s2 s3 s4
 obtain ⟨⟨o1,r1,n1,l1,m1,x1,k1⟩,ht⟩:∃x,x=A:=⟨_,rfl⟩
 obtain ⟨a1,b1,s1,hvs,-⟩:=(ht.symm▸wA:IsE h va (.mk o1 r1 n1 l1 m1 x1 k1)).isK
 subst hvs
 clear ht
 obtain ⟨⟨o2,r2,n2,l2,m2,x2,k2⟩,ht⟩:∃x,x=B:=⟨_,rfl⟩
 obtain ⟨a2,b2,s2,hvs,-⟩:=(ht.symm▸wB:IsE h vb (.mk o2 r2 n2 l2 m2 x2 k2)).isK
 subst hvs
 clear ht
 refine f0C ok D.law04_ExprDeriveParts rfl ?_
 conv=>whnf
 repeat ((first|refine oI.z ?_|refine cI.z ?_);conv=>whnf)
 repeat' first|((first|(show LdN _ _ _ _ _;first|refine LdN.oA 0 rfl rfl ?_|refine LdN.oA 1 rfl rfl ?_|refine LdN.oA 2 rfl rfl ?_|refine LdN.oA 3 rfl rfl ?_|refine LdN.oA 4 rfl rfl ?_|refine LdN.oA 5 rfl rfl ?_)|(show CN _ _ _ _ _ _;first|(refine CN.f rfl (c1 _ (by assumption) (by assumption)) (fun v h' hl2 hr=>?_);obtain ⟨_,rfl,op11,ar11,ng11,nn11,dd11,nm11,ss11,rfl,hE11⟩:=hr)|(refine CN.f rfl (c2 _ (by (iterate 30 try first|assumption|refine Tb.mono ?_ (by assumption));first|done|assumption) (by (iterate 30 try first|assumption|refine IsE.mono ?_ (by assumption));first|done|assumption)) (fun v h' hl2 hr=>?_);obtain ⟨_,rfl,op12,ar12,ng12,nn12,dd12,nm12,ss12,rfl,hE12⟩:=hr)|(refine CN.f rfl (c3 _ (by (iterate 30 try first|assumption|refine Tb.mono ?_ (by assumption));first|done|assumption) (wb.mono (by (iterate 30 try first|assumption|refine Heap.lt ?_ (by assumption));first|done|assumption)) (wA.mono (by (iterate 30 try first|assumption|refine Heap.lt ?_ (by assumption));first|done|assumption)) (wB.mono (by (iterate 30 try first|assumption|refine Heap.lt ?_ (by assumption));first|done|assumption)) (wA.mono (by (iterate 30 try first|assumption|refine Heap.lt ?_ (by assumption));first|done|assumption))) (fun v h' hl2 hr=>?_);obtain ⟨s13,t13,rfl,hq13⟩:=hr)|(refine CN.f rfl (c4 _ (by (iterate 30 try first|assumption|refine Tb.mono ?_ (by assumption));first|done|assumption) (wb.mono (by (iterate 30 try first|assumption|refine Heap.lt ?_ (by assumption));first|done|assumption)) (wA.mono (by (iterate 30 try first|assumption|refine Heap.lt ?_ (by assumption));first|done|assumption)) (wB.mono (by (iterate 30 try first|assumption|refine Heap.lt ?_ (by assumption));first|done|assumption)) (wB.mono (by (iterate 30 try first|assumption|refine Heap.lt ?_ (by assumption));first|done|assumption))) (fun v h' hl2 hr=>?_);obtain ⟨s14,t14,rfl,hq14⟩:=hr)|(refine CN.f rfl (c5 _ _ (by (iterate 30 try first|assumption|refine Tb.mono ?_ (by assumption));first|done|assumption) (wb.mono (by (iterate 30 try first|assumption|refine Heap.lt ?_ (by assumption));first|done|assumption)) (wA.mono (by (iterate 30 try first|assumption|refine Heap.lt ?_ (by assumption));first|done|assumption)) (wB.mono (by (iterate 30 try first|assumption|refine Heap.lt ?_ (by assumption));first|done|assumption)) (hE11.mono (by (iterate 30 try first|assumption|refine Heap.lt ?_ (by assumption));first|done|assumption))) (fun v h' hl2 hr=>?_);obtain ⟨s15,t15,rfl,hq15⟩:=hr)|(refine CN.f rfl (c6 _ _ (by (iterate 30 try first|assumption|refine Tb.mono ?_ (by assumption));first|done|assumption) (wb.mono (by (iterate 30 try first|assumption|refine Heap.lt ?_ (by assumption));first|done|assumption)) (wA.mono (by (iterate 30 try first|assumption|refine Heap.lt ?_ (by assumption));first|done|assumption)) (wB.mono (by (iterate 30 try first|assumption|refine Heap.lt ?_ (by assumption));first|done|assumption)) (hE12.mono (by (iterate 30 try first|assumption|refine Heap.lt ?_ (by assumption));first|done|assumption))) (fun v h' hl2 hr=>?_);obtain ⟨s16,t16,rfl,hq16⟩:=hr)|(refine CN.f rfl (c10 _ (by (iterate 30 try first|assumption|refine Tb.mono ?_ (by assumption));first|done|assumption) (by iterate 16 (try first|assumption|refine Pw.mono ?_ (by assumption)))) (fun v h' hl2 hr=>?_);subst hr))|((first|refine oI.z ?_|refine cI.z ?_))|intro (_:Nat)|(show Ld _ _ _ _;first|refine Ld.o 0 rfl rfl ?_|refine Ld.o 1 rfl rfl ?_)|refine Sto.l 0 rfl rfl rfl ?_) <;> (conv=>whnf))|(show cnd _ _ _;first|(refine cnd_eq (fun _=>?_) (fun _=>?_) <;> first|(exfalso;omega)|(conv=>whnf))|(refine cnd_not ?_)|(refine cnd_bool (fun hb=>?_) (fun hb=>?_) <;> (first|cases hb|subst hb) <;> (conv=>whnf)))
 all_goals try exact RN.a rfl
 refine LpN.keep0 fun hk13 lk13 mk13=>?_
 refine LpN.keep0 fun hk11 lk11 mk11=>?_
 refine LpN.keep0 fun hk9 lk9 mk9=>?_
 refine LpN.keep0 fun hk7 lk7 mk7=>?_
 refine LpN.keep0 fun hk5 lk5 mk5=>?_
 refine LpN.keep0 fun hk3 lk3 mk3=>?_
 refine LpN.keep0 fun hk1 lk1 mk1=>?_
 clear c1 c2 c3 c4 c5 c6 mk5 mk3
 have ea0:ea=0:=by omega
 have eb0:eb=0:=by omega
 refine LpN.of (fun r ρ hx L=>∃j:Nat,r=4-j∧hk1.le hx∧j≤4∧rd ρ 15=.int .i64 ((j:Int)+5)) 4 ⟨0,rfl,Heap.lr _,by omega,rfl⟩ ?_
 conv=>whnf
 repeat intro _
 rename_i r hx L1 hI
 obtain ⟨j,rfl,hle,hj,e15⟩:=hI
 obtain ⟨op,hop⟩:∃op:Int,op=(j:Int)+5:=⟨_,rfl⟩
 rw [← hop] at e15
 conv at e15=>lhs;whnf
 subst e15
 by_cases hj4:j=4
 ·conv=>whnf
  repeat ((first|refine oI.z ?_|refine cI.z ?_);conv=>whnf)
  repeat' first|((first|(show CN _ _ _ _ _ _;(refine CN.f rfl (c10 _ (by (iterate 30 try first|assumption|refine Tb.mono ?_ (by assumption));first|done|assumption) (by iterate 16 (try first|assumption|refine Pw.mono ?_ (by assumption)))) (fun v h' hl2 hr=>?_);subst hr))|((first|refine oI.z ?_|refine cI.z ?_))) <;> (conv=>whnf))|(refine cnd_le (fun _=>?_) (fun _=>?_) <;> first|(exfalso;omega)|(conv=>whnf))
  all_goals exact RN.a rfl
 ·have hop4:op=5∨op=6∨op=7∨op=8:=by omega
  have c7:=c7 op ⟨by omega,by omega⟩
  have c8:=c8 op
  have c9:=c9 op
  have f9:=f9 op
  have rul:=rul op hop4 ea0 eb0 rfl rfl rfl rfl
  have crl:=crl op hop4
  have srr:=srr op hop4
  obtain ⟨⟨DE,ee⟩,hDE⟩:∃X,X=derX nm (nodeT op 0 [A,B]):=⟨_,rfl⟩
  simp only [← hDE] at c8 c9 rul f9
  obtain ⟨⟨qe,ye,ze⟩,hqe⟩:∃X,X=valX bs DE:=⟨_,rfl⟩
  simp only [← hqe] at c9 rul f9
  obtain ⟨Q,hQ⟩:∃Q,Q=ruleQ op qa qb qx qy:=⟨_,rfl⟩
  simp only [← hQ] at crl srr rul
  replace c8:∀h vx,Tb h→IsE h vx (nodeT op 0 [A,B])→Fn0 T F.expr_Derive [.agg vx.toArray,.string (txt nm)] h fun v h'=>∃a,v=.tuple #[a,.int .i64 ee]∧VE h' a DE:=c8
  have s9:=(sr_of f9).mono (l:=65536) (by decide)
  have cC:=fun h (a b c d:Sl) w w' h8=>RCmp_ct h a b c d qe Q w w' s9 (srr h8)
  clear hDE hqe hQ f9 srr s9
  conv=>whnf
  repeat ((first|refine oI.z ?_|refine cI.z ?_);conv=>whnf)
  repeat' first|((first|(show LdN _ _ _ _ _;first|refine LdN.oA 0 rfl rfl ?_|(refine LdN.froz _ mk1 (by (iterate 30 try first|assumption|refine Heap.lt ?_ (by assumption));first|done|assumption) rfl rfl ?_)|(refine LdN.froz _ mk7 (by (iterate 30 try first|assumption|refine Heap.lt ?_ (by assumption));first|done|assumption) rfl rfl ?_)|(refine LdN.froz _ mk9 (by (iterate 30 try first|assumption|refine Heap.lt ?_ (by assumption));first|done|assumption) rfl rfl ?_)|(refine LdN.froz _ mk11 (by (iterate 30 try first|assumption|refine Heap.lt ?_ (by assumption));first|done|assumption) rfl rfl ?_)|(refine LdN.froz _ mk13 (by (iterate 30 try first|assumption|refine Heap.lt ?_ (by assumption));first|done|assumption) rfl rfl ?_))|(show Ld _ _ _ _;refine Ld.froz mk1 (by assumption) rfl ?_)|(show CN _ _ _ _ _ _;first|(refine CN.quiet rfl (csg _ _ _ (by (iterate 30 try first|assumption|refine IsQ.mono ?_ (by assumption));first|done|assumption)) ?_)|(refine CN.f rfl (c7 _ (wA.mono (by (iterate 30 try first|assumption|refine Heap.lt ?_ (by assumption));first|done|assumption)) (wB.mono (by (iterate 30 try first|assumption|refine Heap.lt ?_ (by assumption));first|done|assumption))) (fun v h' hl2 hr=>?_);obtain ⟨op21,ar21,ng21,nn21,dd21,nm21,ss21,rfl,hE21⟩:=hr)|(refine CN.f rfl (c8 _ _ (by (iterate 30 try first|assumption|refine Tb.mono ?_ (by assumption));first|done|assumption) (hE21.mono (by first|assumption|exact Heap.lr _))) (fun v h' hl2 hr=>?_);obtain ⟨_,rfl,op22,ar22,ng22,nn22,dd22,nm22,ss22,rfl,hE22⟩:=hr)|(refine CN.f rfl (c9 _ _ (by (iterate 30 try first|assumption|refine Tb.mono ?_ (by assumption));first|done|assumption) (wb.mono (by (iterate 30 try first|assumption|refine Heap.lt ?_ (by assumption));first|done|assumption)) (wA.mono (by (iterate 30 try first|assumption|refine Heap.lt ?_ (by assumption));first|done|assumption)) (wB.mono (by (iterate 30 try first|assumption|refine Heap.lt ?_ (by assumption));first|done|assumption)) (hE22.mono (by first|assumption|exact Heap.lr _))) (fun v h' hl2 hr=>?_);obtain ⟨s23,t23,rfl,hq23⟩:=hr)|(refine CN.f rfl (crl (fun e8=>sgz (by omega)) _ _ _ _ _ _ _ _ _ (by (iterate 30 try first|assumption|refine IsQ.mono ?_ (by assumption));first|done|assumption) (by (iterate 30 try first|assumption|refine IsQ.mono ?_ (by assumption));first|done|assumption) (by (iterate 30 try first|assumption|refine IsQ.mono ?_ (by assumption));first|done|assumption) (by (iterate 30 try first|assumption|refine IsQ.mono ?_ (by assumption));first|done|assumption)) (fun v h' hl2 hr=>?_);obtain ⟨s24,t24,rfl,hq24⟩:=hr)|(refine CN.f rfl (cC _ _ _ _ _ (by (iterate 30 try first|assumption|refine IsQ.mono ?_ (by assumption));first|done|assumption) (by assumption) (fun e8=>sgz (by omega))) (fun v h' hl2 hr=>?_);rw [cmpQ_eq.2 (rul (by omega) rfl)] at hr;subst hr))|((first|refine oI.z ?_|refine cI.z ?_))|refine ⟨fun _=>HasLe.o (by assumption),?_⟩|refine ⟨fun _=>HasLe.cons _,?_⟩|refine ⟨fun hst=>(by cases (show true=false from hst)),?_⟩|intro (_:Nat)|refine WN.i64 (by omega) (by omega) ?_|refine Sto.l 0 rfl rfl rfl ?_|refine DrN.run (by decide +kernel) ?_) <;> (conv=>whnf))|(show cnd _ _ _;first|(refine cnd_le (fun _=>?_) (fun _=>?_) <;> first|(exfalso;omega)|(conv=>whnf))|(refine cnd_eq (fun _=>?_) (fun _=>?_) <;> first|(exfalso;omega)|(conv=>whnf))|(refine cnd_not ?_)|(refine cnd_bool (fun hb=>?_) (fun hb=>?_) <;> (first|cases hb|subst hb) <;> (conv=>whnf)))|(refine Both.mk ?_ ?_ <;> (conv=>whnf))
  all_goals exact ⟨rfl,4-(j+1),by omega,j+1,rfl,(by (iterate 30 try first|assumption|refine Heap.lt ?_ (by assumption));first|done|assumption),by omega,vi (by omega)⟩
end Go.Proofs.YtbgicephinomlaaGreatDoor