/- Simplify: the program's rules. -/
import Derived.Test.YtbgicephinomlaaGreatDoorE67
import Derived.Test.YtbgicephinomlaaGreatDoorE63
import Derived.Test.YtbgicephinomlaaGreatDoorE83
import Derived.Test.YtbgicephinomlaaGreatDoorE42
import Derived.Test.YtbgicephinomlaaGreatDoorE37
set_option linter.unusedVariables false
set_option linter.unusedSimpArgs false
set_option maxHeartbeats 4000000
set_option maxRecDepth 20000
namespace Go.Vc
open Go Go.Dig
open Go.Proofs.YtbgicephinomlaaGreatDoor in
theorem CN.rowX {T:Tab} {f:FuncId} {args:List Value} {k:Value→Heap→Vc.Own→Prop} {e:TypeId} {v:Value} {n:Nat} {xs:List Value} {acc:List Tr} {h:Heap} {X tl:Vc.Own} (g:GrowS e 7 v n xs X) (kc:KC h xs acc) (hn:n=acc.length) (hf:T.fn f=true)
  (hk:∀h' X' (s:Sl),h.le h'→v=s.val→IsK h' s acc→CN T f args h' (X'++tl) k):CN T f args h (X++tl) k:=by
 obtain ⟨g1,⟨rfl,rfl⟩|⟨i,b,cap,zs,rfl,h2,h3,h4⟩⟩:=g
 ·obtain rfl:acc=[]:=List.length_eq_zero_iff.1 hn.symm
  exact hk h X ⟨none,0,0⟩ (Heap.lr _) rfl (IsK.nil h)
 ·have hlt:=(List.getElem?_eq_some_iff.1 h2).1
  refine CN.keep i (by rw [List.getElem?_append_left hlt];exact h2) hf fun hle=>?_
  rw [List.eraseIdx_append_of_lt_length hlt]
  exact hk _ _ ⟨some ⟨b,0,none⟩,n,cap⟩ hle rfl (IsK.put hle kc hn h3)
end Go.Vc
namespace Go.Proofs.YtbgicephinomlaaGreatDoor
open Go Go.Vc Go.Dig
theorem sz_fits {q:Rat} (h:fits q):Sz 64 q:=⟨h.1,h.2⟩
theorem whole_ct (h:Heap) (n:Int) (h1:-9223372036854775808≤n) (h2:n≤9223372036854775807):Fn0 T F.expr_whole [.int .i64 n] h fun v h'=>VE h' v (mkL (n:Rat)):=by
 have hf:=fits_int n h1 h2
 have c1:=fun h=>FInt_ct h n h1 h2
 have c2:=fun h a b w=>lit_ct h a b (n:Rat) w (fits_sz hf)
 obtain ⟨q,hq⟩:∃q,q=(n:Rat):=⟨_,rfl⟩
 rw [← hq] at hf ⊢
 simp only [← hq] at c1 c2
 clear hq
 refine f0C ok D.expr_whole rfl ?_
 conv=>whnf
 repeat ((first|refine oI.z ?_|refine cI.z ?_);conv=>whnf)
 repeat' first|((first|(show LdN _ _ _ _ _;first|refine LdN.oA 0 rfl rfl ?_|refine LdN.oA 1 rfl rfl ?_)|(show CN _ _ _ _ _ _;first|(refine CN.f rfl (c1 _) (fun v h' hl2 hr=>?_);obtain ⟨s1,t1,rfl,hq1⟩:=hr)|(refine CN.f rfl (c2 _ _ _ (by assumption)) (fun v h' hl2 hr=>?_);obtain ⟨_,tt,bb,rfl,⟨op9,ar9,ng9,nn9,dd9,nm9,ss9,rfl,hE9⟩,t1,t2⟩:=hr))|((first|refine oI.z ?_|refine cI.z ?_))|intro (_:Nat)|(show Sto _ _ _ _;first|refine Sto.l 0 rfl rfl rfl ?_|refine Sto.l 1 rfl rfl rfl ?_)) <;> (conv=>whnf))
 all_goals
  have e:tt=mkL q:=by
   cases bb with
   | true=>exact (t1 rfl).2
   | false=>exact absurd hf (t2 rfl)
  subst e
  exact RN.a ⟨op9,ar9,ng9,nn9,dd9,nm9,ss9,rfl,hE9⟩
def OpX (h:Heap) (t:Tr) (n:Bool) (c d:Sl) (bb:Bool):Prop:=(bb=true→∃q,litT t=some q∧n=sg q∧IsFr h c d q)∧(bb=false→litT t=none)
theorem OpX.mono {h h':Heap} {t:Tr} {n:Bool} {c d:Sl} {bb:Bool} (w:OpX h t n c d bb) (hl:h.le h'):OpX h' t n c d bb:=⟨fun e=>by
  obtain ⟨q,h1,h2,h3⟩:=w.1 e
  exact ⟨q,h1,h2,h3.mono hl⟩,w.2⟩
theorem operandOf_ct (t:Tr) (hok:okG t) (h:Heap) (tb:Tb h) (op1 ar1:Int) (ng1:Bool) (nn1 dd1:Sl) (nm1:List Nat) (ss1:Sl) (w:IsE h [.int .i64 op1,.int .i64 ar1,.bool ng1,nn1.val,dd1.val,.string (txt nm1),ss1.val] t):Fn0 T F.expr_operandOf [.agg [.int .i64 op1,.int .i64 ar1,.bool ng1,nn1.val,dd1.val,.string (txt nm1),ss1.val].toArray] h fun v h'=>∃n,∃c d:Sl,∃bb,v=.agg #[.int .i64 op1,.int .i64 ar1,.bool ng1,nn1.val,dd1.val,.string (txt nm1),ss1.val,.bool n,c.val,d.val,.bool bb]∧OpX h' t n c d bb:=by
 have c1:=fun h tb w=>literal_g t hok h [.int .i64 op1,.int .i64 ar1,.bool ng1,nn1.val,dd1.val,.string (txt nm1),ss1.val] tb w
 refine f0C ok D.expr_operandOf rfl ?_
 conv=>whnf
 repeat ((first|refine oI.z ?_|refine cI.z ?_);conv=>whnf)
 repeat' first|((first|(show LdN _ _ _ _ _;first|refine LdN.oA 0 rfl rfl ?_|refine LdN.oA 1 rfl rfl ?_|refine LdN.oA 2 rfl rfl ?_)|(show CN _ _ _ _ _ _;(refine CN.f rfl (c1 _ (by assumption) (by assumption)) (fun v h' hl2 hr=>?_);obtain ⟨n5,c5,d5,bb5,rfl,t1,t2⟩:=hr))|((first|refine oI.z ?_|refine cI.z ?_))|intro (_:Nat)|(show Sto _ _ _ _;first|refine Sto.l 0 rfl rfl rfl ?_|refine Sto.l 1 rfl rfl rfl ?_)) <;> (conv=>whnf))
 all_goals exact RN.a ⟨n5,c5,d5,bb5,rfl,fun x=>by obtain ⟨q,y1,-,y2,y3⟩:=t1 x;exact ⟨q,y1,y2,y3⟩,t2⟩
theorem equals_ct (t:Tr) (hok:okG t) (h:Heap) (op1 ar1:Int) (ng1:Bool) (nn1 dd1:Sl) (nm1:List Nat) (ss1:Sl) (n1:Bool) (c1 d1:Sl) (bb1:Bool) (x:OpX h t n1 c1 d1 bb1) (n:Int) (hn1:-1≤n) (hn2:n≤1):
  Fn0 T F.expr_operand_equals [.agg #[.int .i64 op1,.int .i64 ar1,.bool ng1,nn1.val,dd1.val,.string (txt nm1),ss1.val,.bool n1,c1.val,d1.val,.bool bb1],.int .i64 n] h fun v h'=>v=.bool (dec (litT t=some (n:Rat))):=by
 obtain ⟨x1,x2⟩:=x
 have k1:=fun h=>FInt_ct h n (by omega) (by omega)
 have hfn:=fits_int n (by omega) (by omega)
 obtain ⟨N,hN⟩:∃N,N=(n:Rat):=⟨_,rfl⟩
 rw [← hN] at hfn ⊢
 simp only [← hN] at k1
 clear hN
 cases bb1 with
 | false=>
  have e:=x2 rfl
  rw [dec_false (by rw [e];simp)]
  refine f0C ok D.expr_operand_equals rfl ?_
  conv=>whnf
  repeat ((first|refine oI.z ?_|refine cI.z ?_);conv=>whnf)
  repeat' first|((first|((first|refine oI.z ?_|refine cI.z ?_))|intro (_:Nat)|refine Ld.o 0 rfl rfl ?_|refine DrN.run (by decide +kernel) ?_) <;> (conv=>whnf))
  all_goals exact RN.a rfl
 | true=>
  obtain ⟨q,e,rfl,hq⟩:=x1 rfl
  have hfq:=litV_fitsG hok e
  have k2:=fun h s t w' w=>FCmp_ct h c1 d1 s t q N w w' (fits_sz hfq) (fits_sz hfn)
  have fin:eq (cmpQ q N) 0=dec (litT t=some N):=by
   rw [eq_dec]
   exact dec_congr (cmpQ_eq.trans ⟨fun z=>by rw [e,z],fun z=>Option.some.inj (e.symm.trans z)⟩)
  obtain ⟨C,hC⟩:∃C,C=cmpQ q N:=⟨_,rfl⟩
  simp only [← hC] at k2 fin
  rw [← fin]
  clear fin hC x1 x2
  refine f0C ok D.expr_operand_equals rfl ?_
  conv=>whnf
  repeat ((first|refine oI.z ?_|refine cI.z ?_);conv=>whnf)
  repeat' first|((first|(show LdN _ _ _ _ _;refine LdN.oA 0 rfl rfl ?_)|(show CN _ _ _ _ _ _;first|(refine CN.f rfl (k1 _) (fun v h' hl2 hr=>?_);obtain ⟨s5,t5,rfl,hq5⟩:=hr)|(refine CN.f rfl (k2 _ _ _ (by assumption) (by (iterate 30 try first|assumption|refine IsFr.mono ?_ (by assumption));first|done|assumption)) (fun v h' hl2 hr=>?_);subst hr))|((first|refine oI.z ?_|refine cI.z ?_))|refine ⟨fun _=>HasLe.o (by assumption),?_⟩|intro (_:Nat)|refine Ld.o 0 rfl rfl ?_|refine DrN.run (by decide +kernel) ?_) <;> (conv=>whnf))
  all_goals exact RN.a rfl
theorem LitF.yes {h:Heap} {v:Value} {q:Rat} (w:LitF h v (some q)):∃c d:Sl,v=.tuple #[.agg #[.bool (sg q),c.val,d.val],.bool true]∧IsFr h c d q:=by
 obtain ⟨n,c,d,bb,rfl,t1,t2⟩:=w
 cases bb with
 | true=>obtain ⟨q',y1,-,rfl,y3⟩:=t1 rfl;cases y1;exact ⟨c,d,rfl,y3⟩
 | false=>cases t2 rfl
theorem LitF.no {h:Heap} {v:Value} (w:LitF h v none):∃n,∃c d:Sl,v=.tuple #[.agg #[.bool n,c.val,d.val],.bool false]:=by
 obtain ⟨n,c,d,bb,rfl,t1,t2⟩:=w
 cases bb with
 | true=>obtain ⟨q',y1,-⟩:=t1 rfl;cases y1
 | false=>exact ⟨n,c,d,rfl⟩
theorem LitR.yes {h:Heap} {v:Value} {q:Rat} (w:LitR h v q) (hf:fits q):∃a,v=.tuple #[a,.bool true]∧VE h a (mkL q):=by
 obtain ⟨a,tt,b,rfl,ve,t1,t2⟩:=w
 cases b with
 | true=>obtain ⟨-,rfl⟩:=t1 rfl;exact ⟨a,rfl,ve⟩
 | false=>exact absurd hf (t2 rfl)
theorem LitR.no {h:Heap} {v:Value} {q:Rat} (w:LitR h v q) (hf:¬fits q):∃a tt,v=.tuple #[a,.bool false]∧VE h a tt:=by
 obtain ⟨a,tt,b,rfl,ve,t1,t2⟩:=w
 cases b with
 | true=>exact absurd (t1 rfl).1 hf
 | false=>exact ⟨a,tt,rfl,ve⟩
theorem negated_ct (t:Tr) (hok:okG t) (arg:Int) (neg:Bool) (l m name:List Nat) (h:Heap) (vs:List Value) (tb:Tb h) (w:IsE h vs (.mk 4 arg neg l m name [t])):Fn0 T F.expr_negated [.agg vs.toArray] h fun v h'=>VE h' v (negS (.mk 4 arg neg l m name [t]) t):=by
 obtain ⟨a,b,s,rfl,ho,ha,hv,hb,hk⟩:=w.isK
 have hkl:s.l=1:=hk.len
 have c1:=fun h vs tb w=>literal_g t hok h vs tb w
 cases hX:litT t with
 | some q=>
  have r1:negS (.mk 4 arg neg l m name [t]) t=mkL (-q):=by rw [negS,hX]
  have hfq:=litV_fitsG hok hX
  simp only [hX] at c1
  rw [r1]
  have c1:=fun h vs tb w=>(c1 h vs tb w).mono fun v h' _ r=>r.yes
  have c2:=fun h c d w=>Opposite_ct h c d q w ((fits_sz hfq).mono (by decide))
  have c3:=fun h c d (w:IsFr h c d q)=>(lit_ct h c d (-q) (isFr_neg w) (sz_neg' (fits_sz hfq))).mono fun v h' _ r=>r.yes (fits_neg hfq)
  obtain ⟨P,hP⟩:∃P,P=-q:=⟨_,rfl⟩
  simp only [← hP] at c2 c3 ⊢
  clear hP r1
  obtain ⟨bl3,off3,op3,ar3,ng3,nn3,dd3,nm3,ss3,hE3,hld3,hln3,hix3⟩:=hk.kidP 0 _ rfl
  refine f0C ok D.expr_negated rfl ?_
  conv=>whnf
  repeat ((first|refine oI.z ?_|refine cI.z ?_);conv=>whnf)
  repeat' first|((first|(show SeqN _ _ _ _ _ _ _;refine SeqN.go ?_)|(show LdN _ _ _ _ _;first|refine LdN.oA 0 rfl rfl ?_|refine LdN.oA 2 rfl rfl ?_|(refine LdN.hasN [.int .i64 op3,.int .i64 ar3,.bool ng3,nn3.val,dd3.val,.string (txt nm3),ss3.val] rfl (fun i v hv=>hld3 _ _ i v (by first|assumption|exact Heap.lr _) hv) ?_))|refine hix3 _ _ rfl ?_|((first|refine oI.z ?_|refine cI.z ?_))|intro (_:Nat)|(show CN _ _ _ _ _ _;first|(refine CN.f rfl (c1 _ _ (by assumption) (by assumption)) (fun v h' hl2 hr=>?_);obtain ⟨c5,d5,rfl,hq5⟩:=hr)|refine CN.quiet rfl (c2 _ _ _ (by assumption)) ?_|(refine CN.f rfl (c3 _ _ _ (by assumption)) (fun v h' hl2 hr=>?_);obtain ⟨_,rfl,op9,ar9,ng9,nn9,dd9,nm9,ss9,rfl,hE9⟩:=hr))|refine Ld.o 1 rfl rfl ?_|(show Sto _ _ _ _;first|refine Sto.l 0 rfl rfl rfl ?_|refine Sto.l 2 rfl rfl rfl ?_)) <;> (conv=>whnf))
  all_goals exact RN.a ⟨op9,ar9,ng9,nn9,dd9,nm9,ss9,rfl,hE9⟩
 | none=>
  have r2:isNeg t→negS (.mk 4 arg neg l m name [t]) t=kidT t:=fun x=>by rw [negS,hX];exact if_pos x
  have r3:¬isNeg t→negS (.mk 4 arg neg l m name [t]) t=.mk 4 arg neg l m name [t]:=fun x=>by rw [negS,hX];exact if_neg x
  simp only [hX] at c1
  have c1:=fun h vs tb w=>(c1 h vs tb w).mono fun v h' _ r=>r.no
  by_cases hn:isNeg t
  ·obtain ⟨k,ng',l',m',nm',ar',rfl,e2,hkk⟩:=isNeg_kidG hok hn
   rw [r2 hn,e2]
   clear r2 r3 hn e2
   obtain ⟨bl3,off3,op3,ar3,ng3,nn3,dd3,nm3,ss3,hE3,hld3,hln3,hix3⟩:=hk.kidP 0 _ rfl
   obtain ⟨e31,-,-,hv3,-,-,hk3⟩:=hE3.inv
   have hkl3:ss3.l=1:=hk3.len
   obtain ⟨bl5,off5,op5,ar5,ng5,nn5,dd5,nm5,ss5,hE5,hld5,hln5,hix5⟩:=hk3.kidP 0 _ rfl
   refine f0C ok D.expr_negated rfl ?_
   conv=>whnf
   repeat ((first|refine oI.z ?_|refine cI.z ?_);conv=>whnf)
   repeat' first|((first|(show SeqN _ _ _ _ _ _ _;refine SeqN.go ?_)|(show LdN _ _ _ _ _;first|refine LdN.oA 1 rfl rfl ?_|(refine LdN.hasN [.int .i64 op3,.int .i64 ar3,.bool ng3,nn3.val,dd3.val,.string (txt nm3),ss3.val] rfl (fun i v hv=>hld3 _ _ i v (by first|assumption|exact Heap.lr _) hv) ?_)|refine LdN.hasN [.int .i64 op5,.int .i64 ar5,.bool ng5,nn5.val,dd5.val,.string (txt nm5),ss5.val] rfl (fun i v hv=>hld5 _ _ i v (by assumption) hv) ?_)|refine hix3 _ _ rfl ?_|refine hix5 _ _ rfl ?_|((first|refine oI.z ?_|refine cI.z ?_))|intro (_:Nat)|(show Ld _ _ _ _;first|(refine Ld.of (hld3 _ _ 0 _ (by first|assumption|exact Heap.lr _) rfl) ?_)|(refine Ld.of (hld3 _ _ 6 _ (by first|assumption|exact Heap.lr _) rfl) ?_)|refine Ld.o 1 rfl rfl ?_|refine Ld.o 2 rfl rfl ?_)|(show CN _ _ _ _ _ _;(refine CN.f rfl (c1 _ _ (by assumption) (by assumption)) (fun v h' hl2 hr=>?_);obtain ⟨n5,c5,d5,rfl⟩:=hr))|(show Sto _ _ _ _;first|refine Sto.l 0 rfl rfl rfl ?_|refine Sto.l 1 rfl rfl rfl ?_)) <;> (conv=>whnf))|(refine cnd_eq (fun _=>?_) (fun _=>?_) <;> first|(exfalso;omega)|(conv=>whnf))
   all_goals exact RN.a ⟨op5,ar5,ng5,nn5,dd5,nm5,ss5,rfl,(by (iterate 30 try first|assumption|refine IsE.mono ?_ (by assumption));first|done|assumption)⟩
  ·rw [r3 hn]
   obtain ⟨bl3,off3,op3,ar3,ng3,nn3,dd3,nm3,ss3,hE3,hld3,hln3,hix3⟩:=hk.kidP 0 _ rfl
   have hne:op3≠4:=by
    obtain ⟨o,ar',ng',l',m',nm',ks'⟩:=t
    obtain ⟨rfl,-⟩:=hE3.inv
    exact hn
   clear r2 r3 hn
   refine f0C ok D.expr_negated rfl ?_
   conv=>whnf
   repeat ((first|refine oI.z ?_|refine cI.z ?_);conv=>whnf)
   repeat' first|((first|(show SeqN _ _ _ _ _ _ _;refine SeqN.go ?_)|(show LdN _ _ _ _ _;first|refine LdN.oA 1 rfl rfl ?_|refine LdN.oA 2 rfl rfl ?_|(refine LdN.hasN [.int .i64 op3,.int .i64 ar3,.bool ng3,nn3.val,dd3.val,.string (txt nm3),ss3.val] rfl (fun i v hv=>hld3 _ _ i v (by first|assumption|exact Heap.lr _) hv) ?_))|refine hix3 _ _ rfl ?_|((first|refine oI.z ?_|refine cI.z ?_))|intro (_:Nat)|(show Ld _ _ _ _;first|(refine Ld.of (hld3 _ _ 0 _ (by first|assumption|exact Heap.lr _) rfl) ?_)|refine Ld.o 1 rfl rfl ?_|refine Ld.o 2 rfl rfl ?_)|(show CN _ _ _ _ _ _;(refine CN.f rfl (c1 _ _ (by assumption) (by assumption)) (fun v h' hl2 hr=>?_);obtain ⟨n5,c5,d5,rfl⟩:=hr))|(show Sto _ _ _ _;first|refine Sto.l 0 rfl rfl rfl ?_|refine Sto.l 1 rfl rfl rfl ?_)) <;> (conv=>whnf))|(refine cnd_eq (fun _=>?_) (fun _=>?_) <;> first|(exfalso;omega)|(conv=>whnf))
   all_goals exact RN.a ⟨4,arg,neg,a,b,name,s,rfl,(by (iterate 30 try first|assumption|refine IsE.mono ?_ (by assumption));first|done|assumption)⟩
theorem powQ_sz {q:Rat} (h:fits q) {n:Int} (h1:-32≤n) (h2:n≤32) (h0:n<0→nu q≠0):Sz 1073741824 (powQ q n):=by
 unfold powQ
 split
 ·exact (Sz.pow (Sz.inv (sz_fits h) (h0 (by assumption))) (by omega)).mono (by decide)
 ·exact (Sz.pow (sz_fits h) (by omega)).mono (by decide)
theorem raised_ct (t:Tr) (hok:okG t) (arg:Int) (ha1:-32≤arg) (ha2:arg≤32) (neg:Bool) (l m name:List Nat) (h:Heap) (vs:List Value) (tb:Tb h) (w:IsE h vs (.mk 9 arg neg l m name [t])):Fn0 T F.expr_raised [.agg vs.toArray] h fun v h'=>VE h' v (powS (.mk 9 arg neg l m name [t]) arg t):=by
 obtain ⟨a,b,s,rfl,ho,ha,hv,hb,hk⟩:=w.isK
 have hkl:s.l=1:=hk.len
 have c1:=fun h vs tb w=>literal_g t hok h vs tb w
 have r1:∀q,powV arg t=some q→powS (.mk 9 arg neg l m name [t]) arg t=mkL q:=fun q e=>by rw [powS,e]
 have r2:powV arg t=none→arg=0→powS (.mk 9 arg neg l m name [t]) arg t=mkL 1:=fun e x=>by rw [powS,e];exact if_pos x
 have r3:powV arg t=none→arg=1→powS (.mk 9 arg neg l m name [t]) arg t=t:=fun e x=>by rw [powS,e];exact (if_neg (by omega)).trans (if_pos x)
 have r4:powV arg t=none→arg≠0→arg≠1→powS (.mk 9 arg neg l m name [t]) arg t=.mk 9 arg neg l m name [t]:=fun e x y=>by rw [powS,e];exact (if_neg x).trans (if_neg y)
 have w1:=fun h=>whole_ct h 1 (by decide) (by decide)
 simp only [ratI1] at w1
 obtain ⟨bl3,off3,op3,ar3,ng3,nn3,dd3,nm3,ss3,hE3,hld3,hln3,hix3⟩:=hk.kidP 0 _ rfl
 cases hX:litT t with
 | none=>
  have p3:powV arg t=none:=by unfold powV;rw [hX];rfl
  replace r2:=r2 p3
  replace r3:=r3 p3
  replace r4:=r4 p3
  simp only [hX] at c1
  have c1:=fun h vs tb w=>(c1 h vs tb w).mono fun v h' _ r=>r.no
  obtain ⟨R,hR⟩:∃R,R=powS (.mk 9 arg neg l m name [t]) arg t:=⟨_,rfl⟩
  rw [← hR] at r2 r3 r4 ⊢
  replace r2:=Hq.mk r2
  replace r3:=Hq.mk r3
  replace r4:=Hq.mk r4
  clear hR r1
  refine f0C ok D.expr_raised rfl ?_
  conv=>whnf
  repeat ((first|refine oI.z ?_|refine cI.z ?_);conv=>whnf)
  repeat' first|((first|(show SeqN _ _ _ _ _ _ _;refine SeqN.go ?_)|(show LdN _ _ _ _ _;first|refine LdN.oA 1 rfl rfl ?_|refine LdN.oA 2 rfl rfl ?_|(refine LdN.hasN [.int .i64 op3,.int .i64 ar3,.bool ng3,nn3.val,dd3.val,.string (txt nm3),ss3.val] rfl (fun i v hv=>hld3 _ _ i v (by first|assumption|exact Heap.lr _) hv) ?_))|refine hix3 _ _ rfl ?_|((first|refine oI.z ?_|refine cI.z ?_))|intro (_:Nat)|(show CN _ _ _ _ _ _;first|(refine CN.f rfl (c1 _ _ (by assumption) (by assumption)) (fun v h' hl2 hr=>?_);obtain ⟨n5,c5,d5,rfl⟩:=hr)|(refine CN.f rfl (w1 _) (fun v h' hl2 hr=>?_);obtain ⟨op7,ar7,ng7,nn7,dd7,nm7,ss7,rfl,hE7⟩:=hr))|(show Ld _ _ _ _;first|refine Ld.o 1 rfl rfl ?_|refine Ld.o 2 rfl rfl ?_)|(show Sto _ _ _ _;first|refine Sto.l 0 rfl rfl rfl ?_|refine Sto.l 1 rfl rfl rfl ?_)) <;> (conv=>whnf))|(refine cnd_eq (fun _=>?_) (fun _=>?_) <;> first|(exfalso;omega)|(conv=>whnf))
  all_goals first
   | (rw [r2.out (by omega)];exact RN.a ⟨op7,ar7,ng7,nn7,dd7,nm7,ss7,rfl,hE7⟩)
   | (rw [r3.out (by omega)];exact RN.a ⟨op3,ar3,ng3,nn3,dd3,nm3,ss3,rfl,(by (iterate 30 try first|assumption|refine IsE.mono ?_ (by assumption));first|done|assumption)⟩)
   | (rw [r4.out (by omega) (by omega)];exact RN.a ⟨9,arg,neg,a,b,name,s,rfl,(by (iterate 30 try first|assumption|refine IsE.mono ?_ (by assumption));first|done|assumption)⟩)
 | some q=>
  have hfq:=litV_fitsG hok hX
  have p1:¬(arg<0∧signQ q=0)→powV arg t=fitO (powQ q arg):=fun x=>by
   unfold powV;rw [hX];exact if_neg fun z=>x ⟨z.1,signQ_zero.2 (nu_eq_zero.2 z.2)⟩
  have p2:arg<0→signQ q=0→powV arg t=none:=fun x y=>by
   unfold powV;rw [hX];exact if_pos ⟨x,nu_eq_zero.1 (signQ_zero.1 y)⟩
  simp only [hX] at c1
  have c1:=fun h vs tb w=>(c1 h vs tb w).mono fun v h' _ r=>r.yes
  have zz:¬(arg<0∧signQ q=0)→Sz 1073741824 (powQ q arg):=fun x=>powQ_sz hfq ha1 ha2 fun y z=>x ⟨y,signQ_zero.2 z⟩
  have pr:∀h' c d,¬arg<0→IsFr h' c d q→Fn0 T F.word_Frac_Pow [.agg #[.bool (sg q),Sl.val c,Sl.val d],.int .i64 arg] h' fun v h'=>∃s t:Sl,v=.agg #[.bool (sg (powQ q arg)),s.val,t.val]∧IsFr h' s t (powQ q arg):=fun h' c d x w=>by
   have:=FPow_i h' c d q arg arg.toNat (by omega) w ((sz_fits hfq).mono (by decide)) (by omega)
   rw [show q^arg.toNat=powQ q arg from (if_neg x:powQ q arg=_).symm] at this
   exact this
  have pi:∀h' c d,arg<0→signQ q≠0→IsFr h' d c q→Fn0 T F.word_Frac_Pow [.agg #[.bool (sg q⁻¹),Sl.val c,Sl.val d],.int .i64 (0-arg)] h' fun v h'=>∃s t:Sl,v=.agg #[.bool (sg (powQ q arg)),s.val,t.val]∧IsFr h' s t (powQ q arg):=fun h' c d x y w=>by
   have h0:nu q≠0:=fun z=>y (signQ_zero.2 z)
   have:=FPow_i h' c d q⁻¹ (0-arg) (-arg).toNat (by omega) ⟨by rw [nu_inv q h0];exact w.den,by rw [den_inv q h0];exact w.num⟩ ((Sz.inv (sz_fits hfq) h0).mono (by decide)) (by omega)
   rw [show q⁻¹^(-arg).toNat=powQ q arg from (if_pos x:powQ q arg=_).symm] at this
   exact this
  have sn:=fun h' c d w=>Sign_ct h' c d q w ((sz_fits hfq).mono (by decide))
  have iv:=fun h' c d w (x:signQ q≠0)=>Inverse_ct h' c d q w fun y=>x (signQ_zero.2 y)
  have li:=fun h' c d w x=>lit_ct h' c d (powQ q arg) w (zz x)
  obtain ⟨Sg,hSg⟩:∃S,S=signQ q:=⟨_,rfl⟩
  obtain ⟨P,hP⟩:∃P,P=powQ q arg:=⟨_,rfl⟩
  obtain ⟨I,hI⟩:∃P,P=q⁻¹:=⟨_,rfl⟩
  obtain ⟨V,hV⟩:∃P,P=powV arg t:=⟨_,rfl⟩
  obtain ⟨R,hR⟩:∃R,R=powS (.mk 9 arg neg l m name [t]) arg t:=⟨_,rfl⟩
  simp only [← hSg] at p1 p2 pi sn iv li
  simp only [← hP] at p1 pr pi li
  simp only [← hI] at pi iv
  simp only [← hV,← hR] at r1 r2 r3 r4
  simp only [← hV] at p1 p2
  rw [← hR]
  have y1:¬(arg<0∧Sg=0)→fits P→R=mkL P:=fun x z=>r1 P ((p1 x).trans (if_pos z))
  have y2:¬(arg<0∧Sg=0)→¬fits P→V=none:=fun x z=>(p1 x).trans (if_neg z)
  replace r2:=Hq.mk r2
  replace r3:=Hq.mk r3
  replace r4:=Hq.mk r4
  replace p2:=Hq.mk p2
  replace y1:=Hq.mk y1
  replace y2:=Hq.mk y2
  clear hSg hP hI hV hR r1 p1 zz
  by_cases hfp:fits P
  ·have li:=fun h' c d w x=>(li h' c d w x).mono fun v h' _ r=>r.yes hfp
   refine f0C ok D.expr_raised rfl ?_
   conv=>whnf
   repeat ((first|refine oI.z ?_|refine cI.z ?_);conv=>whnf)
   repeat' first|((first|(show SeqN _ _ _ _ _ _ _;refine SeqN.go ?_)|(show LdN _ _ _ _ _;first|refine LdN.oA 0 rfl rfl ?_|refine LdN.oA 1 rfl rfl ?_|refine LdN.oA 2 rfl rfl ?_|(refine LdN.hasN [.int .i64 op3,.int .i64 ar3,.bool ng3,nn3.val,dd3.val,.string (txt nm3),ss3.val] rfl (fun i v hv=>hld3 _ _ i v (by first|assumption|exact Heap.lr _) hv) ?_))|refine hix3 _ _ rfl ?_|((first|refine oI.z ?_|refine cI.z ?_))|intro (_:Nat)|(show CN _ _ _ _ _ _;first|(refine CN.f rfl (c1 _ _ (by assumption) (by assumption)) (fun v h' hl2 hr=>?_);obtain ⟨c5,d5,rfl,hq5⟩:=hr)|refine CN.quiet rfl (sn _ _ _ (by assumption)) ?_|refine CN.quiet rfl (iv _ _ _ (by assumption) (by omega)) ?_|(refine CN.f rfl (pr _ _ _ (by omega) (by assumption)) (fun v h' hl2 hr=>?_);obtain ⟨s7,t7,rfl,hq7⟩:=hr)|(refine CN.f rfl (pi _ _ _ (by omega) (by omega) (by assumption)) (fun v h' hl2 hr=>?_);obtain ⟨s7,t7,rfl,hq7⟩:=hr)|(refine CN.f rfl (li _ _ _ (by assumption) (by omega)) (fun v h' hl2 hr=>?_);obtain ⟨_,rfl,op9,ar9,ng9,nn9,dd9,nm9,ss9,rfl,hE9⟩:=hr))|refine WN.i64 (by omega) (by omega) ?_|(show Ld _ _ _ _;first|refine Ld.o 1 rfl rfl ?_|refine Ld.o 2 rfl rfl ?_)|(show Sto _ _ _ _;first|refine Sto.l 0 rfl rfl rfl ?_|refine Sto.l 1 rfl rfl rfl ?_|refine Sto.l 2 rfl rfl rfl ?_)) <;> (conv=>whnf))|(show cnd _ _ _;first|(refine cnd_lt (fun _=>?_) (fun _=>?_) <;> first|(exfalso;omega)|(conv=>whnf))|(refine cnd_le (fun _=>?_) (fun _=>?_) <;> first|(exfalso;omega)|(conv=>whnf))|(refine cnd_eq (fun _=>?_) (fun _=>?_) <;> first|(exfalso;omega)|(conv=>whnf))|(refine cnd_not ?_))
   all_goals first
    | (rw [y1.out (by omega) hfp];exact RN.a ⟨op9,ar9,ng9,nn9,dd9,nm9,ss9,rfl,hE9⟩)
    | (rw [r2.out (p2.out (by omega) (by omega)) (by omega)];exact RN.a ⟨op7,ar7,ng7,nn7,dd7,nm7,ss7,rfl,hE7⟩)
    | (rw [r3.out (p2.out (by omega) (by omega)) (by omega)];exact RN.a ⟨op3,ar3,ng3,nn3,dd3,nm3,ss3,rfl,(by assumption)⟩)
    | (rw [r4.out (p2.out (by omega) (by omega)) (by omega) (by omega)];exact RN.a ⟨9,arg,neg,a,b,name,s,rfl,(by (iterate 30 try first|assumption|refine IsE.mono ?_ (by assumption));first|done|assumption)⟩)
  ·have li:=fun h' c d w x=>(li h' c d w x).mono fun v h' _ r=>r.no hfp
   have y3:Hq (V=none):=⟨by
     by_cases z:arg<0∧Sg=0
     ·exact p2.out z.1 z.2
     ·exact y2.out z hfp⟩
   refine f0C ok D.expr_raised rfl ?_
   conv=>whnf
   repeat ((first|refine oI.z ?_|refine cI.z ?_);conv=>whnf)
   repeat' first|((first|(show SeqN _ _ _ _ _ _ _;refine SeqN.go ?_)|(show LdN _ _ _ _ _;first|refine LdN.oA 0 rfl rfl ?_|refine LdN.oA 1 rfl rfl ?_|refine LdN.oA 2 rfl rfl ?_|refine LdN.oA 3 rfl rfl ?_|(refine LdN.hasN [.int .i64 op3,.int .i64 ar3,.bool ng3,nn3.val,dd3.val,.string (txt nm3),ss3.val] rfl (fun i v hv=>hld3 _ _ i v (by (iterate 30 try first|assumption|exact Heap.lr _|refine Heap.lt ?_ (by assumption));first|done|assumption) hv) ?_))|refine hix3 _ _ rfl ?_|((first|refine oI.z ?_|refine cI.z ?_))|intro (_:Nat)|(show CN _ _ _ _ _ _;first|(refine CN.f rfl (c1 _ _ (by assumption) (by assumption)) (fun v h' hl2 hr=>?_);obtain ⟨c5,d5,rfl,hq5⟩:=hr)|refine CN.quiet rfl (sn _ _ _ (by assumption)) ?_|refine CN.quiet rfl (iv _ _ _ (by assumption) (by omega)) ?_|(refine CN.f rfl (pr _ _ _ (by omega) (by assumption)) (fun v h' hl2 hr=>?_);obtain ⟨s7,t7,rfl,hq7⟩:=hr)|(refine CN.f rfl (pi _ _ _ (by omega) (by omega) (by assumption)) (fun v h' hl2 hr=>?_);obtain ⟨s7,t7,rfl,hq7⟩:=hr)|(refine CN.f rfl (li _ _ _ (by assumption) (by omega)) (fun v h' hl2 hr=>?_);obtain ⟨_,tt,rfl,op9,ar9,ng9,nn9,dd9,nm9,ss9,rfl,hE9⟩:=hr)|(refine CN.f rfl (w1 _) (fun v h' hl2 hr=>?_);obtain ⟨op7,ar7,ng7,nn7,dd7,nm7,ss7,rfl,hE7⟩:=hr))|refine WN.i64 (by omega) (by omega) ?_|(show Ld _ _ _ _;first|refine Ld.o 1 rfl rfl ?_|refine Ld.o 2 rfl rfl ?_|refine Ld.o 3 rfl rfl ?_)|(show Sto _ _ _ _;first|refine Sto.l 0 rfl rfl rfl ?_|refine Sto.l 1 rfl rfl rfl ?_|refine Sto.l 2 rfl rfl rfl ?_)) <;> (conv=>whnf))|(show cnd _ _ _;first|(refine cnd_lt (fun _=>?_) (fun _=>?_) <;> first|(exfalso;omega)|(conv=>whnf))|(refine cnd_le (fun _=>?_) (fun _=>?_) <;> first|(exfalso;omega)|(conv=>whnf))|(refine cnd_eq (fun _=>?_) (fun _=>?_) <;> first|(exfalso;omega)|(conv=>whnf))|(refine cnd_not ?_))
   all_goals first
    | (rw [r2.out y3.out (by omega)];exact RN.a ⟨op7,ar7,ng7,nn7,dd7,nm7,ss7,rfl,hE7⟩)
    | (rw [r3.out y3.out (by omega)];exact RN.a ⟨op3,ar3,ng3,nn3,dd3,nm3,ss3,rfl,(by (iterate 30 try first|assumption|refine IsE.mono ?_ (by assumption));first|done|assumption)⟩)
    | (rw [r4.out y3.out (by omega) (by omega)];exact RN.a ⟨9,arg,neg,a,b,name,s,rfl,(by (iterate 30 try first|assumption|refine IsE.mono ?_ (by assumption));first|done|assumption)⟩)
theorem ratIm:((-1:Int):Rat)=-1:=rfl
def foldP (op:Int) (q r:Rat):Rat:=if op=5 then q+r else if op=6 then q-r else if op=7 then q*r else q / r

theorem added_ct (E t u:Tr) (hok1:okG t) (hok2:okG u) (h:Heap) (tb:Tb h) (op0 ar0:Int) (ng0:Bool) (nn0 dd0:Sl) (nm0:List Nat) (ss0:Sl) (op1 ar1:Int) (ng1:Bool) (nn1 dd1:Sl) (nm1:List Nat) (ss1:Sl) (n1:Bool) (c1 d1:Sl) (bb1:Bool) (op2 ar2:Int) (ng2:Bool) (nn2 dd2:Sl) (nm2:List Nat) (ss2:Sl) (n2:Bool) (c2 d2:Sl) (bb2:Bool) (hE0:IsE h [.int .i64 op0,.int .i64 ar0,.bool ng0,nn0.val,dd0.val,.string (txt nm0),ss0.val] E) (hE1:IsE h [.int .i64 op1,.int .i64 ar1,.bool ng1,nn1.val,dd1.val,.string (txt nm1),ss1.val] t) (hE2:IsE h [.int .i64 op2,.int .i64 ar2,.bool ng2,nn2.val,dd2.val,.string (txt nm2),ss2.val] u) (x1:OpX h t n1 c1 d1 bb1) (x2:OpX h u n2 c2 d2 bb2):
  Fn0 T F.expr_added [.agg #[.int .i64 op0,.int .i64 ar0,.bool ng0,nn0.val,dd0.val,.string (txt nm0),ss0.val],.agg #[.int .i64 op1,.int .i64 ar1,.bool ng1,nn1.val,dd1.val,.string (txt nm1),ss1.val,.bool n1,c1.val,d1.val,.bool bb1],.agg #[.int .i64 op2,.int .i64 ar2,.bool ng2,nn2.val,dd2.val,.string (txt nm2),ss2.val,.bool n2,c2.val,d2.val,.bool bb2]] h fun v h'=>VE h' v (addS E t u):=by
 have q1z:=fun h x=>equals_ct t hok1 h op1 ar1 ng1 nn1 dd1 nm1 ss1 n1 c1 d1 bb1 x 0 (by decide) (by decide)
 have q1o:=fun h x=>equals_ct t hok1 h op1 ar1 ng1 nn1 dd1 nm1 ss1 n1 c1 d1 bb1 x 1 (by decide) (by decide)
 have q1m:=fun h x=>equals_ct t hok1 h op1 ar1 ng1 nn1 dd1 nm1 ss1 n1 c1 d1 bb1 x (-1) (by decide) (by decide)
 have q2z:=fun h x=>equals_ct u hok2 h op2 ar2 ng2 nn2 dd2 nm2 ss2 n2 c2 d2 bb2 x 0 (by decide) (by decide)
 have q2o:=fun h x=>equals_ct u hok2 h op2 ar2 ng2 nn2 dd2 nm2 ss2 n2 c2 d2 bb2 x 1 (by decide) (by decide)
 simp only [ratI0] at q1z q2z
 simp only [ratI1] at q1o q2o
 simp only [ratIm] at q1m
 have w0:=fun h=>whole_ct h 0 (by decide) (by decide)
 simp only [ratI0] at w0
 have cn:=fun h vs tb w=>negated_ct u hok2 0 false [] [] [] h vs tb w
 have r1:litT t=some 0→addS E t u=u:=fun x=>if_pos x
 have r2:¬litT t=some 0→litT u=some 0→addS E t u=t:=fun x y=>(if_neg x).trans (if_pos y)
 have r3:¬litT t=some 0→¬litT u=some 0→isNeg u→addS E t u=nodeT 6 0 [t,kidT u]:=fun x y z=>(if_neg x).trans ((if_neg y).trans (if_pos z))
 have r4:¬litT t=some 0→¬litT u=some 0→¬isNeg u→addS E t u=E:=fun x y z=>(if_neg x).trans ((if_neg y).trans (if_neg z))
 obtain ⟨R,hR⟩:∃R,R=addS E t u:=⟨_,rfl⟩
 rw [← hR]
 simp only [← hR] at r1 r2 r3 r4
 clear hR
 by_cases hn:isNeg u
 ·obtain ⟨k,ng',l',m',nm',ar',rfl,e2,hkk⟩:=isNeg_kidG hok2 hn
  rw [e2] at r3
  replace r3:=fun x y=>r3 x y hn
  clear r4 hn e2
  obtain ⟨e31,-,-,hv3,-,-,hk3⟩:=hE2.inv
  have hkl3:ss2.l=1:=hk3.len
  obtain ⟨bl5,off5,op5,ar5,ng5,nn5,dd5,nm5,ss5,hE5,hld5,hln5,hix5⟩:=hk3.kidP 0 _ rfl
  obtain ⟨u,hu⟩:∃u,u=Tr.mk 4 ar' ng' l' m' nm' [k]:=⟨_,rfl⟩
  simp only [← hu] at *
  refine f0C ok D.expr_added rfl ?_
  conv=>whnf
  repeat ((first|refine oI.z ?_|refine cI.z ?_);conv=>whnf)
  repeat' first|((first|(show DrN _ _ _ _ _ _;refine DrN.own [_,_] (by exact List.Sublist.cons _ (List.Sublist.cons_cons _ (List.Sublist.cons_cons _ (List.nil_sublist _)))) (by decide +kernel) ?_)|(refine ⟨fun _=>⟨HasLe.o (by first|exact Heap.lr _|assumption|exact Heap.lt (by assumption) (by assumption)),by first|exact List.Sublist.cons _ (List.Sublist.cons_cons _ (List.Sublist.cons_cons _ (List.nil_sublist _)))|exact List.Sublist.cons _ (List.Sublist.cons _ (List.Sublist.cons_cons _ (List.Sublist.cons_cons _ (List.nil_sublist _))))⟩,?_⟩)|refine hix5 _ _ rfl ?_|((first|refine oI.z ?_|refine cI.z ?_))|intro (_:Nat)|(show LdN _ _ _ _ _;first|refine LdN.oA 0 rfl rfl ?_|refine LdN.oA 1 rfl rfl ?_|refine LdN.oA 2 rfl rfl ?_|(refine LdN.hasN [.int .i64 op5,.int .i64 ar5,.bool ng5,nn5.val,dd5.val,.string (txt nm5),ss5.val] rfl (fun i v hv=>hld5 _ _ i v (by (iterate 30 try first|assumption|refine Heap.lt ?_ (by assumption));first|done|assumption) hv) ?_))|(show CN _ _ _ _ _ _;first|(refine CN.f rfl (q1z _ (x1.mono (by first|assumption|exact Heap.lr _))) (fun v h' hl2 hr=>?_);subst hr)|(refine CN.f rfl (q2z _ (x2.mono (by assumption))) (fun v h' hl2 hr=>?_);subst hr)|(refine CN.keep 0 rfl rfl (fun hl2=>?_);refine CN.f rfl (enode_ct 6 0 (by decide) (by decide) [t,k] ⟨some ⟨_,0,none⟩,2,2⟩ _ (IsK.two (hE1.mono (by (iterate 30 try first|assumption|refine Heap.lt ?_ (by assumption));first|done|assumption)) (hE5.mono (by (iterate 30 try first|assumption|refine Heap.lt ?_ (by assumption));first|done|assumption)) rfl rfl hl2)) (fun v h3 hl3 hr=>?_);obtain ⟨op8,ar8,ng8,nn8,dd8,nm8,ss8,rfl,hE8⟩:=hr))|(show Ld _ _ _ _;first|refine Ld.o 0 rfl rfl ?_|refine Ld.o 1 rfl rfl ?_)|refine Sto.l 0 rfl rfl rfl ?_) <;> (conv=>whnf))|(show cnd _ _ _;first|(refine cnd_eq (fun _=>?_) (fun _=>?_) <;> first|(exfalso;omega)|(conv=>whnf))|(refine cnd_dec (fun _=>?_) (fun _=>?_) <;> first|(exfalso;omega)|(conv=>whnf)))
  all_goals first
   | (rw [r1 (by assumption)];exact RN.a ⟨op2,ar2,ng2,nn2,dd2,nm2,ss2,rfl,(by (iterate 30 try first|assumption|refine IsE.mono ?_ (by assumption));first|done|assumption)⟩)
   | (rw [r2 (by assumption) (by assumption)];exact RN.a ⟨op1,ar1,ng1,nn1,dd1,nm1,ss1,rfl,(by (iterate 30 try first|assumption|refine IsE.mono ?_ (by assumption));first|done|assumption)⟩)
   | (rw [r3 (by assumption) (by assumption)];exact RN.a ⟨op8,ar8,ng8,nn8,dd8,nm8,ss8,rfl,hE8⟩)
   | (rw [r4 (by assumption) (by assumption)];exact RN.a ⟨op0,ar0,ng0,nn0,dd0,nm0,ss0,rfl,(by assumption)⟩)
 ·replace r4:=fun x y=>r4 x y hn
  have hne:op2≠4:=by
   obtain ⟨o,ar',ng',l',m',nm',ks'⟩:=u
   obtain ⟨rfl,-⟩:=hE2.inv
   exact hn
  clear r3 hn
  refine f0C ok D.expr_added rfl ?_
  conv=>whnf
  repeat ((first|refine oI.z ?_|refine cI.z ?_);conv=>whnf)
  repeat' first|((first|(show LdN _ _ _ _ _;first|refine LdN.oA 0 rfl rfl ?_|refine LdN.oA 1 rfl rfl ?_|refine LdN.oA 2 rfl rfl ?_|refine LdN.oA 3 rfl rfl ?_)|(show CN _ _ _ _ _ _;first|(refine CN.f rfl (q1z _ (x1.mono (by first|assumption|exact Heap.lr _))) (fun v h' hl2 hr=>?_);subst hr)|(refine CN.f rfl (q2z _ (x2.mono (by assumption))) (fun v h' hl2 hr=>?_);subst hr))|((first|refine oI.z ?_|refine cI.z ?_))|intro (_:Nat)|refine Ld.o 1 rfl rfl ?_|refine Sto.l 0 rfl rfl rfl ?_) <;> (conv=>whnf))|(show cnd _ _ _;first|(refine cnd_eq (fun _=>?_) (fun _=>?_) <;> first|(exfalso;omega)|(conv=>whnf))|(refine cnd_dec (fun _=>?_) (fun _=>?_) <;> first|(exfalso;omega)|(conv=>whnf)))
  all_goals first
   | (rw [r1 (by assumption)];exact RN.a ⟨op2,ar2,ng2,nn2,dd2,nm2,ss2,rfl,(by (iterate 30 try first|assumption|refine IsE.mono ?_ (by assumption));first|done|assumption)⟩)
   | (rw [r2 (by assumption) (by assumption)];exact RN.a ⟨op1,ar1,ng1,nn1,dd1,nm1,ss1,rfl,(by (iterate 30 try first|assumption|refine IsE.mono ?_ (by assumption));first|done|assumption)⟩)
   | (rw [r3 (by assumption) (by assumption)];exact RN.a ⟨op8,ar8,ng8,nn8,dd8,nm8,ss8,rfl,hE8⟩)
   | (rw [r4 (by assumption) (by assumption)];exact RN.a ⟨op0,ar0,ng0,nn0,dd0,nm0,ss0,rfl,(by (iterate 30 try first|assumption|refine IsE.mono ?_ (by assumption));first|done|assumption)⟩)
theorem subtracted_ct (E t u:Tr) (hok1:okG t) (hok2:okG u) (h:Heap) (tb:Tb h) (op0 ar0:Int) (ng0:Bool) (nn0 dd0:Sl) (nm0:List Nat) (ss0:Sl) (op1 ar1:Int) (ng1:Bool) (nn1 dd1:Sl) (nm1:List Nat) (ss1:Sl) (n1:Bool) (c1 d1:Sl) (bb1:Bool) (op2 ar2:Int) (ng2:Bool) (nn2 dd2:Sl) (nm2:List Nat) (ss2:Sl) (n2:Bool) (c2 d2:Sl) (bb2:Bool) (hE0:IsE h [.int .i64 op0,.int .i64 ar0,.bool ng0,nn0.val,dd0.val,.string (txt nm0),ss0.val] E) (hE1:IsE h [.int .i64 op1,.int .i64 ar1,.bool ng1,nn1.val,dd1.val,.string (txt nm1),ss1.val] t) (hE2:IsE h [.int .i64 op2,.int .i64 ar2,.bool ng2,nn2.val,dd2.val,.string (txt nm2),ss2.val] u) (x1:OpX h t n1 c1 d1 bb1) (x2:OpX h u n2 c2 d2 bb2):
  Fn0 T F.expr_subtracted [.agg #[.int .i64 op0,.int .i64 ar0,.bool ng0,nn0.val,dd0.val,.string (txt nm0),ss0.val],.agg #[.int .i64 op1,.int .i64 ar1,.bool ng1,nn1.val,dd1.val,.string (txt nm1),ss1.val,.bool n1,c1.val,d1.val,.bool bb1],.agg #[.int .i64 op2,.int .i64 ar2,.bool ng2,nn2.val,dd2.val,.string (txt nm2),ss2.val,.bool n2,c2.val,d2.val,.bool bb2]] h fun v h'=>VE h' v (subS E t u):=by
 have q1z:=fun h x=>equals_ct t hok1 h op1 ar1 ng1 nn1 dd1 nm1 ss1 n1 c1 d1 bb1 x 0 (by decide) (by decide)
 have q1o:=fun h x=>equals_ct t hok1 h op1 ar1 ng1 nn1 dd1 nm1 ss1 n1 c1 d1 bb1 x 1 (by decide) (by decide)
 have q1m:=fun h x=>equals_ct t hok1 h op1 ar1 ng1 nn1 dd1 nm1 ss1 n1 c1 d1 bb1 x (-1) (by decide) (by decide)
 have q2z:=fun h x=>equals_ct u hok2 h op2 ar2 ng2 nn2 dd2 nm2 ss2 n2 c2 d2 bb2 x 0 (by decide) (by decide)
 have q2o:=fun h x=>equals_ct u hok2 h op2 ar2 ng2 nn2 dd2 nm2 ss2 n2 c2 d2 bb2 x 1 (by decide) (by decide)
 simp only [ratI0] at q1z q2z
 simp only [ratI1] at q1o q2o
 simp only [ratIm] at q1m
 have w0:=fun h=>whole_ct h 0 (by decide) (by decide)
 simp only [ratI0] at w0
 have cn:=fun h vs tb w=>negated_ct u hok2 0 false [] [] [] h vs tb w
 have r1:litT u=some 0→subS E t u=t:=fun x=>if_pos x
 have r2:¬litT u=some 0→litT t=some 0→subS E t u=negS (nodeT 4 0 [u]) u:=fun x y=>(if_neg x).trans (if_pos y)
 have r3:¬litT u=some 0→¬litT t=some 0→isNeg u→subS E t u=nodeT 5 0 [t,kidT u]:=fun x y z=>(if_neg x).trans ((if_neg y).trans (if_pos z))
 have r4:¬litT u=some 0→¬litT t=some 0→¬isNeg u→subS E t u=E:=fun x y z=>(if_neg x).trans ((if_neg y).trans (if_neg z))
 have r5:True:=trivial
 have r6:True:=trivial
 obtain ⟨R,hR⟩:∃R,R=subS E t u:=⟨_,rfl⟩
 rw [← hR]
 simp only [← hR] at r1 r2 r3 r4
 clear hR
 by_cases hn:isNeg u
 ·obtain ⟨k,ng',l',m',nm',ar',rfl,e2,hkk⟩:=isNeg_kidG hok2 hn
  rw [e2] at r3
  replace r3:=fun x y=>r3 x y hn
  clear r4 hn e2
  obtain ⟨e31,-,-,hv3,-,-,hk3⟩:=hE2.inv
  have hkl3:ss2.l=1:=hk3.len
  obtain ⟨bl5,off5,op5,ar5,ng5,nn5,dd5,nm5,ss5,hE5,hld5,hln5,hix5⟩:=hk3.kidP 0 _ rfl
  obtain ⟨u,hu⟩:∃u,u=Tr.mk 4 ar' ng' l' m' nm' [k]:=⟨_,rfl⟩
  simp only [← hu] at *
  refine f0C ok D.expr_subtracted rfl ?_
  conv=>whnf
  repeat ((first|refine oI.z ?_|refine cI.z ?_);conv=>whnf)
  repeat' first|((first|(show DrN _ _ _ _ _ _;refine DrN.own [_,_] (by exact List.Sublist.cons _ (List.Sublist.cons_cons _ (List.Sublist.cons_cons _ (List.nil_sublist _)))) (by decide +kernel) ?_)|(refine ⟨fun _=>⟨HasLe.o (by first|exact Heap.lr _|assumption|exact Heap.lt (by assumption) (by assumption)),by first|exact List.Sublist.cons _ (List.Sublist.cons_cons _ (List.Sublist.cons_cons _ (List.nil_sublist _)))|exact List.Sublist.cons _ (List.Sublist.cons _ (List.Sublist.cons_cons _ (List.Sublist.cons_cons _ (List.nil_sublist _))))⟩,?_⟩)|refine hix5 _ _ rfl ?_|((first|refine oI.z ?_|refine cI.z ?_))|intro (_:Nat)|(show LdN _ _ _ _ _;first|refine LdN.oA 0 rfl rfl ?_|refine LdN.oA 1 rfl rfl ?_|refine LdN.oA 2 rfl rfl ?_|(refine LdN.hasN [.int .i64 op5,.int .i64 ar5,.bool ng5,nn5.val,dd5.val,.string (txt nm5),ss5.val] rfl (fun i v hv=>hld5 _ _ i v (by (iterate 30 try first|assumption|refine Heap.lt ?_ (by assumption));first|done|assumption) hv) ?_))|(show CN _ _ _ _ _ _;first|(refine CN.f rfl (q1z _ (x1.mono (by assumption))) (fun v h' hl2 hr=>?_);subst hr)|(refine CN.f rfl (q2z _ (x2.mono (by first|assumption|exact Heap.lr _))) (fun v h' hl2 hr=>?_);subst hr)|(refine CN.keep 0 rfl rfl (fun hl2=>?_);refine CN.f rfl (enode_ct 4 0 (by decide) (by decide) [u] ⟨some ⟨_,0,none⟩,1,1⟩ _ (IsK.one (hE2.mono (by (iterate 30 try first|assumption|refine Heap.lt ?_ (by assumption));first|done|assumption)) rfl hl2)) (fun v h3 hl3 hr=>?_);obtain ⟨op8,ar8,ng8,nn8,dd8,nm8,ss8,rfl,hE8⟩:=hr)|(refine CN.f rfl (cn _ _ (by (iterate 30 try first|assumption|refine Tb.mono ?_ (by assumption));first|done|assumption) hE8) (fun v h' hl2 hr=>?_);obtain ⟨op6,ar6,ng6,nn6,dd6,nm6,ss6,rfl,hE6⟩:=hr)|(refine CN.keep 0 rfl rfl (fun hl2=>?_);refine CN.f rfl (enode_ct 5 0 (by decide) (by decide) [t,k] ⟨some ⟨_,0,none⟩,2,2⟩ _ (IsK.two (hE1.mono (by (iterate 30 try first|assumption|refine Heap.lt ?_ (by assumption));first|done|assumption)) (hE5.mono (by (iterate 30 try first|assumption|refine Heap.lt ?_ (by assumption));first|done|assumption)) rfl rfl hl2)) (fun v h3 hl3 hr=>?_);obtain ⟨op8,ar8,ng8,nn8,dd8,nm8,ss8,rfl,hE8⟩:=hr))|(show Ld _ _ _ _;first|refine Ld.o 0 rfl rfl ?_|refine Ld.o 1 rfl rfl ?_)|refine Sto.l 0 rfl rfl rfl ?_) <;> (conv=>whnf))|(show cnd _ _ _;first|(refine cnd_eq (fun _=>?_) (fun _=>?_) <;> first|(exfalso;omega)|(conv=>whnf))|(refine cnd_dec (fun _=>?_) (fun _=>?_) <;> first|(exfalso;omega)|(conv=>whnf)))
  all_goals first
   | (rw [r1 (by assumption)];exact RN.a ⟨op1,ar1,ng1,nn1,dd1,nm1,ss1,rfl,(by (iterate 30 try first|assumption|refine IsE.mono ?_ (by assumption));first|done|assumption)⟩)
   | (rw [r2 (by assumption) (by assumption)];exact RN.a ⟨op6,ar6,ng6,nn6,dd6,nm6,ss6,rfl,hE6⟩)
   | (rw [r3 (by assumption) (by assumption)];exact RN.a ⟨op8,ar8,ng8,nn8,dd8,nm8,ss8,rfl,hE8⟩)
   | (rw [r4 (by assumption) (by assumption)];exact RN.a ⟨op0,ar0,ng0,nn0,dd0,nm0,ss0,rfl,(by assumption)⟩)
 ·replace r4:=fun x y=>r4 x y hn
  have hne:op2≠4:=by
   obtain ⟨o,ar',ng',l',m',nm',ks'⟩:=u
   obtain ⟨rfl,-⟩:=hE2.inv
   exact hn
  clear r3 hn
  refine f0C ok D.expr_subtracted rfl ?_
  conv=>whnf
  repeat ((first|refine oI.z ?_|refine cI.z ?_);conv=>whnf)
  repeat' first|((first|(show LdN _ _ _ _ _;first|refine LdN.oA 0 rfl rfl ?_|refine LdN.oA 1 rfl rfl ?_|refine LdN.oA 2 rfl rfl ?_|refine LdN.oA 3 rfl rfl ?_)|(show CN _ _ _ _ _ _;first|(refine CN.f rfl (q1z _ (x1.mono (by assumption))) (fun v h' hl2 hr=>?_);subst hr)|(refine CN.f rfl (q2z _ (x2.mono (by first|assumption|exact Heap.lr _))) (fun v h' hl2 hr=>?_);subst hr)|(refine CN.keep 0 rfl rfl (fun hl2=>?_);refine CN.f rfl (enode_ct 4 0 (by decide) (by decide) [u] ⟨some ⟨_,0,none⟩,1,1⟩ _ (IsK.one (hE2.mono (by (iterate 30 try first|assumption|refine Heap.lt ?_ (by assumption));first|done|assumption)) rfl hl2)) (fun v h3 hl3 hr=>?_);obtain ⟨op8,ar8,ng8,nn8,dd8,nm8,ss8,rfl,hE8⟩:=hr)|(refine CN.f rfl (cn _ _ (by (iterate 30 try first|assumption|refine Tb.mono ?_ (by assumption));first|done|assumption) hE8) (fun v h' hl2 hr=>?_);obtain ⟨op6,ar6,ng6,nn6,dd6,nm6,ss6,rfl,hE6⟩:=hr))|((first|refine oI.z ?_|refine cI.z ?_))|intro (_:Nat)|refine Ld.o 1 rfl rfl ?_|refine Sto.l 0 rfl rfl rfl ?_) <;> (conv=>whnf))|(show cnd _ _ _;first|(refine cnd_eq (fun _=>?_) (fun _=>?_) <;> first|(exfalso;omega)|(conv=>whnf))|(refine cnd_dec (fun _=>?_) (fun _=>?_) <;> first|(exfalso;omega)|(conv=>whnf)))
  all_goals first
   | (rw [r1 (by assumption)];exact RN.a ⟨op1,ar1,ng1,nn1,dd1,nm1,ss1,rfl,(by (iterate 30 try first|assumption|refine IsE.mono ?_ (by assumption));first|done|assumption)⟩)
   | (rw [r2 (by assumption) (by assumption)];exact RN.a ⟨op6,ar6,ng6,nn6,dd6,nm6,ss6,rfl,hE6⟩)
   | (rw [r3 (by assumption) (by assumption)];exact RN.a ⟨op8,ar8,ng8,nn8,dd8,nm8,ss8,rfl,hE8⟩)
   | (rw [r4 (by assumption) (by assumption)];exact RN.a ⟨op0,ar0,ng0,nn0,dd0,nm0,ss0,rfl,(by (iterate 30 try first|assumption|refine IsE.mono ?_ (by assumption));first|done|assumption)⟩)
theorem multiplied_ct (E t u:Tr) (hok1:okG t) (hok2:okG u) (h:Heap) (tb:Tb h) (op0 ar0:Int) (ng0:Bool) (nn0 dd0:Sl) (nm0:List Nat) (ss0:Sl) (op1 ar1:Int) (ng1:Bool) (nn1 dd1:Sl) (nm1:List Nat) (ss1:Sl) (n1:Bool) (c1 d1:Sl) (bb1:Bool) (op2 ar2:Int) (ng2:Bool) (nn2 dd2:Sl) (nm2:List Nat) (ss2:Sl) (n2:Bool) (c2 d2:Sl) (bb2:Bool) (hE0:IsE h [.int .i64 op0,.int .i64 ar0,.bool ng0,nn0.val,dd0.val,.string (txt nm0),ss0.val] E) (hE1:IsE h [.int .i64 op1,.int .i64 ar1,.bool ng1,nn1.val,dd1.val,.string (txt nm1),ss1.val] t) (hE2:IsE h [.int .i64 op2,.int .i64 ar2,.bool ng2,nn2.val,dd2.val,.string (txt nm2),ss2.val] u) (x1:OpX h t n1 c1 d1 bb1) (x2:OpX h u n2 c2 d2 bb2):
  Fn0 T F.expr_multiplied [.agg #[.int .i64 op0,.int .i64 ar0,.bool ng0,nn0.val,dd0.val,.string (txt nm0),ss0.val],.agg #[.int .i64 op1,.int .i64 ar1,.bool ng1,nn1.val,dd1.val,.string (txt nm1),ss1.val,.bool n1,c1.val,d1.val,.bool bb1],.agg #[.int .i64 op2,.int .i64 ar2,.bool ng2,nn2.val,dd2.val,.string (txt nm2),ss2.val,.bool n2,c2.val,d2.val,.bool bb2]] h fun v h'=>VE h' v (mulS E t u):=by
 have q1z:=fun h x=>equals_ct t hok1 h op1 ar1 ng1 nn1 dd1 nm1 ss1 n1 c1 d1 bb1 x 0 (by decide) (by decide)
 have q1o:=fun h x=>equals_ct t hok1 h op1 ar1 ng1 nn1 dd1 nm1 ss1 n1 c1 d1 bb1 x 1 (by decide) (by decide)
 have q1m:=fun h x=>equals_ct t hok1 h op1 ar1 ng1 nn1 dd1 nm1 ss1 n1 c1 d1 bb1 x (-1) (by decide) (by decide)
 have q2z:=fun h x=>equals_ct u hok2 h op2 ar2 ng2 nn2 dd2 nm2 ss2 n2 c2 d2 bb2 x 0 (by decide) (by decide)
 have q2o:=fun h x=>equals_ct u hok2 h op2 ar2 ng2 nn2 dd2 nm2 ss2 n2 c2 d2 bb2 x 1 (by decide) (by decide)
 simp only [ratI0] at q1z q2z
 simp only [ratI1] at q1o q2o
 simp only [ratIm] at q1m
 have w0:=fun h=>whole_ct h 0 (by decide) (by decide)
 simp only [ratI0] at w0
 have cn:=fun h vs tb w=>negated_ct u hok2 0 false [] [] [] h vs tb w
 have r1:litT t=some 0→mulS E t u=mkL 0:=fun x=>if_pos (.inl x)
 have r2:litT u=some 0→mulS E t u=mkL 0:=fun x=>if_pos (.inr x)
 have r3:¬litT t=some 0→¬litT u=some 0→litT t=some 1→mulS E t u=u:=fun x y z=>(if_neg fun w=>w.elim x y).trans (if_pos z)
 have r4:¬litT t=some 0→¬litT u=some 0→¬litT t=some 1→litT u=some 1→mulS E t u=t:=fun x y z w=>(if_neg fun w=>w.elim x y).trans ((if_neg z).trans (if_pos w))
 have r5:¬litT t=some 0→¬litT u=some 0→¬litT t=some 1→¬litT u=some 1→litT t=some (-1)→mulS E t u=negS (nodeT 4 0 [u]) u:=fun x y z w v=>(if_neg fun w=>w.elim x y).trans ((if_neg z).trans ((if_neg w).trans (if_pos v)))
 have r6:¬litT t=some 0→¬litT u=some 0→¬litT t=some 1→¬litT u=some 1→¬litT t=some (-1)→mulS E t u=E:=fun x y z w v=>(if_neg fun w=>w.elim x y).trans ((if_neg z).trans ((if_neg w).trans (if_neg v)))
 obtain ⟨R,hR⟩:∃R,R=mulS E t u:=⟨_,rfl⟩
 rw [← hR]
 simp only [← hR] at r1 r2 r3 r4 r5 r6
 clear hR
 refine f0C ok D.expr_multiplied rfl ?_
 conv=>whnf
 repeat ((first|refine oI.z ?_|refine cI.z ?_);conv=>whnf)
 repeat' first|((first|(show LdN _ _ _ _ _;first|refine LdN.oA 0 rfl rfl ?_|refine LdN.oA 1 rfl rfl ?_|refine LdN.oA 2 rfl rfl ?_|refine LdN.oA 3 rfl rfl ?_)|(show CN _ _ _ _ _ _;first|(refine CN.f rfl (q1z _ (x1.mono (by first|assumption|exact Heap.lr _))) (fun v h' hl2 hr=>?_);subst hr)|(refine CN.f rfl (q1o _ (x1.mono (by (iterate 30 try first|assumption|refine Heap.lt ?_ (by assumption));first|done|assumption))) (fun v h' hl2 hr=>?_);subst hr)|(refine CN.f rfl (q1m _ (x1.mono (by (iterate 30 try first|assumption|refine Heap.lt ?_ (by assumption));first|done|assumption))) (fun v h' hl2 hr=>?_);subst hr)|(refine CN.f rfl (q2z _ (x2.mono (by assumption))) (fun v h' hl2 hr=>?_);subst hr)|(refine CN.f rfl (q2o _ (x2.mono (by (iterate 30 try first|assumption|refine Heap.lt ?_ (by assumption));first|done|assumption))) (fun v h' hl2 hr=>?_);subst hr)|(refine CN.keep 0 rfl rfl (fun hl2=>?_);refine CN.f rfl (enode_ct 4 0 (by decide) (by decide) [u] ⟨some ⟨_,0,none⟩,1,1⟩ _ (IsK.one (hE2.mono (by (iterate 30 try first|assumption|refine Heap.lt ?_ (by assumption));first|done|assumption)) rfl hl2)) (fun v h3 hl3 hr=>?_);obtain ⟨op8,ar8,ng8,nn8,dd8,nm8,ss8,rfl,hE8⟩:=hr)|(refine CN.f rfl (cn _ _ (by (iterate 30 try first|assumption|refine Tb.mono ?_ (by assumption));first|done|assumption) hE8) (fun v h' hl2 hr=>?_);obtain ⟨op6,ar6,ng6,nn6,dd6,nm6,ss6,rfl,hE6⟩:=hr)|(refine CN.f rfl (w0 _) (fun v h' hl2 hr=>?_);obtain ⟨op7,ar7,ng7,nn7,dd7,nm7,ss7,rfl,hE7⟩:=hr))|((first|refine oI.z ?_|refine cI.z ?_))|intro (_:Nat)|refine Sto.l 0 rfl rfl rfl ?_) <;> (conv=>whnf))|(refine cnd_dec (fun _=>?_) (fun _=>?_) <;> first|(exfalso;omega)|(conv=>whnf))
 all_goals first
  | (rw [r1 (by assumption)];exact RN.a ⟨op7,ar7,ng7,nn7,dd7,nm7,ss7,rfl,hE7⟩)
  | (rw [r2 (by assumption)];exact RN.a ⟨op7,ar7,ng7,nn7,dd7,nm7,ss7,rfl,hE7⟩)
  | (rw [r3 (by assumption) (by assumption) (by assumption)];exact RN.a ⟨op2,ar2,ng2,nn2,dd2,nm2,ss2,rfl,(by (iterate 30 try first|assumption|refine IsE.mono ?_ (by assumption));first|done|assumption)⟩)
  | (rw [r4 (by assumption) (by assumption) (by assumption) (by assumption)];exact RN.a ⟨op1,ar1,ng1,nn1,dd1,nm1,ss1,rfl,(by (iterate 30 try first|assumption|refine IsE.mono ?_ (by assumption));first|done|assumption)⟩)
  | (rw [r5 (by assumption) (by assumption) (by assumption) (by assumption) (by assumption)];exact RN.a ⟨op6,ar6,ng6,nn6,dd6,nm6,ss6,rfl,hE6⟩)
  | (rw [r6 (by assumption) (by assumption) (by assumption) (by assumption) (by assumption)];exact RN.a ⟨op0,ar0,ng0,nn0,dd0,nm0,ss0,rfl,(by (iterate 30 try first|assumption|refine IsE.mono ?_ (by assumption));first|done|assumption)⟩)
theorem sz_of_sr {k:Nat} {q:Rat} (s:Sr k q):Sz k q:=⟨by rw [ln_half];have:=s.num;omega,by rw [ln_half];have:=s.den;omega⟩
theorem foldP_sz {op:Int} {q r:Rat} (h:fits q) (h':fits r) (h0:op=8→nu r≠0) (hop:op=5∨op=6∨op=7∨op=8):Sz 1073741824 (foldP op q r):=by
 have a:=sr_of h
 have b:=sr_of h'
 unfold foldP
 repeat' split
 ·exact (sz_of_sr (sr_add a b)).mono (by decide)
 ·rw [Rat.sub_eq_add_neg];exact (sz_of_sr (sr_add a (Sr.neg b))).mono (by decide)
 ·exact (sz_of_sr (sr_mul a b)).mono (by decide)
 ·exact (sz_of_sr (sr_div a b (h0 (by omega)))).mono (by decide)
theorem fold_ct (q r:Rat) (fq:fits q) (fr:fits r) (h:Heap) (tb:Tb h) (op:Int) (hop:op=5∨op=6∨op=7∨op=8) (h0:op=8→nu r≠0) (a b c d:Sl) (hq:IsFr h a b q) (hr:IsFr h c d r):
  Fn0 T F.expr_fold [.int .i64 op,.agg #[.bool (sg q),a.val,b.val],.agg #[.bool (sg r),c.val,d.val]] h fun v h'=>∃s t:Sl,v=.agg #[.bool (sg (foldP op q r)),s.val,t.val]∧IsFr h' s t (foldP op q r):=by
 have r1:op=5→foldP op q r=q+r:=fun x=>if_pos x
 have r2:op=6→foldP op q r=q+-r:=fun x=>((if_neg (by omega)).trans (if_pos x)).trans (Rat.sub_eq_add_neg q r)
 have r3:op=7→foldP op q r=q*r:=fun x=>(if_neg (by omega)).trans ((if_neg (by omega)).trans (if_pos x))
 have r4:op=8→foldP op q r=q*r⁻¹:=fun x=>((if_neg (by omega)).trans ((if_neg (by omega)).trans (if_neg (by omega)))).trans (Rat.div_def q r)
 have s1:=fits_sz fq
 have s2:=fits_sz fr
 have k1:=fun h tb hq hr=>FAdd_ct h tb a b c d q r hq hr s1 s2
 have k2:=fun h tb hq (hr:IsFr h c d r)=>FAdd_ct h tb a b c d q (-r) hq (isFr_neg hr) s1 (sz_neg' s2)
 have k3:=fun h tb hq hr=>FMul_ct h tb a b c d q r hq hr s1 s2
 have k4:=fun h tb hq (hr:IsFr h c d r) (x:op=8)=>FMul_ct h tb a b d c q r⁻¹ hq ⟨by rw [nu_inv r (h0 x)];exact hr.den,by rw [den_inv r (h0 x)];exact hr.num⟩ s1 ((Sz.inv (sz_fits fr) (h0 x)).mono (by decide))
 have k5:=fun h hr=>Opposite_ct h c d r hr (s2.mono (by decide))
 have k6:=fun h hr (x:op=8)=>Inverse_ct h c d r hr (h0 x)
 obtain ⟨R,hR⟩:∃R,R=foldP op q r:=⟨_,rfl⟩
 obtain ⟨P1,h1⟩:∃R,R=q+r:=⟨_,rfl⟩
 obtain ⟨P2,h2⟩:∃R,R=q+-r:=⟨_,rfl⟩
 obtain ⟨P3,h3⟩:∃R,R=q*r:=⟨_,rfl⟩
 obtain ⟨P4,h4⟩:∃R,R=q*r⁻¹:=⟨_,rfl⟩
 obtain ⟨M,h5⟩:∃R,R=-r:=⟨_,rfl⟩
 obtain ⟨I,h6⟩:∃R,R=r⁻¹:=⟨_,rfl⟩
 rw [← hR] at r1 r2 r3 r4 ⊢
 simp only [← h1] at r1 k1
 simp only [← h2] at r2 k2
 simp only [← h3] at r3 k3
 simp only [← h4] at r4 k4
 simp only [← h5] at k2 k5
 simp only [← h6] at k4 k6
 replace r1:=Hq.mk r1
 replace r2:=Hq.mk r2
 replace r3:=Hq.mk r3
 replace r4:=Hq.mk r4
 clear hR h1 h2 h3 h4 h5 h6 h0
 refine f0C ok D.expr_fold rfl ?_
 conv=>whnf
 repeat ((first|refine oI.z ?_|refine cI.z ?_);conv=>whnf)
 repeat' first|((first|(show DrN _ _ _ _ _ _;refine DrN.own [_,_] (by exact List.Sublist.cons _ (List.Sublist.cons_cons _ (List.Sublist.cons_cons _ (List.nil_sublist _)))) (by decide +kernel) ?_)|(refine ⟨fun _=>⟨HasLe.o (by first|exact Heap.lr _|assumption|exact Heap.lt (by assumption) (by assumption)|exact Heap.lt (Heap.lt (by assumption) (by assumption)) (by assumption)),by repeat first|exact List.nil_sublist _|apply List.Sublist.cons_cons|apply List.Sublist.cons⟩,?_⟩)|((first|refine oI.z ?_|refine cI.z ?_))|intro (_:Nat)|(show LdN _ _ _ _ _;first|refine LdN.oA 0 rfl rfl ?_|refine LdN.oA 1 rfl rfl ?_|refine LdN.oA 2 rfl rfl ?_)|(show CN _ _ _ _ _ _;first|(refine CN.f rfl (k1 _ (by assumption) (by assumption) (by assumption)) (fun v h' hl2 hr=>?_);obtain ⟨s7,t7,rfl,hq7⟩:=hr)|(refine CN.f rfl (k2 _ (by assumption) (by assumption) (by assumption)) (fun v h' hl2 hr=>?_);obtain ⟨s7,t7,rfl,hq7⟩:=hr)|(refine CN.f rfl (k3 _ (by assumption) (by assumption) (by assumption)) (fun v h' hl2 hr=>?_);obtain ⟨s7,t7,rfl,hq7⟩:=hr)|(refine CN.f rfl (k4 _ (by assumption) (by assumption) (by assumption) (by omega)) (fun v h' hl2 hr=>?_);obtain ⟨s7,t7,rfl,hq7⟩:=hr)|refine CN.quiet rfl (k5 _ (by assumption)) ?_|refine CN.quiet rfl (k6 _ (by assumption) (by omega)) ?_)|refine Sto.l 0 rfl rfl rfl ?_) <;> (conv=>whnf))|(refine cnd_eq (fun _=>?_) (fun _=>?_) <;> first|(exfalso;omega)|(conv=>whnf))
 all_goals first
  | (rw [r1.out (by omega)];exact RN.a ⟨s7,t7,rfl,hq7⟩)
  | (rw [r2.out (by omega)];exact RN.a ⟨s7,t7,rfl,hq7⟩)
  | (rw [r3.out (by omega)];exact RN.a ⟨s7,t7,rfl,hq7⟩)
  | (rw [r4.out (by omega)];exact RN.a ⟨s7,t7,rfl,hq7⟩)
theorem combined_ct (t u:Tr) (op arg:Int) (hop:op=5∨op=6∨op=7∨op=8) (neg:Bool) (l m name:List Nat) (hok1:okG t) (hok2:okG u) (h:Heap) (vs:List Value) (tb:Tb h) (w:IsE h vs (.mk op arg neg l m name [t,u])):
  Fn0 T F.expr_combined [.agg vs.toArray] h fun v h'=>VE h' v (binS (.mk op arg neg l m name [t,u]) op t u):=by
 obtain ⟨a,b,s,rfl,ho,ha,hv,hb,hk⟩:=w.isK
 have hkl:s.l=2:=hk.len
 obtain ⟨bl1,off1,op1,ar1,ng1,nn1,dd1,nm1,ss1,hE1,hld1,hln1,hix1⟩:=hk.kidP 0 _ rfl
 obtain ⟨bl2,off2,op2,ar2,ng2,nn2,dd2,nm2,ss2,hE2,hld2,hln2,hix2⟩:=hk.kidP 1 _ rfl
 have q1z:=fun h op1 ar1 ng1 nn1 dd1 nm1 ss1 n1 c1 d1 bb1 x=>equals_ct t hok1 h op1 ar1 ng1 nn1 dd1 nm1 ss1 n1 c1 d1 bb1 x 0 (by decide) (by decide)
 have q2o:=fun h op2 ar2 ng2 nn2 dd2 nm2 ss2 n2 c2 d2 bb2 x=>equals_ct u hok2 h op2 ar2 ng2 nn2 dd2 nm2 ss2 n2 c2 d2 bb2 x 1 (by decide) (by decide)
 have w0:=fun h=>whole_ct h 0 (by decide) (by decide)
 simp only [ratI0] at q1z w0
 simp only [ratI1] at q2o
 have oA:=fun h tb w=>operandOf_ct t hok1 h tb op1 ar1 ng1 nn1 dd1 nm1 ss1 w
 have oB:=fun h tb w=>operandOf_ct u hok2 h tb op2 ar2 ng2 nn2 dd2 nm2 ss2 w
 have b5:foldT op t u=none→op=5→binS (.mk op arg neg l m name [t,u]) op t u=addS (.mk op arg neg l m name [t,u]) t u:=fun e x=>by rw [binS,e];exact if_pos x
 have b6:foldT op t u=none→op=6→binS (.mk op arg neg l m name [t,u]) op t u=subS (.mk op arg neg l m name [t,u]) t u:=fun e x=>by rw [binS,e];exact (if_neg (by omega)).trans (if_pos x)
 have b7:foldT op t u=none→op=7→binS (.mk op arg neg l m name [t,u]) op t u=mulS (.mk op arg neg l m name [t,u]) t u:=fun e x=>by rw [binS,e];exact (if_neg (by omega)).trans ((if_neg (by omega)).trans (if_pos x))
 have b8:foldT op t u=none→op=8→binS (.mk op arg neg l m name [t,u]) op t u=divS (.mk op arg neg l m name [t,u]) t u:=fun e x=>by rw [binS,e];exact (if_neg (by omega)).trans ((if_neg (by omega)).trans (if_neg (by omega)))
 have b81:foldT op t u=none→op=8→litT t=some 0→binS (.mk op arg neg l m name [t,u]) op t u=mkL 0:=fun e x y=>(b8 e x).trans (if_pos y)
 have b82:foldT op t u=none→op=8→¬litT t=some 0→litT u=some 1→binS (.mk op arg neg l m name [t,u]) op t u=t:=fun e x y z=>(b8 e x).trans ((if_neg y).trans (if_pos z))
 have b83:foldT op t u=none→op=8→¬litT t=some 0→¬litT u=some 1→binS (.mk op arg neg l m name [t,u]) op t u=.mk op arg neg l m name [t,u]:=fun e x y z=>(b8 e x).trans ((if_neg y).trans (if_neg z))
 have bf:∀q,foldT op t u=some q→binS (.mk op arg neg l m name [t,u]) op t u=mkL q:=fun q e=>by rw [binS,e]
 obtain ⟨R,hR⟩:∃R,R=binS (.mk op arg neg l m name [t,u]) op t u:=⟨_,rfl⟩
 rw [← hR]
 simp only [← hR] at b5 b6 b7 b81 b82 b83 bf
 clear hR b8
 refine f0C ok D.expr_combined rfl ?_
 repeat' first|(refine cI.seqN (a:=.region 1 _ _) ?_)|((first|refine oI.z ?_|refine cI.z ?_);conv=>whnf)|(intro (_:Nat);conv=>whnf)
 rename_i bx by_
 refine SeqN.cut (fun ρ h' L'=>∃(b3 b4:Nat) (n1:Bool) (c1 d1:Sl) (bb1:Bool) (n2:Bool) (c2 d2:Sl) (bb2:Bool),rd ρ 3=.pointer (some { block:=b3,off:=0 })∧rd ρ 4=.pointer (some { block:=b4,off:=0 })∧h.le h'∧OpX h' t n1 c1 d1 bb1∧OpX h' u n2 c2 d2 bb2∧(L'=(b4,.cells [.int .i64 op2,.int .i64 ar2,.bool ng2,nn2.val,dd2.val,.string (txt nm2),ss2.val,.bool n2,c2.val,d2.val,.bool bb2].toArray Ty.expr_operand (0,0))::(b3,.cells [.int .i64 op1,.int .i64 ar1,.bool ng1,nn1.val,dd1.val,.string (txt nm1),ss1.val,.bool n1,c1.val,d1.val,.bool bb1].toArray Ty.expr_operand (0,0))::[(by_,.cells [.int .i64 0,.int .i64 0,.bool false,.slice none 0 0,.slice none 0 0,.string (txt []),.slice none 0 0].toArray Ty.api_Expr (0,0)),(bx,.cells [.int .i64 op,.int .i64 arg,.bool neg,a.val,b.val,.string (txt name),s.val].toArray Ty.api_Expr (0,0))]∨L'=(b3,.cells [.int .i64 op1,.int .i64 ar1,.bool ng1,nn1.val,dd1.val,.string (txt nm1),ss1.val,.bool n1,c1.val,d1.val,.bool bb1].toArray Ty.expr_operand (0,0))::(b4,.cells [.int .i64 op2,.int .i64 ar2,.bool ng2,nn2.val,dd2.val,.string (txt nm2),ss2.val,.bool n2,c2.val,d2.val,.bool bb2].toArray Ty.expr_operand (0,0))::[(by_,.cells [.int .i64 0,.int .i64 0,.bool false,.slice none 0 0,.slice none 0 0,.string (txt []),.slice none 0 0].toArray Ty.api_Expr (0,0)),(bx,.cells [.int .i64 op,.int .i64 arg,.bool neg,a.val,b.val,.string (txt name),s.val].toArray Ty.api_Expr (0,0))])) ?_ ?_
 ·conv=>whnf
  repeat ((first|refine oI.z ?_|refine cI.z ?_);conv=>whnf)
  repeat' first|((first|(show DrN _ _ _ _ _ _;refine DrN.own [_] (by exact List.Sublist.cons _ (List.Sublist.cons_cons _ (List.nil_sublist _))) (by decide +kernel) ?_)|(refine ⟨fun _=>⟨HasLe.o (by first|exact Heap.lr _|assumption|exact Heap.lt (by assumption) (by assumption)|exact Heap.lt (Heap.lt (by assumption) (by assumption)) (by assumption)),by repeat first|exact List.nil_sublist _|apply List.Sublist.cons_cons|apply List.Sublist.cons⟩,?_⟩)|refine hix1 _ _ rfl ?_|refine hix2 _ _ rfl ?_|intro (_:Nat)|(show LdN _ _ _ _ _;first|(refine LdN.hasN [.int .i64 op1,.int .i64 ar1,.bool ng1,nn1.val,dd1.val,.string (txt nm1),ss1.val] rfl (fun i v hv=>hld1 _ _ i v (by first|assumption|exact Heap.lr _) hv) ?_)|(refine LdN.hasN [.int .i64 op2,.int .i64 ar2,.bool ng2,nn2.val,dd2.val,.string (txt nm2),ss2.val] rfl (fun i v hv=>hld2 _ _ i v (by first|assumption|exact Heap.lr _) hv) ?_))|(show CN _ _ _ _ _ _;first|(refine CN.f rfl (oA _ (by assumption) (hE1.mono (by first|assumption|exact Heap.lr _))) (fun v h' hl2 hr=>?_);obtain ⟨n1,c1,d1,bb1,rfl,x1⟩:=hr)|(refine CN.f rfl (oB _ (by (iterate 30 try first|assumption|refine Tb.mono ?_ (by assumption));first|done|assumption) (hE2.mono (by assumption))) (fun v h' hl2 hr=>?_);obtain ⟨n2,c2,d2,bb2,rfl,x2⟩:=hr))|refine Ld.o 0 rfl rfl ?_|(show Sto _ _ _ _;first|refine Sto.l 0 rfl rfl rfl ?_|refine Sto.l 1 rfl rfl rfl ?_)) <;> (conv=>whnf))|(refine Both.mk ?_ ?_ <;> (conv=>whnf))
  all_goals first
   | exact ⟨rfl,_,_,_,_,_,_,_,_,_,_,rfl,rfl,(by (iterate 30 try first|assumption|refine Heap.lt ?_ (by assumption));first|done|assumption),x1.mono (by assumption),x2.mono (by first|assumption|exact Heap.lr _),Or.inl rfl⟩
   | exact ⟨rfl,_,_,_,_,_,_,_,_,_,_,rfl,rfl,(by (iterate 30 try first|assumption|refine Heap.lt ?_ (by assumption));first|done|assumption),x1.mono (by assumption),x2.mono (by first|assumption|exact Heap.lr _),Or.inr rfl⟩
 conv=>whnf
 repeat intro _
 rename_i h7 L7 hj
 obtain ⟨b3,b4,n1,c1,d1,bb1,n2,c2,d2,bb2,e3,e4,hle,x1,x2,eL⟩:=hj
 conv at e3=>lhs;whnf
 subst e3
 conv at e4=>lhs;whnf
 subst e4
 replace tb:=tb.mono hle
 replace w:=w.mono hle
 replace hE1:=hE1.mono hle
 replace hE2:=hE2.mono hle
 replace hld1:=fun h' L i v (x:h7.le h')=>hld1 h' L i v (Heap.lt hle x)
 replace hld2:=fun h' L i v (x:h7.le h')=>hld2 h' L i v (Heap.lt hle x)
 clear hix1 hix2 hln1 hln2 oA oB
 clear hle
 by_cases hb2:bb1=true∧bb2=true
 ·obtain ⟨rfl,rfl⟩:=hb2
  obtain ⟨q,e1,rfl,f1⟩:=x1.1 rfl
  obtain ⟨r,e2,rfl,f2⟩:=x2.1 rfl
  have fq:=litV_fitsG hok1 e1
  have fr:=litV_fitsG hok2 e2
  have sn:=fun h' w=>Sign_ct h' c2 d2 r w ((fits_sz fr).mono (by decide))
  have ff:(op=8→signQ r≠0)→foldT op t u=fitO (foldP op q r):=fun x=>by
   unfold foldT
   rw [e1,e2]
   show foldQ op q r=_
   unfold foldQ foldP
   rcases hop with rfl|rfl|rfl|rfl
   ·rfl
   ·rfl
   ·rfl
   ·exact if_neg fun y=>x rfl (signQ_zero.2 (nu_eq_zero.2 y))
  have fz:op=8→signQ r=0→foldT op t u=none:=fun x y=>by
   unfold foldT
   rw [e1,e2]
   show foldQ op q r=none
   unfold foldQ
   rw [if_neg (by omega),if_neg (by omega),if_neg (by omega)]
   exact if_pos (nu_eq_zero.1 (signQ_zero.1 y))
  have fc:=fun h tb hq hr (x:op=8→signQ r≠0)=>fold_ct q r fq fr h tb op hop (fun y z=>x y (signQ_zero.2 z)) c1 d1 c2 d2 hq hr
  have li:=fun h' c d w (x:op=8→signQ r≠0)=>lit_ct h' c d (foldP op q r) w (foldP_sz fq fr (fun y z=>x y (signQ_zero.2 z)) hop)
  obtain ⟨Sg,hSg⟩:∃S,S=signQ r:=⟨_,rfl⟩
  obtain ⟨P,hP⟩:∃P,P=foldP op q r:=⟨_,rfl⟩
  obtain ⟨V,hV⟩:∃P,P=foldT op t u:=⟨_,rfl⟩
  simp only [← hSg] at sn ff fz fc li
  simp only [← hP] at ff fc li
  simp only [← hV] at b5 b6 b7 b81 b82 b83 bf ff fz
  clear hSg hP hV
  by_cases hz:op=8∧Sg=0
  ·have v0:=fz hz.1 hz.2
   replace b5:=Hq.mk (b5 v0)
   replace b6:=Hq.mk (b6 v0)
   replace b7:=Hq.mk (b7 v0)
   replace b81:=Hq.mk (b81 v0)
   replace b82:=Hq.mk (b82 v0)
   replace b83:=Hq.mk (b83 v0)
   obtain ⟨rfl,rfl⟩:=hz
   clear bf ff fz fc li hop
   rcases eL with rfl|rfl
   ·conv=>whnf
    repeat ((first|refine oI.z ?_|refine cI.z ?_);conv=>whnf)
    repeat' first|((first|(show SeqN _ _ _ _ _ _ _;refine SeqN.go ?_)|(show LdN _ _ _ _ _;first|refine LdN.oA 0 rfl rfl ?_|refine LdN.oA 1 rfl rfl ?_|refine LdN.oA 2 rfl rfl ?_|refine LdN.oA 3 rfl rfl ?_)|(show CN _ _ _ _ _ _;first|refine CN.quiet rfl (sn _ (by assumption)) ?_|(refine CN.f rfl (q1z _ _ _ _ _ _ _ _ _ _ _ _ (x1.mono (by first|assumption|exact Heap.lr _))) (fun v h' hl2 hr=>?_);subst hr)|(refine CN.f rfl (q2o _ _ _ _ _ _ _ _ _ _ _ _ (x2.mono (by assumption))) (fun v h' hl2 hr=>?_);subst hr)|(refine CN.f rfl (w0 _) (fun v h' hl2 hr=>?_);obtain ⟨op7,ar7,ng7,nn7,dd7,nm7,ss7,rfl,hE7⟩:=hr))|((first|refine oI.z ?_|refine cI.z ?_))|(show Ld _ _ _ _;first|refine Ld.o 0 rfl rfl ?_|refine Ld.o 1 rfl rfl ?_|refine Ld.o 3 rfl rfl ?_)|refine Sto.l 2 rfl rfl rfl ?_) <;> (conv=>whnf))|(show cnd _ _ _;first|(refine cnd_eq (fun _=>?_) (fun _=>?_) <;> first|(exfalso;omega)|(conv=>whnf))|(refine cnd_not ?_)|(refine cnd_dec (fun _=>?_) (fun _=>?_) <;> first|(exfalso;omega)|(conv=>whnf)))
    all_goals first
     | (rw [b5.out (by omega)];exact RN.a ⟨op6,ar6,ng6,nn6,dd6,nm6,ss6,rfl,hE6⟩)
     | (rw [b6.out (by omega)];exact RN.a ⟨op6,ar6,ng6,nn6,dd6,nm6,ss6,rfl,hE6⟩)
     | (rw [b7.out (by omega)];exact RN.a ⟨op6,ar6,ng6,nn6,dd6,nm6,ss6,rfl,hE6⟩)
     | (rw [b81.out (by omega) (by assumption)];exact RN.a ⟨op7,ar7,ng7,nn7,dd7,nm7,ss7,rfl,hE7⟩)
     | (rw [b82.out (by omega) (by assumption) (by assumption)];exact RN.a ⟨op1,ar1,ng1,nn1,dd1,nm1,ss1,rfl,(by (iterate 30 try first|assumption|refine IsE.mono ?_ (by assumption));first|done|assumption)⟩)
     | (rw [b83.out (by omega) (by assumption) (by assumption)];exact RN.a ⟨_,arg,neg,a,b,name,s,rfl,(by (iterate 30 try first|assumption|refine IsE.mono ?_ (by assumption));first|done|assumption)⟩)
   ·conv=>whnf
    repeat ((first|refine oI.z ?_|refine cI.z ?_);conv=>whnf)
    repeat' first|((first|(show SeqN _ _ _ _ _ _ _;refine SeqN.go ?_)|(show LdN _ _ _ _ _;first|refine LdN.oA 0 rfl rfl ?_|refine LdN.oA 1 rfl rfl ?_|refine LdN.oA 2 rfl rfl ?_|refine LdN.oA 3 rfl rfl ?_)|(show CN _ _ _ _ _ _;first|refine CN.quiet rfl (sn _ (by assumption)) ?_|(refine CN.f rfl (q1z _ _ _ _ _ _ _ _ _ _ _ _ (x1.mono (by first|assumption|exact Heap.lr _))) (fun v h' hl2 hr=>?_);subst hr)|(refine CN.f rfl (q2o _ _ _ _ _ _ _ _ _ _ _ _ (x2.mono (by assumption))) (fun v h' hl2 hr=>?_);subst hr)|(refine CN.f rfl (w0 _) (fun v h' hl2 hr=>?_);obtain ⟨op7,ar7,ng7,nn7,dd7,nm7,ss7,rfl,hE7⟩:=hr))|((first|refine oI.z ?_|refine cI.z ?_))|(show Ld _ _ _ _;first|refine Ld.o 0 rfl rfl ?_|refine Ld.o 1 rfl rfl ?_|refine Ld.o 3 rfl rfl ?_)|refine Sto.l 2 rfl rfl rfl ?_) <;> (conv=>whnf))|(show cnd _ _ _;first|(refine cnd_eq (fun _=>?_) (fun _=>?_) <;> first|(exfalso;omega)|(conv=>whnf))|(refine cnd_not ?_)|(refine cnd_dec (fun _=>?_) (fun _=>?_) <;> first|(exfalso;omega)|(conv=>whnf)))
    all_goals first
     | (rw [b5.out (by omega)];exact RN.a ⟨op6,ar6,ng6,nn6,dd6,nm6,ss6,rfl,hE6⟩)
     | (rw [b6.out (by omega)];exact RN.a ⟨op6,ar6,ng6,nn6,dd6,nm6,ss6,rfl,hE6⟩)
     | (rw [b7.out (by omega)];exact RN.a ⟨op6,ar6,ng6,nn6,dd6,nm6,ss6,rfl,hE6⟩)
     | (rw [b81.out (by omega) (by assumption)];exact RN.a ⟨op7,ar7,ng7,nn7,dd7,nm7,ss7,rfl,hE7⟩)
     | (rw [b82.out (by omega) (by assumption) (by assumption)];exact RN.a ⟨op1,ar1,ng1,nn1,dd1,nm1,ss1,rfl,(by (iterate 30 try first|assumption|refine IsE.mono ?_ (by assumption));first|done|assumption)⟩)
     | (rw [b83.out (by omega) (by assumption) (by assumption)];exact RN.a ⟨_,arg,neg,a,b,name,s,rfl,(by (iterate 30 try first|assumption|refine IsE.mono ?_ (by assumption));first|done|assumption)⟩)
  ·have hz':op=8→Sg≠0:=fun x y=>hz ⟨x,y⟩
   have v1:=ff hz'
   have fc:=fun h tb hq hr=>fc h tb hq hr hz'
   have li:=fun h' c d w=>li h' c d w hz'
   replace hz':=Hq.mk hz'
   by_cases hfp:fits P
   ·have r1:=bf P (v1.trans (if_pos hfp))
    have li:=fun h' c d w=>(li h' c d w).mono fun v h' _ r=>r.yes hfp
    rw [r1]
    clear b5 b6 b7 b81 b82 b83 bf ff fz v1 hz
    rcases eL with rfl|rfl
    ·conv=>whnf
     repeat ((first|refine oI.z ?_|refine cI.z ?_);conv=>whnf)
     repeat' first|((first|(show SeqN _ _ _ _ _ _ _;refine SeqN.go ?_)|(show LdN _ _ _ _ _;first|refine LdN.oA 0 rfl rfl ?_|refine LdN.oA 1 rfl rfl ?_|refine LdN.oA 3 rfl rfl ?_)|(show CN _ _ _ _ _ _;first|refine CN.quiet rfl (sn _ (by assumption)) ?_|(refine CN.f rfl (fc _ (by assumption) (by assumption) (by assumption)) (fun v h' hl2 hr=>?_);obtain ⟨s7,t7,rfl,hq7⟩:=hr)|(refine CN.f rfl (li _ _ _ (by assumption)) (fun v h' hl2 hr=>?_);obtain ⟨_,rfl,op9,ar9,ng9,nn9,dd9,nm9,ss9,rfl,hE9⟩:=hr))|((first|refine oI.z ?_|refine cI.z ?_))|intro (_:Nat)|(show Ld _ _ _ _;first|refine Ld.o 0 rfl rfl ?_|refine Ld.o 1 rfl rfl ?_|refine Ld.o 3 rfl rfl ?_)|(show Sto _ _ _ _;first|refine Sto.l 0 rfl rfl rfl ?_|refine Sto.l 3 rfl rfl rfl ?_)) <;> (conv=>whnf))|(show cnd _ _ _;first|(refine cnd_eq (fun _=>?_) (fun _=>?_) <;> first|(exfalso;omega)|(conv=>whnf))|(refine cnd_not ?_))
     all_goals first
      | exact RN.a ⟨op9,ar9,ng9,nn9,dd9,nm9,ss9,rfl,hE9⟩
      | exact absurd (by assumption) (hz'.out (by omega))
    ·conv=>whnf
     repeat ((first|refine oI.z ?_|refine cI.z ?_);conv=>whnf)
     repeat' first|((first|(show SeqN _ _ _ _ _ _ _;refine SeqN.go ?_)|(show LdN _ _ _ _ _;first|refine LdN.oA 0 rfl rfl ?_|refine LdN.oA 1 rfl rfl ?_|refine LdN.oA 3 rfl rfl ?_)|(show CN _ _ _ _ _ _;first|refine CN.quiet rfl (sn _ (by assumption)) ?_|(refine CN.f rfl (fc _ (by assumption) (by assumption) (by assumption)) (fun v h' hl2 hr=>?_);obtain ⟨s7,t7,rfl,hq7⟩:=hr)|(refine CN.f rfl (li _ _ _ (by assumption)) (fun v h' hl2 hr=>?_);obtain ⟨_,rfl,op9,ar9,ng9,nn9,dd9,nm9,ss9,rfl,hE9⟩:=hr))|((first|refine oI.z ?_|refine cI.z ?_))|intro (_:Nat)|(show Ld _ _ _ _;first|refine Ld.o 0 rfl rfl ?_|refine Ld.o 1 rfl rfl ?_|refine Ld.o 3 rfl rfl ?_)|(show Sto _ _ _ _;first|refine Sto.l 0 rfl rfl rfl ?_|refine Sto.l 3 rfl rfl rfl ?_)) <;> (conv=>whnf))|(show cnd _ _ _;first|(refine cnd_eq (fun _=>?_) (fun _=>?_) <;> first|(exfalso;omega)|(conv=>whnf))|(refine cnd_not ?_))
     all_goals first
      | exact RN.a ⟨op9,ar9,ng9,nn9,dd9,nm9,ss9,rfl,hE9⟩
      | exact absurd (by assumption) (hz'.out (by omega))
   ·have v0:=v1.trans (if_neg hfp)
    have li:=fun h' c d w=>(li h' c d w).mono fun v h' _ r=>r.no hfp
    replace b5:=Hq.mk (b5 v0)
    replace b6:=Hq.mk (b6 v0)
    replace b7:=Hq.mk (b7 v0)
    replace b81:=Hq.mk (b81 v0)
    replace b82:=Hq.mk (b82 v0)
    replace b83:=Hq.mk (b83 v0)
    clear bf ff fz v1 hz
    rcases eL with rfl|rfl
    ·conv=>whnf
     repeat ((first|refine oI.z ?_|refine cI.z ?_);conv=>whnf)
     repeat' first|((first|(show SeqN _ _ _ _ _ _ _;refine SeqN.go ?_)|(show LdN _ _ _ _ _;first|refine LdN.oA 0 rfl rfl ?_|refine LdN.oA 1 rfl rfl ?_|refine LdN.oA 2 rfl rfl ?_|refine LdN.oA 3 rfl rfl ?_|refine LdN.oA 4 rfl rfl ?_)|(show CN _ _ _ _ _ _;first|refine CN.quiet rfl (sn _ (by assumption)) ?_|(refine CN.f rfl (fc _ (by assumption) (by assumption) (by assumption)) (fun v h' hl2 hr=>?_);obtain ⟨s7,t7,rfl,hq7⟩:=hr)|(refine CN.f rfl (li _ _ _ (by assumption)) (fun v h' hl2 hr=>?_);obtain ⟨_,tt,rfl,op9,ar9,ng9,nn9,dd9,nm9,ss9,rfl,hE9⟩:=hr)|(refine CN.f rfl (added_ct _ t u hok1 hok2 _ (by (iterate 30 try first|assumption|refine Tb.mono ?_ (by assumption));first|done|assumption) _ _ _ _ _ _ _ _ _ _ _ _ _ _ _ _ _ _ _ _ _ _ _ _ _ _ _ _ _ (w.mono (by (iterate 30 try first|assumption|refine Heap.lt ?_ (by assumption));first|done|assumption)) (hE1.mono (by (iterate 30 try first|assumption|refine Heap.lt ?_ (by assumption));first|done|assumption)) (hE2.mono (by (iterate 30 try first|assumption|refine Heap.lt ?_ (by assumption));first|done|assumption)) (x1.mono (by (iterate 30 try first|assumption|refine Heap.lt ?_ (by assumption));first|done|assumption)) (x2.mono (by (iterate 30 try first|assumption|refine Heap.lt ?_ (by assumption));first|done|assumption))) (fun v h' hl2 hr=>?_);obtain ⟨op6,ar6,ng6,nn6,dd6,nm6,ss6,rfl,hE6⟩:=hr)|(refine CN.f rfl (subtracted_ct _ t u hok1 hok2 _ (by (iterate 30 try first|assumption|refine Tb.mono ?_ (by assumption));first|done|assumption) _ _ _ _ _ _ _ _ _ _ _ _ _ _ _ _ _ _ _ _ _ _ _ _ _ _ _ _ _ (w.mono (by (iterate 30 try first|assumption|refine Heap.lt ?_ (by assumption));first|done|assumption)) (hE1.mono (by (iterate 30 try first|assumption|refine Heap.lt ?_ (by assumption));first|done|assumption)) (hE2.mono (by (iterate 30 try first|assumption|refine Heap.lt ?_ (by assumption));first|done|assumption)) (x1.mono (by (iterate 30 try first|assumption|refine Heap.lt ?_ (by assumption));first|done|assumption)) (x2.mono (by (iterate 30 try first|assumption|refine Heap.lt ?_ (by assumption));first|done|assumption))) (fun v h' hl2 hr=>?_);obtain ⟨op6,ar6,ng6,nn6,dd6,nm6,ss6,rfl,hE6⟩:=hr)|(refine CN.f rfl (multiplied_ct _ t u hok1 hok2 _ (by (iterate 30 try first|assumption|refine Tb.mono ?_ (by assumption));first|done|assumption) _ _ _ _ _ _ _ _ _ _ _ _ _ _ _ _ _ _ _ _ _ _ _ _ _ _ _ _ _ (w.mono (by (iterate 30 try first|assumption|refine Heap.lt ?_ (by assumption));first|done|assumption)) (hE1.mono (by (iterate 30 try first|assumption|refine Heap.lt ?_ (by assumption));first|done|assumption)) (hE2.mono (by (iterate 30 try first|assumption|refine Heap.lt ?_ (by assumption));first|done|assumption)) (x1.mono (by (iterate 30 try first|assumption|refine Heap.lt ?_ (by assumption));first|done|assumption)) (x2.mono (by (iterate 30 try first|assumption|refine Heap.lt ?_ (by assumption));first|done|assumption))) (fun v h' hl2 hr=>?_);obtain ⟨op6,ar6,ng6,nn6,dd6,nm6,ss6,rfl,hE6⟩:=hr)|(refine CN.f rfl (q1z _ _ _ _ _ _ _ _ _ _ _ _ (x1.mono (by (iterate 30 try first|assumption|exact Heap.lr _|refine Heap.lt ?_ (by assumption));first|done|assumption))) (fun v h' hl2 hr=>?_);subst hr)|(refine CN.f rfl (q2o _ _ _ _ _ _ _ _ _ _ _ _ (x2.mono (by (iterate 30 try first|assumption|refine Heap.lt ?_ (by assumption));first|done|assumption))) (fun v h' hl2 hr=>?_);subst hr)|(refine CN.f rfl (w0 _) (fun v h' hl2 hr=>?_);obtain ⟨op7,ar7,ng7,nn7,dd7,nm7,ss7,rfl,hE7⟩:=hr))|((first|refine oI.z ?_|refine cI.z ?_))|intro (_:Nat)|(show Ld _ _ _ _;first|refine Ld.o 0 rfl rfl ?_|refine Ld.o 1 rfl rfl ?_|refine Ld.o 3 rfl rfl ?_|refine Ld.o 4 rfl rfl ?_)|(show Sto _ _ _ _;first|refine Sto.l 0 rfl rfl rfl ?_|refine Sto.l 2 rfl rfl rfl ?_|refine Sto.l 3 rfl rfl rfl ?_)) <;> (conv=>whnf))|(show cnd _ _ _;first|(refine cnd_eq (fun _=>?_) (fun _=>?_) <;> first|(exfalso;omega)|(conv=>whnf))|(refine cnd_not ?_)|(refine cnd_dec (fun _=>?_) (fun _=>?_) <;> first|(exfalso;omega)|(conv=>whnf)))
     all_goals first
      | (rw [b5.out (by omega)];exact RN.a ⟨op6,ar6,ng6,nn6,dd6,nm6,ss6,rfl,hE6⟩)
      | (rw [b6.out (by omega)];exact RN.a ⟨op6,ar6,ng6,nn6,dd6,nm6,ss6,rfl,hE6⟩)
      | (rw [b7.out (by omega)];exact RN.a ⟨op6,ar6,ng6,nn6,dd6,nm6,ss6,rfl,hE6⟩)
      | (rw [b81.out (by omega) (by assumption)];exact RN.a ⟨op7,ar7,ng7,nn7,dd7,nm7,ss7,rfl,hE7⟩)
      | (rw [b82.out (by omega) (by assumption) (by assumption)];exact RN.a ⟨op1,ar1,ng1,nn1,dd1,nm1,ss1,rfl,(by (iterate 30 try first|assumption|refine IsE.mono ?_ (by assumption));first|done|assumption)⟩)
      | (rw [b83.out (by omega) (by assumption) (by assumption)];exact RN.a ⟨_,arg,neg,a,b,name,s,rfl,(by (iterate 30 try first|assumption|refine IsE.mono ?_ (by assumption));first|done|assumption)⟩)
      | exact absurd (by assumption) (hz'.out (by omega))
    ·conv=>whnf
     repeat ((first|refine oI.z ?_|refine cI.z ?_);conv=>whnf)
     repeat' first|((first|(show SeqN _ _ _ _ _ _ _;refine SeqN.go ?_)|(show LdN _ _ _ _ _;first|refine LdN.oA 0 rfl rfl ?_|refine LdN.oA 1 rfl rfl ?_|refine LdN.oA 2 rfl rfl ?_|refine LdN.oA 3 rfl rfl ?_|refine LdN.oA 4 rfl rfl ?_)|(show CN _ _ _ _ _ _;first|refine CN.quiet rfl (sn _ (by assumption)) ?_|(refine CN.f rfl (fc _ (by assumption) (by assumption) (by assumption)) (fun v h' hl2 hr=>?_);obtain ⟨s7,t7,rfl,hq7⟩:=hr)|(refine CN.f rfl (li _ _ _ (by assumption)) (fun v h' hl2 hr=>?_);obtain ⟨_,tt,rfl,op9,ar9,ng9,nn9,dd9,nm9,ss9,rfl,hE9⟩:=hr)|(refine CN.f rfl (added_ct _ t u hok1 hok2 _ (by (iterate 30 try first|assumption|refine Tb.mono ?_ (by assumption));first|done|assumption) _ _ _ _ _ _ _ _ _ _ _ _ _ _ _ _ _ _ _ _ _ _ _ _ _ _ _ _ _ (w.mono (by (iterate 30 try first|assumption|refine Heap.lt ?_ (by assumption));first|done|assumption)) (hE1.mono (by (iterate 30 try first|assumption|refine Heap.lt ?_ (by assumption));first|done|assumption)) (hE2.mono (by (iterate 30 try first|assumption|refine Heap.lt ?_ (by assumption));first|done|assumption)) (x1.mono (by (iterate 30 try first|assumption|refine Heap.lt ?_ (by assumption));first|done|assumption)) (x2.mono (by (iterate 30 try first|assumption|refine Heap.lt ?_ (by assumption));first|done|assumption))) (fun v h' hl2 hr=>?_);obtain ⟨op6,ar6,ng6,nn6,dd6,nm6,ss6,rfl,hE6⟩:=hr)|(refine CN.f rfl (subtracted_ct _ t u hok1 hok2 _ (by (iterate 30 try first|assumption|refine Tb.mono ?_ (by assumption));first|done|assumption) _ _ _ _ _ _ _ _ _ _ _ _ _ _ _ _ _ _ _ _ _ _ _ _ _ _ _ _ _ (w.mono (by (iterate 30 try first|assumption|refine Heap.lt ?_ (by assumption));first|done|assumption)) (hE1.mono (by (iterate 30 try first|assumption|refine Heap.lt ?_ (by assumption));first|done|assumption)) (hE2.mono (by (iterate 30 try first|assumption|refine Heap.lt ?_ (by assumption));first|done|assumption)) (x1.mono (by (iterate 30 try first|assumption|refine Heap.lt ?_ (by assumption));first|done|assumption)) (x2.mono (by (iterate 30 try first|assumption|refine Heap.lt ?_ (by assumption));first|done|assumption))) (fun v h' hl2 hr=>?_);obtain ⟨op6,ar6,ng6,nn6,dd6,nm6,ss6,rfl,hE6⟩:=hr)|(refine CN.f rfl (multiplied_ct _ t u hok1 hok2 _ (by (iterate 30 try first|assumption|refine Tb.mono ?_ (by assumption));first|done|assumption) _ _ _ _ _ _ _ _ _ _ _ _ _ _ _ _ _ _ _ _ _ _ _ _ _ _ _ _ _ (w.mono (by (iterate 30 try first|assumption|refine Heap.lt ?_ (by assumption));first|done|assumption)) (hE1.mono (by (iterate 30 try first|assumption|refine Heap.lt ?_ (by assumption));first|done|assumption)) (hE2.mono (by (iterate 30 try first|assumption|refine Heap.lt ?_ (by assumption));first|done|assumption)) (x1.mono (by (iterate 30 try first|assumption|refine Heap.lt ?_ (by assumption));first|done|assumption)) (x2.mono (by (iterate 30 try first|assumption|refine Heap.lt ?_ (by assumption));first|done|assumption))) (fun v h' hl2 hr=>?_);obtain ⟨op6,ar6,ng6,nn6,dd6,nm6,ss6,rfl,hE6⟩:=hr)|(refine CN.f rfl (q1z _ _ _ _ _ _ _ _ _ _ _ _ (x1.mono (by (iterate 30 try first|assumption|exact Heap.lr _|refine Heap.lt ?_ (by assumption));first|done|assumption))) (fun v h' hl2 hr=>?_);subst hr)|(refine CN.f rfl (q2o _ _ _ _ _ _ _ _ _ _ _ _ (x2.mono (by (iterate 30 try first|assumption|refine Heap.lt ?_ (by assumption));first|done|assumption))) (fun v h' hl2 hr=>?_);subst hr)|(refine CN.f rfl (w0 _) (fun v h' hl2 hr=>?_);obtain ⟨op7,ar7,ng7,nn7,dd7,nm7,ss7,rfl,hE7⟩:=hr))|((first|refine oI.z ?_|refine cI.z ?_))|intro (_:Nat)|(show Ld _ _ _ _;first|refine Ld.o 0 rfl rfl ?_|refine Ld.o 1 rfl rfl ?_|refine Ld.o 3 rfl rfl ?_|refine Ld.o 4 rfl rfl ?_)|(show Sto _ _ _ _;first|refine Sto.l 0 rfl rfl rfl ?_|refine Sto.l 2 rfl rfl rfl ?_|refine Sto.l 3 rfl rfl rfl ?_)) <;> (conv=>whnf))|(show cnd _ _ _;first|(refine cnd_eq (fun _=>?_) (fun _=>?_) <;> first|(exfalso;omega)|(conv=>whnf))|(refine cnd_not ?_)|(refine cnd_dec (fun _=>?_) (fun _=>?_) <;> first|(exfalso;omega)|(conv=>whnf)))
     all_goals first
      | (rw [b5.out (by omega)];exact RN.a ⟨op6,ar6,ng6,nn6,dd6,nm6,ss6,rfl,hE6⟩)
      | (rw [b6.out (by omega)];exact RN.a ⟨op6,ar6,ng6,nn6,dd6,nm6,ss6,rfl,hE6⟩)
      | (rw [b7.out (by omega)];exact RN.a ⟨op6,ar6,ng6,nn6,dd6,nm6,ss6,rfl,hE6⟩)
      | (rw [b81.out (by omega) (by assumption)];exact RN.a ⟨op7,ar7,ng7,nn7,dd7,nm7,ss7,rfl,hE7⟩)
      | (rw [b82.out (by omega) (by assumption) (by assumption)];exact RN.a ⟨op1,ar1,ng1,nn1,dd1,nm1,ss1,rfl,(by (iterate 30 try first|assumption|refine IsE.mono ?_ (by assumption));first|done|assumption)⟩)
      | (rw [b83.out (by omega) (by assumption) (by assumption)];exact RN.a ⟨_,arg,neg,a,b,name,s,rfl,(by (iterate 30 try first|assumption|refine IsE.mono ?_ (by assumption));first|done|assumption)⟩)
      | exact absurd (by assumption) (hz'.out (by omega))
 ·have v0:foldT op t u=none:=by
   unfold foldT
   cases bb1 with
   | false=>rw [x1.2 rfl];rfl
   | true=>
    cases bb2 with
    | false=>obtain ⟨q,e1,-⟩:=x1.1 rfl;rw [x2.2 rfl,e1];rfl
    | true=>exact absurd ⟨rfl,rfl⟩ hb2
  replace b5:=Hq.mk (b5 v0)
  replace b6:=Hq.mk (b6 v0)
  replace b7:=Hq.mk (b7 v0)
  replace b81:=Hq.mk (b81 v0)
  replace b82:=Hq.mk (b82 v0)
  replace b83:=Hq.mk (b83 v0)
  clear bf v0
  cases bb1 with
  | false=>
   rcases eL with rfl|rfl
   ·conv=>whnf
    repeat ((first|refine oI.z ?_|refine cI.z ?_);conv=>whnf)
    repeat' first|((first|(show SeqN _ _ _ _ _ _ _;refine SeqN.go ?_)|(show LdN _ _ _ _ _;first|refine LdN.oA 0 rfl rfl ?_|refine LdN.oA 1 rfl rfl ?_|refine LdN.oA 2 rfl rfl ?_|refine LdN.oA 3 rfl rfl ?_)|(show CN _ _ _ _ _ _;first|(refine CN.f rfl (added_ct _ t u hok1 hok2 _ (by assumption) _ _ _ _ _ _ _ _ _ _ _ _ _ _ _ _ _ _ _ _ _ _ _ _ _ _ _ _ _ (w.mono (by first|assumption|exact Heap.lr _)) (hE1.mono (by first|assumption|exact Heap.lr _)) (hE2.mono (by first|assumption|exact Heap.lr _)) (x1.mono (by first|assumption|exact Heap.lr _)) (x2.mono (by first|assumption|exact Heap.lr _))) (fun v h' hl2 hr=>?_);obtain ⟨op6,ar6,ng6,nn6,dd6,nm6,ss6,rfl,hE6⟩:=hr)|(refine CN.f rfl (subtracted_ct _ t u hok1 hok2 _ (by assumption) _ _ _ _ _ _ _ _ _ _ _ _ _ _ _ _ _ _ _ _ _ _ _ _ _ _ _ _ _ (w.mono (by first|assumption|exact Heap.lr _)) (hE1.mono (by first|assumption|exact Heap.lr _)) (hE2.mono (by first|assumption|exact Heap.lr _)) (x1.mono (by first|assumption|exact Heap.lr _)) (x2.mono (by first|assumption|exact Heap.lr _))) (fun v h' hl2 hr=>?_);obtain ⟨op6,ar6,ng6,nn6,dd6,nm6,ss6,rfl,hE6⟩:=hr)|(refine CN.f rfl (multiplied_ct _ t u hok1 hok2 _ (by assumption) _ _ _ _ _ _ _ _ _ _ _ _ _ _ _ _ _ _ _ _ _ _ _ _ _ _ _ _ _ (w.mono (by first|assumption|exact Heap.lr _)) (hE1.mono (by first|assumption|exact Heap.lr _)) (hE2.mono (by first|assumption|exact Heap.lr _)) (x1.mono (by first|assumption|exact Heap.lr _)) (x2.mono (by first|assumption|exact Heap.lr _))) (fun v h' hl2 hr=>?_);obtain ⟨op6,ar6,ng6,nn6,dd6,nm6,ss6,rfl,hE6⟩:=hr)|(refine CN.f rfl (q1z _ _ _ _ _ _ _ _ _ _ _ _ (x1.mono (by first|assumption|exact Heap.lr _))) (fun v h' hl2 hr=>?_);subst hr)|(refine CN.f rfl (q2o _ _ _ _ _ _ _ _ _ _ _ _ (x2.mono (by assumption))) (fun v h' hl2 hr=>?_);subst hr)|(refine CN.f rfl (w0 _) (fun v h' hl2 hr=>?_);obtain ⟨op7,ar7,ng7,nn7,dd7,nm7,ss7,rfl,hE7⟩:=hr))|((first|refine oI.z ?_|refine cI.z ?_))|(show Ld _ _ _ _;first|refine Ld.o 1 rfl rfl ?_|refine Ld.o 3 rfl rfl ?_)|refine Sto.l 2 rfl rfl rfl ?_) <;> (conv=>whnf))|(show cnd _ _ _;first|(refine cnd_eq (fun _=>?_) (fun _=>?_) <;> first|(exfalso;omega)|(conv=>whnf))|(refine cnd_dec (fun _=>?_) (fun _=>?_) <;> first|(exfalso;omega)|(conv=>whnf)))
    all_goals first
     | (rw [b5.out (by omega)];exact RN.a ⟨op6,ar6,ng6,nn6,dd6,nm6,ss6,rfl,hE6⟩)
     | (rw [b6.out (by omega)];exact RN.a ⟨op6,ar6,ng6,nn6,dd6,nm6,ss6,rfl,hE6⟩)
     | (rw [b7.out (by omega)];exact RN.a ⟨op6,ar6,ng6,nn6,dd6,nm6,ss6,rfl,hE6⟩)
     | (rw [b81.out (by omega) (by assumption)];exact RN.a ⟨op7,ar7,ng7,nn7,dd7,nm7,ss7,rfl,hE7⟩)
     | (rw [b82.out (by omega) (by assumption) (by assumption)];exact RN.a ⟨op1,ar1,ng1,nn1,dd1,nm1,ss1,rfl,(by (iterate 30 try first|assumption|refine IsE.mono ?_ (by assumption));first|done|assumption)⟩)
     | (rw [b83.out (by omega) (by assumption) (by assumption)];exact RN.a ⟨_,arg,neg,a,b,name,s,rfl,(by (iterate 30 try first|assumption|refine IsE.mono ?_ (by assumption));first|done|assumption)⟩)
   ·conv=>whnf
    repeat ((first|refine oI.z ?_|refine cI.z ?_);conv=>whnf)
    repeat' first|((first|(show SeqN _ _ _ _ _ _ _;refine SeqN.go ?_)|(show LdN _ _ _ _ _;first|refine LdN.oA 0 rfl rfl ?_|refine LdN.oA 1 rfl rfl ?_|refine LdN.oA 2 rfl rfl ?_|refine LdN.oA 3 rfl rfl ?_)|(show CN _ _ _ _ _ _;first|(refine CN.f rfl (added_ct _ t u hok1 hok2 _ (by assumption) _ _ _ _ _ _ _ _ _ _ _ _ _ _ _ _ _ _ _ _ _ _ _ _ _ _ _ _ _ (w.mono (by first|assumption|exact Heap.lr _)) (hE1.mono (by first|assumption|exact Heap.lr _)) (hE2.mono (by first|assumption|exact Heap.lr _)) (x1.mono (by first|assumption|exact Heap.lr _)) (x2.mono (by first|assumption|exact Heap.lr _))) (fun v h' hl2 hr=>?_);obtain ⟨op6,ar6,ng6,nn6,dd6,nm6,ss6,rfl,hE6⟩:=hr)|(refine CN.f rfl (subtracted_ct _ t u hok1 hok2 _ (by assumption) _ _ _ _ _ _ _ _ _ _ _ _ _ _ _ _ _ _ _ _ _ _ _ _ _ _ _ _ _ (w.mono (by first|assumption|exact Heap.lr _)) (hE1.mono (by first|assumption|exact Heap.lr _)) (hE2.mono (by first|assumption|exact Heap.lr _)) (x1.mono (by first|assumption|exact Heap.lr _)) (x2.mono (by first|assumption|exact Heap.lr _))) (fun v h' hl2 hr=>?_);obtain ⟨op6,ar6,ng6,nn6,dd6,nm6,ss6,rfl,hE6⟩:=hr)|(refine CN.f rfl (multiplied_ct _ t u hok1 hok2 _ (by assumption) _ _ _ _ _ _ _ _ _ _ _ _ _ _ _ _ _ _ _ _ _ _ _ _ _ _ _ _ _ (w.mono (by first|assumption|exact Heap.lr _)) (hE1.mono (by first|assumption|exact Heap.lr _)) (hE2.mono (by first|assumption|exact Heap.lr _)) (x1.mono (by first|assumption|exact Heap.lr _)) (x2.mono (by first|assumption|exact Heap.lr _))) (fun v h' hl2 hr=>?_);obtain ⟨op6,ar6,ng6,nn6,dd6,nm6,ss6,rfl,hE6⟩:=hr)|(refine CN.f rfl (q1z _ _ _ _ _ _ _ _ _ _ _ _ (x1.mono (by first|assumption|exact Heap.lr _))) (fun v h' hl2 hr=>?_);subst hr)|(refine CN.f rfl (q2o _ _ _ _ _ _ _ _ _ _ _ _ (x2.mono (by assumption))) (fun v h' hl2 hr=>?_);subst hr)|(refine CN.f rfl (w0 _) (fun v h' hl2 hr=>?_);obtain ⟨op7,ar7,ng7,nn7,dd7,nm7,ss7,rfl,hE7⟩:=hr))|((first|refine oI.z ?_|refine cI.z ?_))|(show Ld _ _ _ _;first|refine Ld.o 0 rfl rfl ?_|refine Ld.o 3 rfl rfl ?_)|refine Sto.l 2 rfl rfl rfl ?_) <;> (conv=>whnf))|(show cnd _ _ _;first|(refine cnd_eq (fun _=>?_) (fun _=>?_) <;> first|(exfalso;omega)|(conv=>whnf))|(refine cnd_dec (fun _=>?_) (fun _=>?_) <;> first|(exfalso;omega)|(conv=>whnf)))
    all_goals first
     | (rw [b5.out (by omega)];exact RN.a ⟨op6,ar6,ng6,nn6,dd6,nm6,ss6,rfl,hE6⟩)
     | (rw [b6.out (by omega)];exact RN.a ⟨op6,ar6,ng6,nn6,dd6,nm6,ss6,rfl,hE6⟩)
     | (rw [b7.out (by omega)];exact RN.a ⟨op6,ar6,ng6,nn6,dd6,nm6,ss6,rfl,hE6⟩)
     | (rw [b81.out (by omega) (by assumption)];exact RN.a ⟨op7,ar7,ng7,nn7,dd7,nm7,ss7,rfl,hE7⟩)
     | (rw [b82.out (by omega) (by assumption) (by assumption)];exact RN.a ⟨op1,ar1,ng1,nn1,dd1,nm1,ss1,rfl,(by (iterate 30 try first|assumption|refine IsE.mono ?_ (by assumption));first|done|assumption)⟩)
     | (rw [b83.out (by omega) (by assumption) (by assumption)];exact RN.a ⟨_,arg,neg,a,b,name,s,rfl,(by (iterate 30 try first|assumption|refine IsE.mono ?_ (by assumption));first|done|assumption)⟩)
  | true=>
   cases bb2 with
   | true=>exact absurd ⟨rfl,rfl⟩ hb2
   | false=>
    clear hb2
    rcases eL with rfl|rfl
    ·conv=>whnf
     repeat ((first|refine oI.z ?_|refine cI.z ?_);conv=>whnf)
     repeat' first|((first|(show SeqN _ _ _ _ _ _ _;refine SeqN.go ?_)|(show LdN _ _ _ _ _;first|refine LdN.oA 0 rfl rfl ?_|refine LdN.oA 1 rfl rfl ?_|refine LdN.oA 2 rfl rfl ?_|refine LdN.oA 3 rfl rfl ?_)|(show CN _ _ _ _ _ _;first|(refine CN.f rfl (added_ct _ t u hok1 hok2 _ (by assumption) _ _ _ _ _ _ _ _ _ _ _ _ _ _ _ _ _ _ _ _ _ _ _ _ _ _ _ _ _ (w.mono (by first|assumption|exact Heap.lr _)) (hE1.mono (by first|assumption|exact Heap.lr _)) (hE2.mono (by first|assumption|exact Heap.lr _)) (x1.mono (by first|assumption|exact Heap.lr _)) (x2.mono (by first|assumption|exact Heap.lr _))) (fun v h' hl2 hr=>?_);obtain ⟨op6,ar6,ng6,nn6,dd6,nm6,ss6,rfl,hE6⟩:=hr)|(refine CN.f rfl (subtracted_ct _ t u hok1 hok2 _ (by assumption) _ _ _ _ _ _ _ _ _ _ _ _ _ _ _ _ _ _ _ _ _ _ _ _ _ _ _ _ _ (w.mono (by first|assumption|exact Heap.lr _)) (hE1.mono (by first|assumption|exact Heap.lr _)) (hE2.mono (by first|assumption|exact Heap.lr _)) (x1.mono (by first|assumption|exact Heap.lr _)) (x2.mono (by first|assumption|exact Heap.lr _))) (fun v h' hl2 hr=>?_);obtain ⟨op6,ar6,ng6,nn6,dd6,nm6,ss6,rfl,hE6⟩:=hr)|(refine CN.f rfl (multiplied_ct _ t u hok1 hok2 _ (by assumption) _ _ _ _ _ _ _ _ _ _ _ _ _ _ _ _ _ _ _ _ _ _ _ _ _ _ _ _ _ (w.mono (by first|assumption|exact Heap.lr _)) (hE1.mono (by first|assumption|exact Heap.lr _)) (hE2.mono (by first|assumption|exact Heap.lr _)) (x1.mono (by first|assumption|exact Heap.lr _)) (x2.mono (by first|assumption|exact Heap.lr _))) (fun v h' hl2 hr=>?_);obtain ⟨op6,ar6,ng6,nn6,dd6,nm6,ss6,rfl,hE6⟩:=hr)|(refine CN.f rfl (q1z _ _ _ _ _ _ _ _ _ _ _ _ (x1.mono (by first|assumption|exact Heap.lr _))) (fun v h' hl2 hr=>?_);subst hr)|(refine CN.f rfl (q2o _ _ _ _ _ _ _ _ _ _ _ _ (x2.mono (by assumption))) (fun v h' hl2 hr=>?_);subst hr)|(refine CN.f rfl (w0 _) (fun v h' hl2 hr=>?_);obtain ⟨op7,ar7,ng7,nn7,dd7,nm7,ss7,rfl,hE7⟩:=hr))|((first|refine oI.z ?_|refine cI.z ?_))|(show Ld _ _ _ _;first|refine Ld.o 0 rfl rfl ?_|refine Ld.o 1 rfl rfl ?_|refine Ld.o 3 rfl rfl ?_)|refine Sto.l 2 rfl rfl rfl ?_) <;> (conv=>whnf))|(show cnd _ _ _;first|(refine cnd_eq (fun _=>?_) (fun _=>?_) <;> first|(exfalso;omega)|(conv=>whnf))|(refine cnd_dec (fun _=>?_) (fun _=>?_) <;> first|(exfalso;omega)|(conv=>whnf)))
     all_goals first
      | (rw [b5.out (by omega)];exact RN.a ⟨op6,ar6,ng6,nn6,dd6,nm6,ss6,rfl,hE6⟩)
      | (rw [b6.out (by omega)];exact RN.a ⟨op6,ar6,ng6,nn6,dd6,nm6,ss6,rfl,hE6⟩)
      | (rw [b7.out (by omega)];exact RN.a ⟨op6,ar6,ng6,nn6,dd6,nm6,ss6,rfl,hE6⟩)
      | (rw [b81.out (by omega) (by assumption)];exact RN.a ⟨op7,ar7,ng7,nn7,dd7,nm7,ss7,rfl,hE7⟩)
      | (rw [b82.out (by omega) (by assumption) (by assumption)];exact RN.a ⟨op1,ar1,ng1,nn1,dd1,nm1,ss1,rfl,(by (iterate 30 try first|assumption|refine IsE.mono ?_ (by assumption));first|done|assumption)⟩)
      | (rw [b83.out (by omega) (by assumption) (by assumption)];exact RN.a ⟨_,arg,neg,a,b,name,s,rfl,(by (iterate 30 try first|assumption|refine IsE.mono ?_ (by assumption));first|done|assumption)⟩)
    ·conv=>whnf
     repeat ((first|refine oI.z ?_|refine cI.z ?_);conv=>whnf)
     repeat' first|((first|(show SeqN _ _ _ _ _ _ _;refine SeqN.go ?_)|(show LdN _ _ _ _ _;first|refine LdN.oA 0 rfl rfl ?_|refine LdN.oA 1 rfl rfl ?_|refine LdN.oA 2 rfl rfl ?_|refine LdN.oA 3 rfl rfl ?_)|(show CN _ _ _ _ _ _;first|(refine CN.f rfl (added_ct _ t u hok1 hok2 _ (by assumption) _ _ _ _ _ _ _ _ _ _ _ _ _ _ _ _ _ _ _ _ _ _ _ _ _ _ _ _ _ (w.mono (by first|assumption|exact Heap.lr _)) (hE1.mono (by first|assumption|exact Heap.lr _)) (hE2.mono (by first|assumption|exact Heap.lr _)) (x1.mono (by first|assumption|exact Heap.lr _)) (x2.mono (by first|assumption|exact Heap.lr _))) (fun v h' hl2 hr=>?_);obtain ⟨op6,ar6,ng6,nn6,dd6,nm6,ss6,rfl,hE6⟩:=hr)|(refine CN.f rfl (subtracted_ct _ t u hok1 hok2 _ (by assumption) _ _ _ _ _ _ _ _ _ _ _ _ _ _ _ _ _ _ _ _ _ _ _ _ _ _ _ _ _ (w.mono (by first|assumption|exact Heap.lr _)) (hE1.mono (by first|assumption|exact Heap.lr _)) (hE2.mono (by first|assumption|exact Heap.lr _)) (x1.mono (by first|assumption|exact Heap.lr _)) (x2.mono (by first|assumption|exact Heap.lr _))) (fun v h' hl2 hr=>?_);obtain ⟨op6,ar6,ng6,nn6,dd6,nm6,ss6,rfl,hE6⟩:=hr)|(refine CN.f rfl (multiplied_ct _ t u hok1 hok2 _ (by assumption) _ _ _ _ _ _ _ _ _ _ _ _ _ _ _ _ _ _ _ _ _ _ _ _ _ _ _ _ _ (w.mono (by first|assumption|exact Heap.lr _)) (hE1.mono (by first|assumption|exact Heap.lr _)) (hE2.mono (by first|assumption|exact Heap.lr _)) (x1.mono (by first|assumption|exact Heap.lr _)) (x2.mono (by first|assumption|exact Heap.lr _))) (fun v h' hl2 hr=>?_);obtain ⟨op6,ar6,ng6,nn6,dd6,nm6,ss6,rfl,hE6⟩:=hr)|(refine CN.f rfl (q1z _ _ _ _ _ _ _ _ _ _ _ _ (x1.mono (by first|assumption|exact Heap.lr _))) (fun v h' hl2 hr=>?_);subst hr)|(refine CN.f rfl (q2o _ _ _ _ _ _ _ _ _ _ _ _ (x2.mono (by assumption))) (fun v h' hl2 hr=>?_);subst hr)|(refine CN.f rfl (w0 _) (fun v h' hl2 hr=>?_);obtain ⟨op7,ar7,ng7,nn7,dd7,nm7,ss7,rfl,hE7⟩:=hr))|((first|refine oI.z ?_|refine cI.z ?_))|(show Ld _ _ _ _;first|refine Ld.o 0 rfl rfl ?_|refine Ld.o 1 rfl rfl ?_|refine Ld.o 3 rfl rfl ?_)|refine Sto.l 2 rfl rfl rfl ?_) <;> (conv=>whnf))|(show cnd _ _ _;first|(refine cnd_eq (fun _=>?_) (fun _=>?_) <;> first|(exfalso;omega)|(conv=>whnf))|(refine cnd_dec (fun _=>?_) (fun _=>?_) <;> first|(exfalso;omega)|(conv=>whnf)))
     all_goals first
      | (rw [b5.out (by omega)];exact RN.a ⟨op6,ar6,ng6,nn6,dd6,nm6,ss6,rfl,hE6⟩)
      | (rw [b6.out (by omega)];exact RN.a ⟨op6,ar6,ng6,nn6,dd6,nm6,ss6,rfl,hE6⟩)
      | (rw [b7.out (by omega)];exact RN.a ⟨op6,ar6,ng6,nn6,dd6,nm6,ss6,rfl,hE6⟩)
      | (rw [b81.out (by omega) (by assumption)];exact RN.a ⟨op7,ar7,ng7,nn7,dd7,nm7,ss7,rfl,hE7⟩)
      | (rw [b82.out (by omega) (by assumption) (by assumption)];exact RN.a ⟨op1,ar1,ng1,nn1,dd1,nm1,ss1,rfl,(by (iterate 30 try first|assumption|refine IsE.mono ?_ (by assumption));first|done|assumption)⟩)
      | (rw [b83.out (by omega) (by assumption) (by assumption)];exact RN.a ⟨_,arg,neg,a,b,name,s,rfl,(by (iterate 30 try first|assumption|refine IsE.mono ?_ (by assumption));first|done|assumption)⟩)
theorem nodeS_else {op arg:Int} {e:Tr} {ks:List Tr} (h4:op≠4) (h9:op≠9) (h5:¬(op=5∨op=6∨op=7∨op=8)):nodeS op arg e ks=e:=by
 unfold nodeS
 split
 ·rw [if_neg h4,if_neg h9]
 ·rw [if_neg h5]
 ·rfl
theorem simplified_ct:∀t:Tr,∀(h:Heap) (vs:List Value),Tb h→IsE h vs t→okG t→Fn0 T F.expr_simplified [.agg vs.toArray] h fun v h'=>VE h' v (simT t):=by
 refine tree_ind fun t ih=>?_
 intro h vs tb w hok
 obtain ⟨op,arg,neg,l,m,name,ks⟩:=t
 obtain ⟨a,b,s,rfl,ho,ha,hv,hb,hk⟩:=w.isK
 rw [okG] at hok
 obtain ⟨hnb,hoks⟩:=hok
 have hks:ks.length≤3:=by
  have h1:=hnb.1
  have h2:=kidsN_le op
  omega
 have hkl:=hk.len
 refine f0C ok D.expr_simplified rfl ?_
 conv=>whnf
 repeat ((first|refine oI.z ?_|refine cI.z ?_);conv=>whnf)
 repeat' first|((first|((first|refine oI.z ?_|refine cI.z ?_))|intro (_:Nat)|refine Ld.o 1 rfl rfl ?_) <;> (conv=>whnf))
 rename_i be bz
 refine LpN.of (fun r ρ hx L=>∃(j:Nat) (V:Value) (F1:Vc.Own) (xs:List Value),r=ks.length-j∧h.le hx∧j≤ks.length∧rd ρ 9=.int .i64 j∧rd ρ 3=V∧
   L=F1++((bz,.cells [.int .i64 0,.int .i64 0,.bool false,.slice none 0 0,.slice none 0 0,.string (txt []),.slice none 0 0].toArray Ty.api_Expr (0,0))::(be,.cells [.int .i64 op,.int .i64 arg,.bool neg,a.val,b.val,.string (txt name),s.val].toArray Ty.api_Expr (0,0))::[])∧
   GrowS Ty.api_Expr 7 V j xs F1∧KC hx xs (simTs (ks.take j))) ks.length
  ⟨0,_,[],[],rfl,Heap.lr _,Nat.zero_le _,rfl,rfl,rfl,GrowS.nil _ _ _,by rw [List.take_zero,simTs];rfl⟩ ?_
 conv=>whnf
 repeat intro _
 rename_i r hx L2 hI
 obtain ⟨j,V,F1,xs,rfl,hle,hj,e9,e3,rfl,gF,hK⟩:=hI
 conv at e9=>lhs;whnf
 subst e9
 conv at e3=>lhs;whnf
 subst e3
 by_cases hjl:j=ks.length
 ·subst hjl
  rw [List.take_length] at hK
  obtain ⟨sv,rfl⟩:=gF.sl
  by_cases h4:op=4
  ·subst h4
   obtain ⟨k,rfl⟩:∃k,ks=[k]:=by
    have e:ks.length=1:=by have x:=hnb.1;rw [show kidsN 4=1 from by decide] at x;omega
    match ks,e with
    | [k],_=>exact ⟨k,rfl⟩
   have hkk:okG k:=by rw [okGs] at hoks;exact hoks.1
   have fk:=simT_G hkk
   have hR:simT (.mk 4 arg neg l m name [k])=negS (.mk 4 arg neg l m name [simT k]) (simT k):=by rw [simT,simTs,simTs];rfl
   rw [hR]
   rw [simTs,simTs] at hK
   have hsl:1=[simT k].length:=rfl
   have cc:=fun h vs tb w=>negated_ct (simT k) fk arg neg l m name h vs tb w
   conv=>whnf
   repeat ((first|refine oI.z ?_|refine cI.z ?_);conv=>whnf)
   repeat' first|((first|(show SeqN _ _ _ _ _ _ _;refine SeqN.go ?_)|(show Sto _ _ _ _;first|refine Sto.tl (A:=F1) (X:=[_]) rfl rfl ?_|refine Sto.tl (A:=[]) (X:=X2) rfl rfl ?_)|(show LdN _ _ _ _ _;first|refine LdN.tl (A:=F1) (F:=[_]) rfl ?_|refine LdN.tl (A:=[]) (F:=X2) rfl ?_)|(show Ld _ _ _ _;refine Ld.tl (A:=F1) (F:=[_]) rfl ?_)|(show CN _ _ _ _ _ _;(refine CN.rowX (X:=F1) gF hK hsl rfl (fun h2 X2 s2 hl2 hs hk2=>?_);obtain rfl:=Sl.val_inj hs;have tb2:=tb.mono (Heap.lt hle hl2);refine CN.f rfl (cc _ _ tb2 (IsE.mkK ho ha (hv.mono (Heap.lt hle hl2)) hb hk2)) (fun v h3 hl3 hr=>?_);obtain ⟨op6,ar6,ng6,nn6,dd6,nm6,ss6,rfl,hE6⟩:=hr))|((first|refine oI.z ?_|refine cI.z ?_))) <;> (conv=>whnf))|(show cnd _ _ _;first|(refine cnd_lt (fun _=>?_) (fun _=>?_) <;> first|(exfalso;omega)|(conv=>whnf))|(refine cnd_eq (fun _=>?_) (fun _=>?_) <;> first|(exfalso;omega)|(conv=>whnf)))
   all_goals exact RN.a ⟨op6,ar6,ng6,nn6,dd6,nm6,ss6,rfl,hE6⟩
  ·by_cases h9:op=9
   ·subst h9
    obtain ⟨k,rfl⟩:∃k,ks=[k]:=by
     have e:ks.length=1:=by have x:=hnb.1;rw [show kidsN 9=1 from by decide] at x;omega
     match ks,e with
     | [k],_=>exact ⟨k,rfl⟩
    have hkk:okG k:=by rw [okGs] at hoks;exact hoks.1
    have fk:=simT_G hkk
    have hR:simT (.mk 9 arg neg l m name [k])=powS (.mk 9 arg neg l m name [simT k]) arg (simT k):=by rw [simT,simTs,simTs];rfl
    rw [hR]
    rw [simTs,simTs] at hK
    have hsl:1=[simT k].length:=rfl
    have cc:=fun h vs tb w=>raised_ct (simT k) fk arg hnb.2.1 hnb.2.2.1 neg l m name h vs tb w
    conv=>whnf
    repeat ((first|refine oI.z ?_|refine cI.z ?_);conv=>whnf)
    repeat' first|((first|(show SeqN _ _ _ _ _ _ _;refine SeqN.go ?_)|(show Sto _ _ _ _;first|refine Sto.tl (A:=F1) (X:=[_]) rfl rfl ?_|refine Sto.tl (A:=[]) (X:=X2) rfl rfl ?_)|(show LdN _ _ _ _ _;first|refine LdN.tl (A:=F1) (F:=[_]) rfl ?_|refine LdN.tl (A:=[]) (F:=X2) rfl ?_)|(show Ld _ _ _ _;refine Ld.tl (A:=F1) (F:=[_]) rfl ?_)|(show CN _ _ _ _ _ _;(refine CN.rowX (X:=F1) gF hK hsl rfl (fun h2 X2 s2 hl2 hs hk2=>?_);obtain rfl:=Sl.val_inj hs;have tb2:=tb.mono (Heap.lt hle hl2);refine CN.f rfl (cc _ _ tb2 (IsE.mkK ho ha (hv.mono (Heap.lt hle hl2)) hb hk2)) (fun v h3 hl3 hr=>?_);obtain ⟨op6,ar6,ng6,nn6,dd6,nm6,ss6,rfl,hE6⟩:=hr))|((first|refine oI.z ?_|refine cI.z ?_))) <;> (conv=>whnf))|(show cnd _ _ _;first|(refine cnd_lt (fun _=>?_) (fun _=>?_) <;> first|(exfalso;omega)|(conv=>whnf))|(refine cnd_eq (fun _=>?_) (fun _=>?_) <;> first|(exfalso;omega)|(conv=>whnf)))
    all_goals exact RN.a ⟨op6,ar6,ng6,nn6,dd6,nm6,ss6,rfl,hE6⟩
   ·by_cases h5:op=5∨op=6∨op=7∨op=8
    ·obtain ⟨k,k',rfl⟩:∃k k',ks=[k,k']:=by
      have e:ks.length=2:=by
       rcases h5 with rfl|rfl|rfl|rfl
       ·have x:=hnb.1;rw [show kidsN 5=2 from by decide] at x;omega
       ·have x:=hnb.1;rw [show kidsN 6=2 from by decide] at x;omega
       ·have x:=hnb.1;rw [show kidsN 7=2 from by decide] at x;omega
       ·have x:=hnb.1;rw [show kidsN 8=2 from by decide] at x;omega
      match ks,e with
      | [k,k'],_=>exact ⟨k,k',rfl⟩
     have hkk:okG k∧okG k':=by rw [okGs,okGs] at hoks;exact ⟨hoks.1,hoks.2.1⟩
     have fk:=simT_G hkk.1
     have fk':=simT_G hkk.2
     have hR:simT (.mk op arg neg l m name [k,k'])=binS (.mk op arg neg l m name [simT k,simT k']) op (simT k) (simT k'):=by rw [simT,simTs,simTs,simTs];exact if_pos h5
     rw [hR]
     rw [simTs,simTs,simTs] at hK
     have hsl:2=[simT k,simT k'].length:=rfl
     have cc:=fun h vs tb w=>combined_ct (simT k) (simT k') op arg h5 neg l m name fk fk' h vs tb w
     obtain ⟨R,hRR⟩:∃R,R=binS (.mk op arg neg l m name [simT k,simT k']) op (simT k) (simT k'):=⟨_,rfl⟩
     rw [← hRR]
     simp only [← hRR] at cc
     clear hR hRR
     conv=>whnf
     repeat ((first|refine oI.z ?_|refine cI.z ?_);conv=>whnf)
     repeat' first|((first|(show SeqN _ _ _ _ _ _ _;refine SeqN.go ?_)|(show Sto _ _ _ _;first|refine Sto.tl (A:=F1) (X:=[_]) rfl rfl ?_|refine Sto.tl (A:=[]) (X:=X2) rfl rfl ?_)|(show LdN _ _ _ _ _;first|refine LdN.tl (A:=F1) (F:=[_]) rfl ?_|refine LdN.tl (A:=[]) (F:=X2) rfl ?_)|(show Ld _ _ _ _;refine Ld.tl (A:=F1) (F:=[_]) rfl ?_)|(show CN _ _ _ _ _ _;(refine CN.rowX (X:=F1) gF hK hsl rfl (fun h2 X2 s2 hl2 hs hk2=>?_);obtain rfl:=Sl.val_inj hs;have tb2:=tb.mono (Heap.lt hle hl2);refine CN.f rfl (cc _ _ tb2 (IsE.mkK ho ha (hv.mono (Heap.lt hle hl2)) hb hk2)) (fun v h3 hl3 hr=>?_);obtain ⟨op6,ar6,ng6,nn6,dd6,nm6,ss6,rfl,hE6⟩:=hr))|((first|refine oI.z ?_|refine cI.z ?_))) <;> (conv=>whnf))|(show cnd _ _ _;first|(refine cnd_lt (fun _=>?_) (fun _=>?_) <;> first|(exfalso;omega)|(conv=>whnf))|(refine cnd_eq (fun _=>?_) (fun _=>?_) <;> first|(exfalso;omega)|(conv=>whnf)))
     all_goals exact RN.a ⟨op6,ar6,ng6,nn6,dd6,nm6,ss6,rfl,hE6⟩
    ·have hR:simT (.mk op arg neg l m name ks)=.mk op arg neg l m name (simTs ks):=by rw [simT];exact nodeS_else h4 h9 h5
     conv=>whnf
     repeat ((first|refine oI.z ?_|refine cI.z ?_);conv=>whnf)
     repeat' first|((first|(show SeqN _ _ _ _ _ _ _;refine SeqN.go ?_)|(show Sto _ _ _ _;first|refine Sto.tl (A:=F1) (X:=[_]) rfl rfl ?_|refine Sto.tl (A:=[]) (X:=F1) rfl rfl ?_)|(show LdN _ _ _ _ _;first|refine LdN.tl (A:=F1) (F:=[_]) rfl ?_|refine LdN.tl (A:=[]) (F:=F1) rfl ?_)|(show Ld _ _ _ _;refine Ld.tl (A:=F1) (F:=[_]) rfl ?_)|((first|refine oI.z ?_|refine cI.z ?_))) <;> (conv=>whnf))|(show cnd _ _ _;first|(refine cnd_lt (fun _=>?_) (fun _=>?_) <;> first|(exfalso;omega)|(conv=>whnf))|(refine cnd_eq (fun _=>?_) (fun _=>?_) <;> first|(exfalso;omega)|(conv=>whnf)))
     refine RN.rowA (X:=F1) gF hK (simTs_len ks).symm fun h' s' hl hs hk'=>?_
     rw [hR,hs]
     exact ⟨op,arg,neg,a,b,name,s',rfl,IsE.mkK ho ha (hv.mono (Heap.lt hle hl)) hb hk'⟩
 ·obtain ⟨t,ht⟩:∃t,ks[j]?=some t:=⟨_,List.getElem?_eq_getElem (by omega)⟩
  have c2:=fun h vs tb w=>ih t (szT_kid ht) h vs tb w (okGs_mem hoks (List.mem_of_getElem? ht))
  have hkx:=hk.mono hle
  replace tb:=tb.mono hle
  conv=>whnf
  repeat ((first|refine oI.z ?_|refine cI.z ?_);conv=>whnf)
  repeat' first|((first|(show Idx _ _ _ _ _;refine Idx.kid hkx j t (by omega) ht (fun ad op arg neg a b name s' hE hld=>?_))|refine hld _ _ _ (Heap.lr _) ?_|((first|refine oI.z ?_|refine cI.z ?_))|intro (_:Nat)|(show CN _ _ _ _ _ _;(refine CN.f rfl (c2 _ _ (by assumption) (by assumption)) (fun v h' hl2 hr=>?_);obtain ⟨op2,ar2,ng2,nn2,dd2,nm2,ss2,rfl,hE2⟩:=hr;have hK2:=hK.mono hl2))|(show App _ _ _ _ _ _ _ _ _;refine App.growK (A:=[_,_]) (F:=F1) (size:=7) (bytes:=112) (z:=[.int .i64 0,.int .i64 0,.bool false,.slice none 0 0,.slice none 0 0,.string (txt []),.slice none 0 0]) rfl rfl gF ⟨_,0,none⟩ 1 1 [_,_,_,_,_,_,_] rfl (Has.front _) rfl (by decide) (by omega) (by omega) (by decide) (fun v' F' g'=>?_))|refine WN.i64 (by omega) (by omega) ?_|refine LdN.o 0 rfl rfl ?_|refine Sto.l 0 rfl rfl rfl ?_) <;> (conv=>whnf))|(refine cnd_lt (fun _=>?_) (fun _=>?_) <;> first|(exfalso;omega)|(conv=>whnf))
  exact ⟨rfl,ks.length-(j+1),by omega,j+1,_,_::_::F',_,rfl,(by (iterate 30 try first|assumption|refine Heap.lt ?_ (by assumption));first|done|assumption),by omega,vi (by omega),rfl,rfl,(g'.cons _).cons _,by rw [take_snoc ht,simTs_append,simTs,simTs];exact KC.snoc rfl hE2 hK2⟩
def simX (t:Tr):Tr × Nat:=if ValT t then (cloneT (simT t),0) else (zeroT,40)
end Go.Proofs.YtbgicephinomlaaGreatDoor