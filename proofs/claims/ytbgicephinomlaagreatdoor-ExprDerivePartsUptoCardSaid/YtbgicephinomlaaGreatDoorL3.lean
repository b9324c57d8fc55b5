/- Contracts of the reference's functions on rational numbers, first part. -/
import Derived.Test.YtbgicephinomlaaGreatDoorR6
import Derived.Test.YtbgicephinomlaaGreatDoorRep3
import Derived.Test.YtbgicephinomlaaGreatDoorW10
set_option linter.unusedVariables false
set_option linter.unusedSimpArgs false
set_option maxHeartbeats 1000000
set_option maxRecDepth 20000
namespace Go.Dig
theorem mkQ_den0 (neg:Bool) (m:Nat):mkQ neg m 0=0:=by unfold mkQ;simp
end Go.Dig
namespace Go.Proofs.YtbgicephinomlaaGreatDoor
open Go Go.Vc Go.Dig

structure IsQ (h:Heap) (a b:Sl) (q:Rat):Prop where
 num:IsRef h a (nu q)
 den:IsRef h b q.den
theorem IsQ.mono {h h':Heap} {a b:Sl} {q:Rat} (w:IsQ h a b q) (hl:h.le h'):IsQ h' a b q:=⟨w.num.mono hl,w.den.mono hl⟩
structure Sr (k:Nat) (q:Rat):Prop where
 num:ln 65536 (nu q)≤k
 den:ln 65536 q.den≤k
theorem Sr.mono {k l:Nat} {q:Rat} (s:Sr k q) (h:k≤l):Sr l q:=⟨Nat.le_trans s.num h,Nat.le_trans s.den h⟩
theorem IsRef.nil {h:Heap} {s:Sl} (h0:s.l=0):IsRef h s 0:=by unfold IsRef;rw [dg_zero];exact Ws.nil h0

theorem den_q (h:Heap) (neg:Bool) (a b:Sl) (d:Nat) (hb:IsRef h b d) (h0:d≠0) (lb:ln 65536 d≤1099511627776):Fn0 T F.ref01_Q_den [.agg #[.bool neg,a.val,b.val]] h fun v h'=>h'=h∧v=b.val:=by
 have hl:=hb.len
 have hn1:1≤ln 65536 d:=Nat.pos_of_ne_zero fun e=>h0 ((ln_eq_zero tlb).1 e)
 refine f0C ok D.ref01_Q_den rfl ?_
 conv=>whnf
 repeat ((first|refine oI.z ?_|refine cI.z ?_);conv=>whnf)
 repeat' first|((first|((first|refine oI.z ?_|refine cI.z ?_))|intro (_:Nat)|refine Ld.o 0 rfl rfl ?_) <;> (conv=>whnf))|(refine cnd_eq (fun _=>?_) (fun _=>?_) <;> first|(exfalso;omega)|(conv=>whnf))
 exact RN.a ⟨rfl,rfl⟩
theorem Make_ct (h:Heap) (neg:Bool) (a b:Sl) (m n:Nat) (ha:IsRef h a m) (hb:IsRef h b n) (la:ln 65536 m≤4294967296) (lb:ln 65536 n≤4294967296):
  Fn0 T F.ref01_Make [.bool neg,a.val,b.val] h fun v h'=>∃a' b':Sl,v=.agg #[.bool (sg (mkQ neg m n)),a'.val,b'.val]∧IsQ h' a' b' (mkQ neg m n):=by
 have hal:=ha.len
 have hbl:=hb.len
 have hzm:=ln_eq_zero tlb (n:=m)
 have hzn:=ln_eq_zero tlb (n:=n)
 have zero:mkQ neg m n=0→∀h' (s:Sl),IsRef h' s 1→∃a' b':Sl,Value.agg #[.bool false,.slice none 0 0,s.val]=.agg #[.bool (sg (mkQ neg m n)),a'.val,b'.val]∧IsQ h' a' b' (mkQ neg m n):=fun e h' s hs=>by
  rw [e,sg_zero]
  exact ⟨⟨none,0,0⟩,s,rfl,⟨by rw [nu_zero];exact IsRef.nil rfl,hs⟩⟩
 refine f0C ok D.ref01_Make rfl ?_
 conv=>whnf
 repeat ((first|refine oI.z ?_|refine cI.z ?_);conv=>whnf)
 by_cases hm:m=0
 ·have h1:=hzm.2 hm
  clear hzm hzn
  repeat' first|((first|(show CN _ _ _ _ _ _;(refine CN.f rfl (NatOf_ct _ 1 (by omega)) (fun v h' hl hr=>?_);obtain ⟨s',rfl,hs'⟩:=hr))|((first|refine oI.z ?_|refine cI.z ?_))|intro (_:Nat)|refine LdN.o 0 rfl rfl ?_|refine Sto.l 0 rfl rfl rfl ?_) <;> (conv=>whnf))|(refine cnd_eq (fun _=>?_) (fun _=>?_) <;> first|(exfalso;omega)|(conv=>whnf))
  all_goals exact RN.a (zero (by rw [hm,mkQ_zero]) _ _ ‹_›)
 by_cases hn:n=0
 ·have h1:=hzn.2 hn
  have h2:ln 65536 m≠0:=fun e=>hm (hzm.1 e)
  clear hzm hzn
  repeat' first|((first|(show CN _ _ _ _ _ _;(refine CN.f rfl (NatOf_ct _ 1 (by omega)) (fun v h' hl hr=>?_);obtain ⟨s',rfl,hs'⟩:=hr))|((first|refine oI.z ?_|refine cI.z ?_))|intro (_:Nat)|refine LdN.o 0 rfl rfl ?_|refine Sto.l 0 rfl rfl rfl ?_) <;> (conv=>whnf))|(refine cnd_eq (fun _=>?_) (fun _=>?_) <;> first|(exfalso;omega)|(conv=>whnf))
  all_goals exact RN.a (zero (by rw [hn,mkQ_den0]) _ _ ‹_›)
 have h1:ln 65536 m≠0:=fun e=>hm (hzm.1 e)
 have h2:ln 65536 n≠0:=fun e=>hn (hzn.1 e)
 have hone:ln 65536 n=1→(dg 65536 n).getD 0 0=n:=fun e=>(one_digit16 e).1
 have e1:=sg_mkQ neg (m:=m) hn
 have e2:=nu_mkQ neg (m:=m) hn
 have e3:=den_mkQ neg (m:=m) hn
 rw [show (neg && decide (m≠0))=neg by simp [hm]] at e1
 have hg0:Nat.gcd m n≠0:=by have:=Nat.gcd_pos_of_pos_right m (Nat.pos_of_ne_zero hn);omega
 have hgl:ln 65536 (Nat.gcd m n)≤ln 65536 n:=ln_mono tlb (Nat.gcd_le_right _ (by omega))
 replace e1:=Hq.mk e1
 replace e2:=Hq.mk e2
 replace e3:=Hq.mk e3
 clear hzm hzn zero
 repeat' first|((first|(show CN _ _ _ _ _ _;first|(refine CN.f rfl (NatOf_ct _ 1 (by omega)) (fun v h' hl hr=>?_);obtain ⟨s',rfl,hs'⟩:=hr)|(refine CN.f rfl (NatGcd_ct _ _ _ _ _ (by assumption) (by assumption) (by omega) (by omega)) (fun v h' hl hr=>?_);obtain ⟨s',rfl,hs'⟩:=hr)|(refine CN.f rfl (NatDiv_ct _ _ _ _ _ (by (iterate 30 try first|assumption|refine Ws.mono ?_ (by assumption));first|done|assumption) (by (iterate 30 try first|assumption|refine Ws.mono ?_ (by assumption));first|done|assumption) (by omega) (by omega) (by first|assumption|omega)) (fun v h' hl hr=>?_);obtain ⟨q',r',rfl,hq',hr'⟩:=hr))|(show Idx _ _ _ _ _;(refine Idx.ws hb 0 (by omega) (by unfold ln at *;omega) (fun ad hv=>?_)))|(show Ld _ _ _ _;(refine Ld.of (by first|exact hv _|(rename_i hv;exact hv _)) ?_))|(show App _ _ _ _ _ _ _ _ _;(refine App.fresh rfl ha (by unfold ln at *;omega) (by decide) (fun h' s' hl w'=>?_)))|((first|refine oI.z ?_|refine cI.z ?_))|intro (_:Nat)|refine LdN.o 0 rfl rfl ?_|refine Sto.l 0 rfl rfl rfl ?_) <;> (conv=>whnf))|(refine cnd_eq (fun _=>?_) (fun _=>?_) <;> first|(exfalso;omega)|(conv=>whnf))
 ·have hn1:n=1:=by have:=hone (by omega);omega
  rw [hn1,Nat.gcd_one_right,Nat.div_one] at e2
  rw [hn1,Nat.gcd_one_right,Nat.div_one] at e3
  rw [hn1] at e1 ⊢
  exact RN.a ⟨_,s',by rw [e1.out] <;> rfl,⟨by rw [e2.out];exact (by (iterate 30 try first|assumption|refine IsRef.mono ?_ (by assumption));first|done|assumption),by rw [e3.out];exact (by assumption)⟩⟩
 all_goals exact RN.a ⟨_,_,by rw [e1.out] <;> rfl,⟨by rw [e2.out];exact (by (iterate 30 try first|assumption|refine IsRef.mono ?_ (by assumption));first|done|assumption),by rw [e3.out];exact (by assumption)⟩⟩

theorem Sgn_q (h:Heap) (a b:Sl) (q:Rat) (hq:IsQ h a b q) (hs:Sr 1099511627776 q):Fn0 T F.ref01_Sgn [.agg #[.bool (sg q),a.val,b.val]] h fun v h'=>h'=h∧v=.int .i64 (signQ q):=by
 have h1:=hq.num.len
 have h3:=hs.num
 have hz:=ln_eq_zero tlb (n:=nu q)
 refine f0C ok D.ref01_Sgn rfl ?_
 conv=>whnf
 repeat ((first|refine oI.z ?_|refine cI.z ?_);conv=>whnf)
 by_cases h0:nu q=0
 ·have h4:=hz.2 h0
  clear hz
  repeat' first|((first|((first|refine oI.z ?_|refine cI.z ?_))|intro (_:Nat)|refine Ld.o 0 rfl rfl ?_) <;> (conv=>whnf))|(refine cnd_eq (fun _=>?_) (fun _=>?_) <;> first|(exfalso;omega)|(conv=>whnf))
  exact RN.a ⟨rfl,vi (by unfold signQ;rw [if_pos h0])⟩
 ·have h4:ln 65536 (nu q)≠0:=fun e=>h0 (hz.1 e)
  clear hz
  repeat' first|((first|((first|refine oI.z ?_|refine cI.z ?_))|intro (_:Nat)|refine Ld.o 0 rfl rfl ?_) <;> (conv=>whnf))|(show cnd _ _ _;first|(refine cnd_eq (fun _=>?_) (fun _=>?_) <;> first|(exfalso;omega)|(conv=>whnf))|(refine cnd_bool (fun _=>?_) (fun _=>?_) <;> (conv=>whnf)))
  ·exact RN.a ⟨rfl,vi (by unfold signQ;rw [if_neg h0,if_pos (by assumption)])⟩
  ·exact RN.a ⟨rfl,vi (by unfold signQ;rw [if_neg h0,if_neg (by simp_all)])⟩

theorem Opp_q (h:Heap) (a b:Sl) (q:Rat) (hq:IsQ h a b q) (hs:Sr 1099511627776 q):Fn0 T F.ref01_Opp [.agg #[.bool (sg q),a.val,b.val]] h fun v h'=>h'=h∧v=.agg #[.bool (sg (-q)),a.val,b.val]:=by
 have h1:=hq.num.len
 have h3:=hs.num
 have e:=sg_neg q
 have hz:=ln_eq_zero tlb (n:=nu q)
 refine f0C ok D.ref01_Opp rfl ?_
 conv=>whnf
 repeat ((first|refine oI.z ?_|refine cI.z ?_);conv=>whnf)
 repeat' first|((first|((first|refine oI.z ?_|refine cI.z ?_))|intro (_:Nat)|refine LdN.o 0 rfl rfl ?_|refine Ld.o 1 rfl rfl ?_|refine Sto.l 0 rfl rfl rfl ?_) <;> (conv=>whnf))|(show cnd _ _ _;first|(refine cnd_not ?_)|(refine cnd_bool (fun _=>?_) (fun _=>?_) <;> (conv=>whnf)))
 ·refine RN.a ⟨rfl,?_⟩
  rw [e];simp_all
 ·refine RN.a ⟨rfl,?_⟩
  have e1:lt 0 (a.l:Int)=decide (nu q≠0):=by
   by_cases h0:nu q=0
   ·have:=hz.2 h0
    rw [lt_false' (by omega)];simp [h0]
   ·have:ln 65536 (nu q)≠0:=fun e=>h0 (hz.1 e)
    rw [lt_true' (by omega)];simp [h0]
  rw [e,show sg q=false by assumption]
  show Value.agg #[.bool (lt 0 (a.l:Int)),a.val,b.val]=_
  rw [e1];simp
theorem IsQ.neg {h:Heap} {a b:Sl} {q:Rat} (w:IsQ h a b q):IsQ h a b (-q):=⟨by rw [nu_neg];exact w.num,by rw [Rat.neg_den];exact w.den⟩
theorem Sr.neg {k:Nat} {q:Rat} (s:Sr k q):Sr k (-q):=⟨by rw [nu_neg];exact s.num,by rw [Rat.neg_den];exact s.den⟩

theorem Prod_ct (h:Heap) (a b c d:Sl) (q r:Rat) (hq:IsQ h a b q) (hr:IsQ h c d r) (hs:Sr 1073741824 q) (hs':Sr 1073741824 r):
  Fn0 T F.ref01_Prod [.agg #[.bool (sg q),a.val,b.val],.agg #[.bool (sg r),c.val,d.val]] h fun v h'=>∃s t:Sl,v=.agg #[.bool (sg (q*r)),s.val,t.val]∧IsQ h' s t (q*r):=by
 have e:=mul_q q r
 rw [ne_beq] at e
 have i1:=hq.num
 have i2:=hq.den
 have i3:=hr.num
 have i4:=hr.den
 have l1:=hs.num
 have l2:=hs.den
 have l3:=hs'.num
 have l4:=hs'.den
 have d1:=q.den_nz
 have d2:=r.den_nz
 have p1:=ln_mul tlb (nu q) (nu r)
 have p2:=ln_mul tlb q.den r.den
 refine f0C ok D.ref01_Prod rfl ?_
 conv=>whnf
 repeat ((first|refine oI.z ?_|refine cI.z ?_);conv=>whnf)
 repeat' first|((first|(show CN _ _ _ _ _ _;first|(refine CN.quiet rfl (den_q _ _ _ _ _ (by (iterate 30 try first|assumption|refine Ws.mono ?_ (by assumption));first|done|assumption) (by first|assumption|omega) (by omega)) ?_)|(refine CN.f rfl (NatMul_ct _ _ _ _ _ (by (iterate 30 try first|assumption|refine Ws.mono ?_ (by assumption));first|done|assumption) (by (iterate 30 try first|assumption|refine Ws.mono ?_ (by assumption));first|done|assumption) (by omega) (by omega)) (fun v h' hl hr=>?_);obtain ⟨s',rfl,hs'⟩:=hr)|(refine CN.f rfl (Make_ct _ _ _ _ _ _ (by (iterate 30 try first|assumption|refine Ws.mono ?_ (by assumption));first|done|assumption) (by assumption) (by omega) (by omega)) (fun v h' hl hr=>?_);obtain ⟨a',b',rfl,hq'⟩:=hr;have hqn':=hq'.num;have hqd':=hq'.den))|((first|refine oI.z ?_|refine cI.z ?_))|refine ⟨fun _=>HasLe.o (Heap.lr _),?_⟩|refine ⟨fun _=>HasLe.o (by assumption),?_⟩|refine ⟨fun hst=>(by cases (show true=false from hst)),?_⟩|intro (_:Nat)|(show LdN _ _ _ _ _;first|refine LdN.o 0 rfl rfl ?_|refine LdN.o 1 rfl rfl ?_|refine LdN.o 2 rfl rfl ?_)|(show Ld _ _ _ _;first|refine Ld.o 1 rfl rfl ?_|refine Ld.o 2 rfl rfl ?_)|refine Sto.l 0 rfl rfl rfl ?_|refine DrN.run (by decide +kernel) ?_) <;> (conv=>whnf))
 all_goals exact RN.a ⟨_,_,by rw [e] <;> rfl,by rw [e];exact (by assumption)⟩

theorem Quo_ct (h:Heap) (a b c d:Sl) (q r:Rat) (hq:IsQ h a b q) (hr:IsQ h c d r) (hs:Sr 1073741824 q) (hs':Sr 1073741824 r):
  Fn0 T F.ref01_Div [.agg #[.bool (sg q),a.val,b.val],.agg #[.bool (sg r),c.val,d.val]] h fun v h'=>∃s t:Sl,v=.agg #[.bool (sg (q / r)),s.val,t.val]∧IsQ h' s t (q / r):=by
 have e:=div_q' q r
 rw [ne_beq] at e
 have i1:=hq.num
 have i2:=hq.den
 have i3:=hr.num
 have i4:=hr.den
 have l1:=hs.num
 have l2:=hs.den
 have l3:=hs'.num
 have l4:=hs'.den
 have d1:=q.den_nz
 have d2:=r.den_nz
 have p1:=ln_mul tlb (nu q) r.den
 have p2:=ln_mul tlb q.den (nu r)
 refine f0C ok D.ref01_Div rfl ?_
 conv=>whnf
 repeat ((first|refine oI.z ?_|refine cI.z ?_);conv=>whnf)
 repeat' first|((first|(show CN _ _ _ _ _ _;first|(refine CN.quiet rfl (den_q _ _ _ _ _ (by (iterate 30 try first|assumption|refine Ws.mono ?_ (by assumption));first|done|assumption) (by first|assumption|omega) (by omega)) ?_)|(refine CN.f rfl (NatMul_ct _ _ _ _ _ (by (iterate 30 try first|assumption|refine Ws.mono ?_ (by assumption));first|done|assumption) (by (iterate 30 try first|assumption|refine Ws.mono ?_ (by assumption));first|done|assumption) (by omega) (by omega)) (fun v h' hl hr=>?_);obtain ⟨s',rfl,hs'⟩:=hr)|(refine CN.f rfl (Make_ct _ _ _ _ _ _ (by (iterate 30 try first|assumption|refine Ws.mono ?_ (by assumption));first|done|assumption) (by assumption) (by omega) (by omega)) (fun v h' hl hr=>?_);obtain ⟨a',b',rfl,hq'⟩:=hr;have hqn':=hq'.num;have hqd':=hq'.den))|((first|refine oI.z ?_|refine cI.z ?_))|refine ⟨fun _=>HasLe.o (Heap.lr _),?_⟩|refine ⟨fun _=>HasLe.o (by assumption),?_⟩|refine ⟨fun hst=>(by cases (show true=false from hst)),?_⟩|intro (_:Nat)|(show LdN _ _ _ _ _;first|refine LdN.o 0 rfl rfl ?_|refine LdN.o 1 rfl rfl ?_|refine LdN.o 2 rfl rfl ?_)|(show Ld _ _ _ _;first|refine Ld.o 1 rfl rfl ?_|refine Ld.o 2 rfl rfl ?_)|refine Sto.l 0 rfl rfl rfl ?_|refine DrN.run (by decide +kernel) ?_) <;> (conv=>whnf))
 all_goals exact RN.a ⟨_,_,by rw [e] <;> rfl,by rw [e];exact (by assumption)⟩

theorem Sum_ct (h:Heap) (a b c d:Sl) (q r:Rat) (hq:IsQ h a b q) (hr:IsQ h c d r) (hs:Sr 1073741824 q) (hs':Sr 1073741824 r):
  Fn0 T F.ref01_Sum [.agg #[.bool (sg q),a.val,b.val],.agg #[.bool (sg r),c.val,d.val]] h fun v h'=>∃s t:Sl,v=.agg #[.bool (sg (q+r)),s.val,t.val]∧IsQ h' s t (q+r):=by
 have i1:=hq.num
 have i2:=hq.den
 have i3:=hr.num
 have i4:=hr.den
 have l1:=hs.num
 have l2:=hs.den
 have l3:=hs'.num
 have l4:=hs'.den
 have d1:=q.den_nz
 have d2:=r.den_nz
 have p1:=ln_mul tlb (nu q) r.den
 have p2:=ln_mul tlb (nu r) q.den
 have p3:=ln_mul tlb q.den r.den
 have e1:=Hq.mk (add_same (q:=q) (r:=r))
 have e2:=Hq.mk (add_ge (q:=q) (r:=r))
 have e3:=Hq.mk (add_lt (q:=q) (r:=r))
 obtain ⟨x,hx⟩:∃x,x=nu q*r.den:=⟨_,rfl⟩
 obtain ⟨y,hy⟩:∃y,y=nu r*q.den:=⟨_,rfl⟩
 obtain ⟨z,hz⟩:∃z,z=q.den*r.den:=⟨_,rfl⟩
 have p4:=ln_add tlb x y
 have p5:=ln_mono tlb (Nat.sub_le x y)
 have p6:=ln_mono tlb (Nat.sub_le y x)
 rw [← hx,← hy,← hz] at e1 e2 e3
 rw [← hx] at p1
 rw [← hy] at p2
 rw [← hz] at p3
 have hcl:=cmp_le (m:=x) (n:=y)
 have hcn:=cmp_neg (m:=x) (n:=y)
 refine f0C ok D.ref01_Sum rfl ?_
 conv=>whnf
 repeat ((first|refine oI.z ?_|refine cI.z ?_);conv=>whnf)
 repeat' first|((first|(show CN _ _ _ _ _ _;first|(refine CN.quiet rfl (den_q _ _ _ _ _ (by (iterate 30 try first|assumption|refine Ws.mono ?_ (by assumption));first|done|assumption) (by first|assumption|omega) (by omega)) ?_)|(refine CN.f rfl (NatMul_ct _ _ _ (nu q) r.den (by (iterate 30 try first|assumption|refine IsRef.mono ?_ (by assumption));first|done|assumption) (by assumption) (by omega) (by omega)) (fun v h' hl hr=>?_);rw [← hx] at hr;obtain ⟨s',rfl,hs'⟩:=hr)|(refine CN.f rfl (NatMul_ct _ _ _ (nu r) q.den (by (iterate 30 try first|assumption|refine IsRef.mono ?_ (by assumption));first|done|assumption) (by (iterate 30 try first|assumption|refine IsRef.mono ?_ (by assumption));first|done|assumption) (by omega) (by omega)) (fun v h' hl hr=>?_);rw [← hy] at hr;obtain ⟨s',rfl,hs'⟩:=hr)|(refine CN.f rfl (NatMul_ct _ _ _ q.den r.den (by (iterate 30 try first|assumption|refine IsRef.mono ?_ (by assumption));first|done|assumption) (by (iterate 30 try first|assumption|refine IsRef.mono ?_ (by assumption));first|done|assumption) (by omega) (by omega)) (fun v h' hl hr=>?_);rw [← hz] at hr;obtain ⟨s',rfl,hs'⟩:=hr)|(refine CN.f rfl (NatAdd_ct _ _ _ _ _ (by (iterate 30 try first|assumption|refine Ws.mono ?_ (by assumption));first|done|assumption) (by (iterate 30 try first|assumption|refine Ws.mono ?_ (by assumption));first|done|assumption) (by omega) (by omega)) (fun v h' hl hr=>?_);obtain ⟨s',rfl,hs'⟩:=hr)|(refine CN.f rfl (NatSub_ct _ _ _ _ _ (by (iterate 30 try first|assumption|refine Ws.mono ?_ (by assumption));first|done|assumption) (by (iterate 30 try first|assumption|refine Ws.mono ?_ (by assumption));first|done|assumption) (by omega) (by omega)) (fun v h' hl hr=>?_);obtain ⟨s',rfl,hs'⟩:=hr)|(refine CN.quiet rfl (NatCmp_ct _ _ _ _ _ (by (iterate 30 try first|assumption|refine Ws.mono ?_ (by assumption));first|done|assumption) (by (iterate 30 try first|assumption|refine Ws.mono ?_ (by assumption));first|done|assumption) (by omega) (by omega)) ?_)|(refine CN.f rfl (Make_ct _ _ _ _ _ _ (by assumption) (by (iterate 30 try first|assumption|refine Ws.mono ?_ (by assumption));first|done|assumption) (by omega) (by omega)) (fun v h' hl hr=>?_);obtain ⟨a',b',rfl,hq'⟩:=hr;have hqn':=hq'.num;have hqd':=hq'.den))|((first|refine oI.z ?_|refine cI.z ?_))|refine ⟨fun _=>HasLe.o (Heap.lr _),?_⟩|refine ⟨fun _=>HasLe.o (by assumption),?_⟩|refine ⟨fun hst=>(by cases (show true=false from hst)),?_⟩|intro (_:Nat)|(show LdN _ _ _ _ _;first|refine LdN.o 0 rfl rfl ?_|refine LdN.o 1 rfl rfl ?_|refine LdN.o 2 rfl rfl ?_)|(show Ld _ _ _ _;first|refine Ld.o 1 rfl rfl ?_|refine Ld.o 2 rfl rfl ?_)|refine Sto.l 0 rfl rfl rfl ?_|refine DrN.run (by decide +kernel) ?_) <;> (conv=>whnf))|(show cnd _ _ _;first|(refine cnd_le (fun _=>?_) (fun _=>?_) <;> first|(exfalso;omega)|(conv=>whnf))|(refine cnd_beq (fun _=>?_) (fun hne=>?_) <;> first|exact absurd rfl hne|(conv=>whnf)))
 ·exact RN.a ⟨_,_,by rw [e1.out (by assumption)] <;> rfl,by rw [e1.out (by assumption)];exact (by assumption)⟩
 ·exact RN.a ⟨_,_,by rw [e2.out (by assumption) (by omega)] <;> rfl,by rw [e2.out (by assumption) (by omega)];exact (by assumption)⟩
 ·exact RN.a ⟨_,_,by rw [e3.out (by assumption) (by omega)] <;> rfl,by rw [e3.out (by assumption) (by omega)];exact (by assumption)⟩

theorem ln16_le {l:List Nat} (hl:∀x∈l,x<4294967296):ln 65536 (evl 4294967296 l)≤2*l.length:=by
 have h1:=(ln_le_iff (b:=4294967296) tlB).2 (evl_lt tlB hl)
 have:=ln_half (evl 4294967296 l)
 omega
theorem QOf_ct (h:Heap) (neg:Bool) (a b:Sl) (l m:List Nat) (hv:IsVal h a b l m):
  Fn0 T F.ref01_Of [.agg #[.bool neg,a.val,b.val]] h fun v h'=>∃c d:Sl,v=.agg #[.bool (sg (ratOf neg l m)),c.val,d.val]∧IsQ h' c d (ratOf neg l m):=by
 have i1:=hv.num
 have i2:=hv.den
 have l1:=hv.ln
 have l2:=hv.lm
 have l3:=hv.sn
 have l4:=hv.sm
 have b1:=ln16_le l1
 have b2:=ln16_le l2
 have b3:=ln_one 65536 tlb
 obtain ⟨x,hx⟩:∃x,x=evl 4294967296 l:=⟨_,rfl⟩
 obtain ⟨y,hy⟩:∃y,y=evl 4294967296 m:=⟨_,rfl⟩
 obtain ⟨q,hq⟩:∃q,q=ratOf neg l m:=⟨_,rfl⟩
 have hq1:y=0→mkQ neg x 1=q:=fun h0=>by rw [hq,ratOf,← hx,← hy,if_pos h0]
 have hq2:y≠0→mkQ neg x y=q:=fun h0=>by rw [hq,ratOf,← hx,← hy,if_neg h0]
 rw [← hx] at b1
 rw [← hy] at b2
 have hz:=ln_eq_zero tlb (n:=y)
 have hz1:ln 65536 y=0→y=0:=hz.1
 have hz2:ln 65536 y≠0→y≠0:=fun h1 h0=>h1 (hz.2 h0)
 clear hz
 rw [← hq]
 replace hq:=Hq.mk hq
 refine f0C ok D.ref01_Of rfl ?_
 conv=>whnf
 repeat ((first|refine oI.z ?_|refine cI.z ?_);conv=>whnf)
 repeat' first|((first|(show SeqN _ _ _ _ _ _ _;refine SeqN.go ?_)|(show CN _ _ _ _ _ _;first|(refine CN.f rfl (words_ct _ _ l (by (iterate 30 try first|assumption|refine Ws.mono ?_ (by assumption));first|done|assumption) l1 (by omega)) (fun v h' hl hr=>?_);rw [← hx] at hr;obtain ⟨s',rfl,hs'⟩:=hr;have hxl:=hs'.len)|(refine CN.f rfl (words_ct _ _ m (by assumption) l2 (by omega)) (fun v h' hl hr=>?_);rw [← hy] at hr;obtain ⟨t',rfl,ht'⟩:=hr;have hyl:=ht'.len)|(refine CN.f rfl (NatOf_ct _ 1 (by omega)) (fun v h' hl hr=>?_);obtain ⟨s',rfl,hs'⟩:=hr)|(refine CN.f rfl (Make_ct _ _ _ _ x 1 (by assumption) (by (iterate 30 try first|assumption|refine IsRef.mono ?_ (by assumption));first|done|assumption) (by omega) (by omega)) (fun v h' hl hr=>?_);rw [hq1 (hz1 (by omega))] at hr;obtain ⟨a',b',rfl,hq'⟩:=hr)|(refine CN.f rfl (Make_ct _ _ _ _ x y (by assumption) (by (iterate 30 try first|assumption|refine IsRef.mono ?_ (by assumption));first|done|assumption) (by omega) (by omega)) (fun v h' hl hr=>?_);rw [hq2 (hz2 (by omega))] at hr;obtain ⟨a',b',rfl,hq'⟩:=hr))|((first|refine oI.z ?_|refine cI.z ?_))|refine ⟨fun _=>HasLe.o (by assumption),?_⟩|refine ⟨fun hst=>(by cases (show true=false from hst)),?_⟩|intro (_:Nat)|refine LdN.o 0 rfl rfl ?_|refine Ld.o 1 rfl rfl ?_|refine Sto.l 0 rfl rfl rfl ?_|refine DrN.run (by decide +kernel) ?_) <;> (conv=>whnf))|(refine cnd_eq (fun _=>?_) (fun _=>?_) <;> first|(exfalso;omega)|(conv=>whnf))
 all_goals exact RN.a ⟨_,_,rfl,(by assumption)⟩

theorem fits16 (q:Rat):fits q↔ln 65536 (nu q)≤128∧ln 65536 q.den≤128:=by
 have h1:=ln_half (nu q)
 have h2:=ln_half q.den
 unfold fits
 omega

theorem Diff_ct (h:Heap) (a b c d:Sl) (q r:Rat) (hq:IsQ h a b q) (hr:IsQ h c d r) (hs:Sr 1073741824 q) (hs':Sr 1073741824 r):
  Fn0 T F.ref01_Diff [.agg #[.bool (sg q),a.val,b.val],.agg #[.bool (sg r),c.val,d.val]] h fun v h'=>∃s t:Sl,v=.agg #[.bool (sg (q-r)),s.val,t.val]∧IsQ h' s t (q-r):=by
 have y2:Sr 1073741824 (-r):=Sr.neg hs'
 have y3:Sr 1099511627776 r:=hs'.mono (by decide)
 have h3:=IsQ.neg hr
 have e:q-r=q+-r:=Rat.sub_eq_add_neg q r
 refine f0C ok D.ref01_Diff rfl ?_
 conv=>whnf
 repeat ((first|refine oI.z ?_|refine cI.z ?_);conv=>whnf)
 repeat' first|((first|(show CN _ _ _ _ _ _;first|refine CN.quiet rfl (Opp_q _ _ _ _ (by assumption) y3) ?_|(refine CN.f rfl (Sum_ct _ _ _ _ _ _ _ (by assumption) (by assumption) hs y2) (fun v h' hl hr=>?_);obtain ⟨e1,e2,rfl,hq'⟩:=hr))|((first|refine oI.z ?_|refine cI.z ?_))|refine ⟨fun _=>HasLe.o (Heap.lr _),?_⟩|refine ⟨fun _=>HasLe.o (by assumption),?_⟩|refine ⟨fun hst=>(by cases (show true=false from hst)),?_⟩|intro (_:Nat)|(show LdN _ _ _ _ _;first|refine LdN.o 0 rfl rfl ?_|refine LdN.o 1 rfl rfl ?_|refine LdN.o 2 rfl rfl ?_)|refine Sto.l 0 rfl rfl rfl ?_|refine DrN.run (by decide +kernel) ?_) <;> (conv=>whnf))
 exact RN.a ⟨_,_,by rw [e] <;> rfl,by rw [e];exact (by assumption)⟩

theorem sr_add {k l:Nat} {q r:Rat} (a:Sr k q) (b:Sr l r):Sr (k+l+1) (q+r):=by
 have h:=add_le q r
 have p1:=ln_mul tlb (nu q) r.den
 have p2:=ln_mul tlb (nu r) q.den
 have p3:=ln_mul tlb q.den r.den
 have p4:=ln_add tlb (nu q*r.den) (nu r*q.den)
 have a1:=a.num
 have a2:=a.den
 have b1:=b.num
 have b2:=b.den
 exact ⟨Nat.le_trans (ln_mono tlb h.1) (by omega),Nat.le_trans (ln_mono tlb h.2) (by omega)⟩
end Go.Proofs.YtbgicephinomlaaGreatDoor
/- Contracts of the statements' own helpers: when two results are the same. -/
namespace Go.Dig
def dn (q:Rat):Nat:=if q.den=1 then 0 else q.den
end Go.Dig
namespace Go.Proofs.YtbgicephinomlaaGreatDoor
open Go Go.Vc Go.Dig

theorem dn_le (q:Rat):dn q≤q.den:=by unfold dn;split <;> omega
theorem israt_val {h:Heap} {a b:Sl} {q:Rat} (w:IsRat h a b q) (hs:Sz 1073741824 q):IsVal h a b (dg 4294967296 (nu q)) (dg 4294967296 (dn q)):=
 ⟨w.num,w.den,dg_lt tlB _,dg_lt tlB _,by have:=hs.num;unfold ln at this;exact this,by
   have h1:=ln_le_of_le (dn_le q)
   have h2:=hs.den
   unfold ln at h1 h2;omega⟩
theorem ratOf_dg (q:Rat):ratOf (sg q) (dg 4294967296 (nu q)) (dg 4294967296 (dn q))=q:=by
 unfold ratOf
 rw [evl_dg tlB,evl_dg tlB]
 have hd:=q.den_nz
 have:(if dn q=0 then 1 else dn q)=q.den:=by
  unfold dn
  by_cases h1:q.den=1
  ·rw [if_pos h1,if_pos rfl,h1]
  ·rw [if_neg h1,if_neg hd]
 rw [this,mkQ_self]
theorem okR_dg {q:Rat} (hf:fits q):okR (sg q) (dg 4294967296 (nu q)) (dg 4294967296 (dn q)):=by
 unfold okR
 rw [ratOf_dg,evl_dg tlB,evl_dg tlB]
 have h1:=ln_le_of_le (dn_le q)
 have h2:=hf.1
 have h3:=hf.2
 exact ⟨by omega,by omega,hf⟩



structure Rok (p:Rat × Int):Prop where
 sz:Sz 1073741824 p.1
 err:p.2≠0→p.1=0
theorem sz_zero (k:Nat):Sz (k+1) 0:=⟨by rw [nu_zero,ln_zero];omega,by rw [show (0:Rat).den=1 from rfl,ln_one _ tlB];omega⟩
end Go.Proofs.YtbgicephinomlaaGreatDoor