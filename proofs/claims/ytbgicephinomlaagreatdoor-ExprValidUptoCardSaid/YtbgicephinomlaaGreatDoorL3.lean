/- Contracts of the reference's functions on rational numbers, first part. -/
import Derived.Test.YtbgicephinomlaaGreatDoorR6
import Derived.Test.YtbgicephinomlaaGreatDoorRep3
import Derived.Test.YtbgicephinomlaaGreatDoorW10
set_option linter.unusedVariables false
set_option linter.unusedSimpArgs false
namespace Go.Dig
theorem mkQ_den0 (neg:Bool) (m:Nat):mkQ neg m 0=0:=by unfold mkQ;simp
end Go.Dig
namespace Go.Proofs.YtbgicephinomlaaGreatDoor
open Go Go.Vc Go.Dig

structure IsQ (h:Heap) (a b:Sl) (q:Rat):Prop where
 num:IsRef h a (nu q)
 den:IsRef h b q.den
structure Sr (k:Nat) (q:Rat):Prop where
 num:ln 65536 (nu q)≤k
 den:ln 65536 q.den≤k
theorem Sr.mono {k l:Nat} {q:Rat} (s:Sr k q) (h:k≤l):Sr l q:=⟨Nat.le_trans s.num h,Nat.le_trans s.den h⟩
theorem IsRef.nil {h:Heap} {s:Sl} (h0:s.l=0):IsRef h s 0:=by unfold IsRef;rw [dg_zero];exact Ws.nil h0

set_option maxRecDepth 20000 in
set_option maxHeartbeats 1000000 in
theorem Make_ct (h:Heap) (neg:Bool) (a b:Sl) (m n:Nat) (ha:IsRef h a m) (hb:IsRef h b n) (la:ln 65536 m≤4294967296) (lb:ln 65536 n≤4294967296):
  Fn0 T F.ref01_Make [.bool neg,a.val,b.val] h fun v h'=>∃a' b':Sl,v=.agg #[.bool (sg (mkQ neg m n)),a'.val,b'.val]∧IsQ h' a' b' (mkQ neg m n):=by
 have hal:=ha.len
 have hbl:=hb.len
 have hzm:=ln_eq_zero two_le_b (n:=m)
 have hzn:=ln_eq_zero two_le_b (n:=n)
 have zero:mkQ neg m n=0→∀h' (s:Sl),IsRef h' s 1→∃a' b':Sl,Value.agg #[.bool false,.slice none 0 0,s.val]=.agg #[.bool (sg (mkQ neg m n)),a'.val,b'.val]∧IsQ h' a' b' (mkQ neg m n):=fun e h' s hs=>by
  rw [e,sg_zero]
  exact ⟨⟨none,0,0⟩,s,rfl,⟨by rw [nu_zero];exact IsRef.nil rfl,hs⟩⟩
 refine fn0_of_codeI ok D.ref01_Make rfl ?_
 conv=>whnf
 repeat ((first | refine opsI.step ?_ | refine codeI.step ?_);conv=>whnf)
 by_cases hm:m=0
 ·have h1:=hzm.2 hm
  clear hzm hzn
  repeat' first | ((first | (show CallN _ _ _ _ _ _;(refine CallN.fn rfl (NatOf_ct _ 1 (by omega)) (fun v h' hl hr=>?_);obtain ⟨s',rfl,hs'⟩:=hr)) | ((first | refine opsI.step ?_ | refine codeI.step ?_)) | intro (_:Nat) | refine LdN.own 0 rfl rfl ?_ | refine Sto.lit 0 rfl rfl rfl ?_) <;> (conv=>whnf)) | (refine cnd_eq (fun _=>?_) (fun _=>?_) <;> first | (exfalso;omega) | (conv=>whnf))
  all_goals exact RetN.all (zero (by rw [hm,mkQ_zero]) _ _ ‹_›)
 by_cases hn:n=0
 ·have h1:=hzn.2 hn
  have h2:ln 65536 m≠0:=fun e=>hm (hzm.1 e)
  clear hzm hzn
  repeat' first | ((first | (show CallN _ _ _ _ _ _;(refine CallN.fn rfl (NatOf_ct _ 1 (by omega)) (fun v h' hl hr=>?_);obtain ⟨s',rfl,hs'⟩:=hr)) | ((first | refine opsI.step ?_ | refine codeI.step ?_)) | intro (_:Nat) | refine LdN.own 0 rfl rfl ?_ | refine Sto.lit 0 rfl rfl rfl ?_) <;> (conv=>whnf)) | (refine cnd_eq (fun _=>?_) (fun _=>?_) <;> first | (exfalso;omega) | (conv=>whnf))
  all_goals exact RetN.all (zero (by rw [hn,mkQ_den0]) _ _ ‹_›)
 have h1:ln 65536 m≠0:=fun e=>hm (hzm.1 e)
 have h2:ln 65536 n≠0:=fun e=>hn (hzn.1 e)
 have hone:ln 65536 n=1→(dg 65536 n).getD 0 0=n:=fun e=>(one_digit16 e).1
 have e1:=sg_mkQ neg (m:=m) hn
 have e2:=nu_mkQ neg (m:=m) hn
 have e3:=den_mkQ neg (m:=m) hn
 rw [show (neg && decide (m≠0))=neg by simp [hm]] at e1
 have hg0:Nat.gcd m n≠0:=by have:=Nat.gcd_pos_of_pos_right m (Nat.pos_of_ne_zero hn);omega
 have hgl:ln 65536 (Nat.gcd m n)≤ln 65536 n:=ln_mono two_le_b (Nat.gcd_le_right _ (by omega))
 replace e1:=Hq.mk e1
 replace e2:=Hq.mk e2
 replace e3:=Hq.mk e3
 clear hzm hzn zero
 repeat' first | ((first | (show CallN _ _ _ _ _ _;first | (refine CallN.fn rfl (NatOf_ct _ 1 (by omega)) (fun v h' hl hr=>?_);obtain ⟨s',rfl,hs'⟩:=hr) | (refine CallN.fn rfl (NatGcd_ct _ _ _ _ _ (by assumption) (by assumption) (by omega) (by omega)) (fun v h' hl hr=>?_);obtain ⟨s',rfl,hs'⟩:=hr) | (refine CallN.fn rfl (NatDiv_ct _ _ _ _ _ (by (iterate 30 (try first | assumption | refine Ws.mono ?_ (by assumption)));first | done | assumption) (by (iterate 30 (try first | assumption | refine Ws.mono ?_ (by assumption)));first | done | assumption) (by omega) (by omega) (by first | assumption | omega)) (fun v h' hl hr=>?_);obtain ⟨q',r',rfl,hq',hr'⟩:=hr)) | (show Idx _ _ _ _ _;(refine Idx.ws hb 0 (by omega) (by unfold ln at *;omega) (fun ad hv=>?_))) | (show Ld _ _ _ _;(refine Ld.of (by first | exact hv _ | (rename_i hv;exact hv _)) ?_)) | (show App _ _ _ _ _ _ _ _ _;(refine App.fresh rfl ha (by unfold ln at *;omega) (by decide) (fun h' s' hl w'=>?_))) | ((first | refine opsI.step ?_ | refine codeI.step ?_)) | intro (_:Nat) | refine LdN.own 0 rfl rfl ?_ | refine Sto.lit 0 rfl rfl rfl ?_) <;> (conv=>whnf)) | (refine cnd_eq (fun _=>?_) (fun _=>?_) <;> first | (exfalso;omega) | (conv=>whnf))
 ·have hn1:n=1:=by have:=hone (by omega);omega
  rw [hn1,Nat.gcd_one_right,Nat.div_one] at e2
  rw [hn1,Nat.gcd_one_right,Nat.div_one] at e3
  rw [hn1] at e1 ⊢
  exact RetN.all ⟨_,s',by rw [e1.out] <;> rfl,⟨by rw [e2.out];exact (by (iterate 30 (try first | assumption | refine IsRef.mono ?_ (by assumption)));first | done | assumption),by rw [e3.out];exact (by assumption)⟩⟩
 all_goals exact RetN.all ⟨_,_,by rw [e1.out] <;> rfl,⟨by rw [e2.out];exact (by (iterate 30 (try first | assumption | refine IsRef.mono ?_ (by assumption)));first | done | assumption),by rw [e3.out];exact (by assumption)⟩⟩

theorem Sgn_q (h:Heap) (a b:Sl) (q:Rat) (hq:IsQ h a b q) (hs:Sr 1099511627776 q):Fn0 T F.ref01_Sgn [.agg #[.bool (sg q),a.val,b.val]] h fun v h'=>h'=h∧v=.int .i64 (signQ q):=by
 have h1:=hq.num.len
 have h3:=hs.num
 have hz:=ln_eq_zero two_le_b (n:=nu q)
 refine fn0_of_codeI ok D.ref01_Sgn rfl ?_
 conv=>whnf
 repeat ((first | refine opsI.step ?_ | refine codeI.step ?_);conv=>whnf)
 by_cases h0:nu q=0
 ·have h4:=hz.2 h0
  clear hz
  repeat' first | ((first | ((first | refine opsI.step ?_ | refine codeI.step ?_)) | intro (_:Nat) | refine Ld.own 0 rfl rfl ?_) <;> (conv=>whnf)) | (refine cnd_eq (fun _=>?_) (fun _=>?_) <;> first | (exfalso;omega) | (conv=>whnf))
  exact RetN.all ⟨rfl,vi (by unfold signQ;rw [if_pos h0])⟩
 ·have h4:ln 65536 (nu q)≠0:=fun e=>h0 (hz.1 e)
  clear hz
  repeat' first | ((first | ((first | refine opsI.step ?_ | refine codeI.step ?_)) | intro (_:Nat) | refine Ld.own 0 rfl rfl ?_) <;> (conv=>whnf)) | (show cnd _ _ _;first | (refine cnd_eq (fun _=>?_) (fun _=>?_) <;> first | (exfalso;omega) | (conv=>whnf)) | (refine cnd_bool (fun _=>?_) (fun _=>?_) <;> (conv=>whnf)))
  ·exact RetN.all ⟨rfl,vi (by unfold signQ;rw [if_neg h0,if_pos (by assumption)])⟩
  ·exact RetN.all ⟨rfl,vi (by unfold signQ;rw [if_neg h0,if_neg (by simp_all)])⟩


theorem ratOf_le (neg:Bool) (l m:List Nat):nu (ratOf neg l m)≤evl 4294967296 l∧(ratOf neg l m).den≤(if evl 4294967296 m=0 then 1 else evl 4294967296 m):=by
 unfold ratOf;exact mkQ_le neg (by split <;> omega)
theorem ln16_le {l:List Nat} (hl:∀x∈l,x<4294967296):ln 65536 (evl 4294967296 l)≤2*l.length:=by
 have h1:=(ln_le_iff (b:=4294967296) two_le_B).2 (evl_lt two_le_B hl)
 have:=ln_half (evl 4294967296 l)
 omega
theorem ratOf_sr {h:Heap} {a b:Sl} {neg:Bool} {l m:List Nat} (hv:IsVal h a b l m):Sr 2147483649 (ratOf neg l m):=by
 have h1:=ln16_le hv.ln
 have h2:=ln16_le hv.lm
 have h3:=hv.sn
 have h4:=hv.sm
 have h5:=ratOf_le neg l m
 have h6:=ln_one 65536 two_le_b
 refine ⟨Nat.le_trans (ln_mono two_le_b h5.1) (by omega),Nat.le_trans (ln_mono two_le_b h5.2) ?_⟩
 split <;> omega

set_option maxRecDepth 20000 in
theorem QOf_ct (h:Heap) (neg:Bool) (a b:Sl) (l m:List Nat) (hv:IsVal h a b l m):
  Fn0 T F.ref01_Of [.agg #[.bool neg,a.val,b.val]] h fun v h'=>∃c d:Sl,v=.agg #[.bool (sg (ratOf neg l m)),c.val,d.val]∧IsQ h' c d (ratOf neg l m):=by
 have i1:=hv.num
 have i2:=hv.den
 have l1:=hv.ln
 have l2:=hv.lm
 have l3:=hv.sn
 have l4:=hv.sm
 have b1:=ln16_le l1
 have b2:=ln16_le l2
 have b3:=ln_one 65536 two_le_b
 obtain ⟨x,hx⟩:∃x,x=evl 4294967296 l:=⟨_,rfl⟩
 obtain ⟨y,hy⟩:∃y,y=evl 4294967296 m:=⟨_,rfl⟩
 obtain ⟨q,hq⟩:∃q,q=ratOf neg l m:=⟨_,rfl⟩
 have hq1:y=0→mkQ neg x 1=q:=fun h0=>by rw [hq,ratOf,← hx,← hy,if_pos h0]
 have hq2:y≠0→mkQ neg x y=q:=fun h0=>by rw [hq,ratOf,← hx,← hy,if_neg h0]
 rw [← hx] at b1
 rw [← hy] at b2
 have hz:=ln_eq_zero two_le_b (n:=y)
 have hz1:ln 65536 y=0→y=0:=hz.1
 have hz2:ln 65536 y≠0→y≠0:=fun h1 h0=>h1 (hz.2 h0)
 clear hz
 rw [← hq]
 replace hq:=Hq.mk hq
 refine fn0_of_codeI ok D.ref01_Of rfl ?_
 conv=>whnf
 repeat ((first | refine opsI.step ?_ | refine codeI.step ?_);conv=>whnf)
 repeat' first | ((first | (show SeqN _ _ _ _ _ _ _;refine SeqN.go ?_) | (show CallN _ _ _ _ _ _;first | (refine CallN.fn rfl (words_ct _ _ l (by (iterate 30 (try first | assumption | refine Ws.mono ?_ (by assumption)));first | done | assumption) l1 (by omega)) (fun v h' hl hr=>?_);rw [← hx] at hr;obtain ⟨s',rfl,hs'⟩:=hr;have hxl:=hs'.len) | (refine CallN.fn rfl (words_ct _ _ m (by assumption) l2 (by omega)) (fun v h' hl hr=>?_);rw [← hy] at hr;obtain ⟨t',rfl,ht'⟩:=hr;have hyl:=ht'.len) | (refine CallN.fn rfl (NatOf_ct _ 1 (by omega)) (fun v h' hl hr=>?_);obtain ⟨s',rfl,hs'⟩:=hr) | (refine CallN.fn rfl (Make_ct _ _ _ _ x 1 (by assumption) (by (iterate 30 (try first | assumption | refine IsRef.mono ?_ (by assumption)));first | done | assumption) (by omega) (by omega)) (fun v h' hl hr=>?_);rw [hq1 (hz1 (by omega))] at hr;obtain ⟨a',b',rfl,hq'⟩:=hr) | (refine CallN.fn rfl (Make_ct _ _ _ _ x y (by assumption) (by (iterate 30 (try first | assumption | refine IsRef.mono ?_ (by assumption)));first | done | assumption) (by omega) (by omega)) (fun v h' hl hr=>?_);rw [hq2 (hz2 (by omega))] at hr;obtain ⟨a',b',rfl,hq'⟩:=hr)) | ((first | refine opsI.step ?_ | refine codeI.step ?_)) | refine ⟨fun _=>HasLe.of_le (by assumption),?_⟩ | refine ⟨fun hst=>(by cases (show true=false from hst)),?_⟩ | intro (_:Nat) | refine LdN.own 0 rfl rfl ?_ | refine Ld.own 1 rfl rfl ?_ | refine Sto.lit 0 rfl rfl rfl ?_ | refine DrawN.run (by decide +kernel) ?_) <;> (conv=>whnf)) | (refine cnd_eq (fun _=>?_) (fun _=>?_) <;> first | (exfalso;omega) | (conv=>whnf))
 all_goals exact RetN.all ⟨_,_,rfl,(by assumption)⟩

theorem fits16 (q:Rat):fits q↔ln 65536 (nu q)≤128∧ln 65536 q.den≤128:=by
 have h1:=ln_half (nu q)
 have h2:=ln_half q.den
 unfold fits
 omega
theorem Over_q (h:Heap) (a b:Sl) (q:Rat) (hq:IsQ h a b q) (hs:Sr 4294967296 q):Fn0 T F.ref01_Over [.agg #[.bool (sg q),a.val,b.val]] h fun v h'=>h'=h∧v=.bool (!dec (fits q)):=by
 have h1:=hq.num.len
 have h2:=hq.den.len
 have h3:=hs.num
 have h4:=hs.den
 have hf:=fits16 q
 refine fn0_of_codeI ok D.ref01_Over rfl ?_
 conv=>whnf
 repeat ((first | refine opsI.step ?_ | refine codeI.step ?_);conv=>whnf)
 replace hf:=Hq.mk hf
 repeat' first | ((first | ((first | refine opsI.step ?_ | refine codeI.step ?_)) | intro (_:Nat) | refine Ld.own 0 rfl rfl ?_) <;> (conv=>whnf)) | (refine cnd_lt (fun _=>?_) (fun _=>?_) <;> first | (exfalso;omega) | (conv=>whnf))
 all_goals refine RetN.all ⟨rfl,?_⟩
 ·rw [dec_false (fun hh=>by have:=(hf.out.1 hh).1;omega)] <;> rfl
 ·by_cases hh:ln 65536 q.den≤128
  ·rw [dec_true (hf.out.2 ⟨by omega,hh⟩),lt_false' (by omega)] <;> rfl
  ·rw [dec_false (fun x=>hh (hf.out.1 x).2),lt_true' (by omega)] <;> rfl

theorem okR16 (neg:Bool) (l m:List Nat):okR neg l m↔ln 65536 (evl 4294967296 l)≤512∧ln 65536 (evl 4294967296 m)≤512∧fits (ratOf neg l m):=by
 have h1:=ln_half (evl 4294967296 l)
 have h2:=ln_half (evl 4294967296 m)
 unfold okR
 constructor <;> intro ⟨a,b,c⟩ <;> exact ⟨by omega,by omega,c⟩
set_option maxRecDepth 20000 in
theorem Large_ct (h:Heap) (neg:Bool) (a b:Sl) (l m:List Nat) (hv:IsVal h a b l m):Fn0 T F.ref01_Large [.agg #[.bool neg,a.val,b.val]] h fun v _=>v=.bool (!dec (okR neg l m)):=by
 have i1:=hv.num
 have i2:=hv.den
 have l1:=hv.ln
 have l2:=hv.lm
 have l3:=hv.sn
 have l4:=hv.sm
 have b1:=ln16_le l1
 have b2:=ln16_le l2
 have hsr:=(ratOf_sr (neg:=neg) hv).mono (show 2147483649≤4294967296 by decide)
 obtain ⟨x,hx⟩:∃x,x=evl 4294967296 l:=⟨_,rfl⟩
 obtain ⟨y,hy⟩:∃y,y=evl 4294967296 m:=⟨_,rfl⟩
 have hok:=okR16 neg l m
 rw [← hx,← hy] at hok
 rw [← hx] at b1
 rw [← hy] at b2
 replace hok:=Hq.mk hok
 refine fn0_of_codeI ok D.ref01_Large rfl ?_
 conv=>whnf
 repeat ((first | refine opsI.step ?_ | refine codeI.step ?_);conv=>whnf)
 repeat' first | ((first | (show CallN _ _ _ _ _ _;first | (refine CallN.fn rfl (words_ct _ _ l (by (iterate 30 (try first | assumption | refine Ws.mono ?_ (by assumption)));first | done | assumption) l1 (by omega)) (fun v h' hl hr=>?_);rw [← hx] at hr;obtain ⟨s',rfl,hs'⟩:=hr;have hxl:=hs'.len) | (refine CallN.fn rfl (words_ct _ _ m (by (iterate 30 (try first | assumption | refine Ws.mono ?_ (by assumption)));first | done | assumption) l2 (by omega)) (fun v h' hl hr=>?_);rw [← hy] at hr;obtain ⟨t',rfl,ht'⟩:=hr;have hyl:=ht'.len) | (refine CallN.fn rfl (QOf_ct _ _ _ _ l m (by (iterate 30 (try first | assumption | refine IsVal.mono ?_ (by assumption)));first | done | assumption)) (fun v h' hl hr=>?_);obtain ⟨a',b',rfl,hq'⟩:=hr;have hqn':=hq'.num;have hqd':=hq'.den) | (refine CallN.quiet rfl (Over_q _ _ _ _ (by assumption) (by first | assumption | omega)) ?_)) | ((first | refine opsI.step ?_ | refine codeI.step ?_)) | intro (_:Nat) | refine LdN.own 0 rfl rfl ?_ | refine Ld.own 0 rfl rfl ?_) <;> (conv=>whnf)) | (refine cnd_lt (fun _=>?_) (fun _=>?_) <;> first | (exfalso;omega) | (conv=>whnf))
 ·exact RetN.all (by rw [dec_false (fun hh=>by have:=(hok.out.1 hh).1;omega)] <;> rfl)
 ·exact RetN.all (by rw [dec_false (fun hh=>by have:=(hok.out.1 hh).2.1;omega)] <;> rfl)
 ·exact RetN.all (by rw [dec_congr (p:=okR neg l m) (q:=fits (ratOf neg l m)) ⟨fun hh=>(hok.out.1 hh).2.2,fun hh=>hok.out.2 ⟨by omega,by omega,hh⟩⟩] <;> rfl)


end Go.Proofs.YtbgicephinomlaaGreatDoor
/- Contracts of the statements' own helpers: when two results are the same. -/
namespace Go.Dig
def dn (q:Rat):Nat:=if q.den=1 then 0 else q.den
end Go.Dig
namespace Go.Proofs.YtbgicephinomlaaGreatDoor
open Go Go.Vc Go.Dig

theorem dn_le (q:Rat):dn q≤q.den:=by unfold dn;split <;> omega
theorem israt_val {h:Heap} {a b:Sl} {q:Rat} (w:IsRat h a b q) (hs:Sz 1073741824 q):IsVal h a b (dg 4294967296 (nu q)) (dg 4294967296 (dn q)):=
 ⟨w.num,w.den,dg_lt two_le_B _,dg_lt two_le_B _,by have:=hs.num;unfold ln at this;exact this,by
   have h1:=ln_le_of_le (dn_le q)
   have h2:=hs.den
   unfold ln at h1 h2;omega⟩


structure Rok (p:Rat × Int):Prop where
 sz:Sz 1073741824 p.1
 err:p.2≠0→p.1=0
theorem sz_zero (k:Nat):Sz (k+1) 0:=⟨by rw [nu_zero,ln_zero];omega,by rw [show (0:Rat).den=1 from rfl,ln_one _ two_le_B];omega⟩
end Go.Proofs.YtbgicephinomlaaGreatDoor