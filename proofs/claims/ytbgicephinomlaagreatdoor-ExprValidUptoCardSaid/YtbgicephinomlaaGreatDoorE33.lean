/- The reference's side of valid trees: kinds, arguments, nodes. -/
import Derived.Test.YtbgicephinomlaaGreatDoorE29
import Derived.Test.YtbgicephinomlaaGreatDoorL4
import Derived.Test.YtbgicephinomlaaGreatDoorE19
set_option linter.unusedVariables false
set_option linter.unusedSimpArgs false
namespace Go.Proofs.YtbgicephinomlaaGreatDoor
open Go Go.Vc Go.Dig
theorem le_dec {lo x hi:Int} (h:lo≤x):le x hi=dec (lo≤x∧x≤hi):=by
 unfold le
 rw [dec_eq]
 exact decide_eq_decide.2 ⟨fun y=>⟨h,y⟩,fun y=>y.2⟩
theorem seq_nil (l:List Nat) (hb:∀y∈l,y<256):seq (txt l) ⟨#[]⟩=dec (l=[]):=by
 by_cases h:l=[]
 ·subst h
  rw [dec_true rfl]
  unfold seq
  exact beq_self_eq_true _
 ·rw [dec_false h]
  exact seq_ne fun x=>h (txt_inj hb (fun y hy=>by cases hy) x)
theorem eq_dec {x y:Int}:eq x y=dec (x=y):=by
 unfold eq
 rw [dec_eq]
set_option maxRecDepth 20000 in
theorem rkids_ct (h:Heap) (op:Int):Fn0 T F.ref04_kids [.int .i64 op] h fun v h'=>h'=h∧v=.int .i64 (kidsN op):=by
 have k0:op=1∨op=2∨op=3→kidsN op=0:=fun x=>if_pos x
 have k1:op=4∨op=9∨op=10∨op=11∨op=12→kidsN op=1:=fun x=>by unfold kidsN;rw [if_neg (by omega),if_pos x]
 have k2:op=5∨op=6∨op=7∨op=8∨op=13∨op=14→kidsN op=2:=fun x=>by unfold kidsN;rw [if_neg (by omega),if_neg (by omega),if_pos x]
 have k3:op=15→kidsN op=3:=fun x=>by unfold kidsN;rw [if_neg (by omega),if_neg (by omega),if_neg (by omega),if_pos x]
 have k4:¬(op=1∨op=2∨op=3)→¬(op=4∨op=9∨op=10∨op=11∨op=12)→¬(op=5∨op=6∨op=7∨op=8∨op=13∨op=14)→op≠15→kidsN op=-1:=fun a b c d=>by unfold kidsN;rw [if_neg a,if_neg b,if_neg c,if_neg d]
 obtain ⟨K,hK⟩:∃K,K=kidsN op:=⟨_,rfl⟩
 rw [← hK] at k0 k1 k2 k3 k4 ⊢
 replace k0:=Hq.mk k0
 replace k1:=Hq.mk k1
 replace k2:=Hq.mk k2
 replace k3:=Hq.mk k3
 replace k4:=Hq.mk k4
 refine fn0_of_codeI ok D.ref04_kids rfl ?_
 conv=>whnf
 repeat ((first | refine opsI.step ?_ | refine codeI.step ?_);conv=>whnf)
 repeat' first | ((first | (show SeqN _ _ _ _ _ _ _;refine SeqN.go ?_) | ((first | refine opsI.step ?_ | refine codeI.step ?_))) <;> (conv=>whnf)) | (refine cnd_eq (fun _=>?_) (fun _=>?_) <;> first | (exfalso;omega) | (conv=>whnf))
 all_goals first
  | exact RetN.all ⟨rfl,by rw [k0.out (by omega)]⟩
  | exact RetN.all ⟨rfl,by rw [k1.out (by omega)]⟩
  | exact RetN.all ⟨rfl,by rw [k2.out (by omega)]⟩
  | exact RetN.all ⟨rfl,by rw [k3.out (by omega)]⟩
  | exact RetN.all ⟨rfl,by rw [k4.out (by omega) (by omega) (by omega) (by omega)]⟩
set_option maxRecDepth 20000 in
theorem rarg_ct (h:Heap) (op arg:Int) (neg:Bool) (a b s:Sl) (name:ByteArray):
  Fn0 T F.ref04_argument [.agg #[.int .i64 op,.int .i64 arg,.bool neg,a.val,b.val,.string name,s.val]] h fun v h'=>v=.bool (dec (lowA op≤arg∧arg≤highA op)):=by
 obtain ⟨R,hR⟩:∃R,R=dec (lowA op≤arg∧arg≤highA op):=⟨_,rfl⟩
 have l9:op=9→R=(dec (-32≤arg∧arg≤32)):=fun x=>by rw [hR,x];exact dec_congr Iff.rfl
 have l10:op=10→R=(dec (2≤arg∧arg≤8)):=fun x=>by rw [hR,x];exact dec_congr Iff.rfl
 have l11:op=11→R=(dec (1≤arg∧arg≤8)):=fun x=>by rw [hR,x];exact dec_congr Iff.rfl
 have l0:op≠9→op≠10→op≠11→R=dec (arg=0):=fun x y z=>by
  rw [hR,lowA,highA,if_neg x,if_neg y,if_neg z,if_neg x,if_neg y,if_neg z];exact dec_congr ⟨fun u=>by omega,fun u=>by omega⟩
 rw [← hR]
 clear hR
 replace l9:=Hq.mk l9
 replace l10:=Hq.mk l10
 replace l11:=Hq.mk l11
 replace l0:=Hq.mk l0
 refine fn0_of_codeI ok D.ref04_argument rfl ?_
 conv=>whnf
 repeat ((first | refine opsI.step ?_ | refine codeI.step ?_);conv=>whnf)
 repeat' first | ((first | ((first | refine opsI.step ?_ | refine codeI.step ?_)) | intro (_:Nat) | refine Ld.own 0 rfl rfl ?_) <;> (conv=>whnf)) | (show cnd _ _ _;first | (refine cnd_le (fun _=>?_) (fun _=>?_) <;> first | (exfalso;omega) | (conv=>whnf)) | (refine cnd_eq (fun _=>?_) (fun _=>?_) <;> first | (exfalso;omega) | (conv=>whnf)))
 all_goals first
  | (refine RetN.all ?_;rw [l9.out (by omega)];first | exact congrArg Value.bool (le_dec (by omega)) | (rw [dec_false (fun u=>by omega)];done))
  | (refine RetN.all ?_;rw [l10.out (by omega)];first | exact congrArg Value.bool (le_dec (by omega)) | (rw [dec_false (fun u=>by omega)];done))
  | (refine RetN.all ?_;rw [l11.out (by omega)];first | exact congrArg Value.bool (le_dec (by omega)) | (rw [dec_false (fun u=>by omega)];done))
  | (refine RetN.all ?_;rw [l0.out (by omega) (by omega) (by omega)];exact congrArg Value.bool eq_dec)
set_option maxRecDepth 20000 in
theorem rZero_ct (h:Heap) (neg:Bool) (a b:Sl) (l m:List Nat) (hv:IsVal h a b l m):Fn0 T F.ref01_Zero [.agg #[.bool neg,a.val,b.val]] h fun v h'=>v=.bool (dec (evl 4294967296 l=0)):=by
 have i1:=hv.num
 have l1:=hv.ln
 have l3:=hv.sn
 obtain ⟨x,hx⟩:∃x,x=evl 4294967296 l:=⟨_,rfl⟩
 have hz:=ln_eq_zero (b:=65536) (n:=x) (by omega)
 rw [← hx]
 refine fn0_of_codeI ok D.ref01_Zero rfl ?_
 conv=>whnf
 repeat ((first | refine opsI.step ?_ | refine codeI.step ?_);conv=>whnf)
 repeat' first | ((first | (show CallN _ _ _ _ _ _;(refine CallN.fn rfl (words_ct _ _ l (by assumption) l1 (by omega)) (fun v h' hl hr=>?_);rw [← hx] at hr;obtain ⟨s',rfl,hs'⟩:=hr;have hxl:=hs'.len)) | ((first | refine opsI.step ?_ | refine codeI.step ?_)) | intro (_:Nat) | refine Ld.own 0 rfl rfl ?_) <;> (conv=>whnf))
 refine RetN.all ?_
 congr 1
 unfold eq
 rw [dec_eq]
 refine decide_eq_decide.2 ?_
 rw [← hz,hxl];omega
set_option maxRecDepth 20000 in
set_option maxHeartbeats 2000000 in
theorem rnode_ct (h:Heap) (op arg:Int) (neg:Bool) (a b:Sl) (l m name:List Nat) (s:Sl) (n:Nat) (hv:IsVal h a b l m) (hb:∀y∈name,y<256) (hs:s.l=n):
  Fn0 T F.ref04_node [.agg #[.int .i64 op,.int .i64 arg,.bool neg,a.val,b.val,.string (txt name),s.val]] h fun v h'=>v=.bool (dec (nodeB op arg neg l m name n)):=by
 obtain ⟨DD,hD⟩:∃DD,DD=dec (nodeB op arg neg l m name n):=⟨_,rfl⟩
 obtain ⟨KN,hK⟩:∃K,K=kidsN op:=⟨_,rfl⟩
 obtain ⟨LO,hL⟩:∃K,K=lowA op:=⟨_,rfl⟩
 obtain ⟨HI,hH⟩:∃K,K=highA op:=⟨_,rfl⟩
 have n1:(n:Int)≠KN→DD=false:=fun x=>by rw [hD];exact dec_false fun y=>x (by rw [hK];exact y.1)
 have n2:¬(LO≤arg∧arg≤HI)→DD=false:=fun x=>by rw [hD];exact dec_false fun y=>x (by rw [hL,hH];exact ⟨y.2.1,y.2.2.1⟩)
 have ar:LO≤arg∧arg≤HI→lowA op≤arg∧arg≤highA op:=fun x=>by rw [hL,hH] at x;exact x
 have p1:(n:Int)=KN→LO≤arg∧arg≤HI→op=1→DD=dec (okR neg l m∧0≤ratOf neg l m∧name=[]):=fun x y z=>by
  rw [hD];refine dec_congr ⟨fun q=>?_,fun q=>⟨by omega,(ar y).1,(ar y).2,?_,?_⟩⟩
  ·have q1:=q.2.2.2.1
   have q2:=q.2.2.2.2
   rw [if_neg (by omega)] at q1
   rw [if_pos z] at q2
   exact ⟨q2.1,q2.2,q1⟩
  ·rw [if_neg (by omega)];exact q.2.2
  ·rw [if_pos z];exact ⟨q.1,q.2.1⟩
 have p2:(n:Int)=KN→LO≤arg∧arg≤HI→op≠1→¬evl 4294967296 l=0→DD=false:=fun x y z u=>by
  rw [hD];exact dec_false fun q=>u (by have:=q.2.2.2.2;rw [if_neg z] at this;exact this)
 have p3:(n:Int)=KN→LO≤arg∧arg≤HI→op=2→evl 4294967296 l=0→DD=dec (IsNm name):=fun x y z u=>by
  rw [hD];refine dec_congr ⟨fun q=>?_,fun q=>⟨by omega,(ar y).1,(ar y).2,?_,?_⟩⟩
  ·have:=q.2.2.2.1;rw [if_pos z] at this;exact this
  ·rw [if_pos z];exact q
  ·rw [if_neg (by omega)];exact u
 have p4:(n:Int)=KN→LO≤arg∧arg≤HI→op≠1→op≠2→evl 4294967296 l=0→DD=dec (name=[]):=fun x y z t u=>by
  rw [hD];refine dec_congr ⟨fun q=>?_,fun q=>⟨by omega,(ar y).1,(ar y).2,?_,?_⟩⟩
  ·have:=q.2.2.2.1;rw [if_neg t] at this;exact this
  ·rw [if_neg t];exact q
  ·rw [if_neg z];exact u
 have c0:=fun h=>rkids_ct h op
 have c1:=fun h=>rarg_ct h op arg neg a b s (txt name)
 rw [← hK] at c0
 rw [← hL,← hH] at c1
 rw [← hD]
 clear hD hK hL hH ar
 have lsg:=le_sign (ratOf neg l m)
 have hsz:=(ratOf_sr (neg:=neg) hv).mono (show 2147483649≤1099511627776 by decide)
 have c2:=fun h hv=>Large_ct h neg a b l m hv
 have c3:=fun h hv=>QOf_ct h neg a b l m hv
 have c4:=fun h hv=>rZero_ct h neg a b l m hv
 have c5:=fun h=>RIsName_any h name hb
 obtain ⟨q,hq⟩:∃q,q=ratOf neg l m:=⟨_,rfl⟩
 obtain ⟨OK,hOK⟩:∃q,q=okR neg l m:=⟨_,rfl⟩
 obtain ⟨Z,hZ⟩:∃q,q=(evl 4294967296 l=0):=⟨_,rfl⟩
 rw [← hq] at p1 lsg hsz c3
 have sg1:0≤signQ q↔0≤q:=by
  have x:=lsg
  unfold le at x
  rw [dec_eq] at x
  exact decide_eq_decide.1 x
 replace sg1:=Hq.mk sg1
 replace n1:=Hq.mk n1
 replace n2:=Hq.mk n2
 replace p1:=Hq.mk p1
 replace p2:=Hq.mk p2
 replace p3:=Hq.mk p3
 replace p4:=Hq.mk p4
 refine fn0_of_codeI ok D.ref04_node rfl ?_
 conv=>whnf
 repeat ((first | refine opsI.step ?_ | refine codeI.step ?_);conv=>whnf)
 repeat' first | ((first | (show DrawN _ _ _ _ _ _;refine DrawN.each (by decide +kernel) ?_) | (show CallN _ _ _ _ _ _;first | refine CallN.quiet rfl (c0 _) ?_ | (refine CallN.fn rfl (c1 _) (fun v h' hl2 hr=>?_);subst hr) | (refine CallN.fn rfl (c2 _ (by (iterate 30 (try first | assumption | refine IsVal.mono ?_ (by assumption)));first | done | assumption)) (fun v h' hl2 hr=>?_);subst hr) | (refine CallN.fn rfl (c3 _ (by (iterate 30 (try first | assumption | refine IsVal.mono ?_ (by assumption)));first | done | assumption)) (fun v h' hl2 hr=>?_);obtain ⟨a',b',rfl,hq'⟩:=hr) | refine CallN.quiet rfl (Sgn_q _ _ _ q (by assumption) hsz) ?_ | (refine CallN.fn rfl (c4 _ (by (iterate 30 (try first | assumption | refine IsVal.mono ?_ (by assumption)));first | done | assumption)) (fun v h' hl2 hr=>?_);subst hr) | (refine CallN.fn rfl (c5 _) (fun v h' hl2 hr=>?_);subst hr)) | (show LdN _ _ _ _ _;(first | refine LdN.own 0 rfl rfl ?_ | refine LdN.ownAt 0 rfl rfl ?_)) | ((first | refine opsI.step ?_ | refine codeI.step ?_)) | refine ⟨fun _=>HasLe.of_le (Heap.le_refl _),?_⟩ | refine ⟨fun _=>HasLe.of_le (by assumption),?_⟩ | intro (_:Nat) | refine Ld.own 0 rfl rfl ?_) <;> (conv=>whnf)) | (show cnd _ _ _;first | (refine cnd_le (fun _=>?_) (fun _=>?_) <;> first | (exfalso;omega) | (conv=>whnf)) | (refine cnd_eq (fun _=>?_) (fun _=>?_) <;> first | (exfalso;omega) | (conv=>whnf)) | (refine cnd_not ?_) | (refine cnd_dec (fun _=>?_) (fun _=>?_) <;> first | (exfalso;omega) | (conv=>whnf))) | (refine Both.mk ?_ ?_ <;> (conv=>whnf))
 all_goals first
  | (rw [n1.out (by omega)];exact RetN.all rfl)
  | (rw [n2.out (by assumption)];exact RetN.all rfl)
  | (rw [p2.out (by omega) (by assumption) (by omega) (by assumption)];exact RetN.all rfl)
  | (rw [p3.out (by omega) (by assumption) (by omega) (by assumption)];exact RetN.all rfl)
  | (rw [p4.out (by omega) (by assumption) (by omega) (by omega) (by assumption)];exact RetN.all (congrArg Value.bool (seq_nil name hb)))
  | (rw [p1.out (by omega) (by assumption) (by omega),dec_false (fun u=>absurd u.1 (by assumption))];exact RetN.all rfl)
  | (rw [p1.out (by omega) (by assumption) (by omega),dec_false (fun u=>by have:=sg1.out.2 u.2.1;omega)];exact RetN.all rfl)
  | (rw [p1.out (by omega) (by assumption) (by omega),dec_congr (q:=name=[]) (Iff.intro (fun u=>u.2.2) (fun u=>And.intro (by assumption) (And.intro (sg1.out.1 (by omega)) u)))];exact RetN.all (congrArg Value.bool (seq_nil name hb)))
  | skip
end Go.Proofs.YtbgicephinomlaaGreatDoor
/- The reference's walk over a tree, and Valid. -/
namespace Go.Proofs.YtbgicephinomlaaGreatDoor
open Go Go.Vc Go.Dig
def wlkT (d n:Nat) (t:Tr):Int:=if okT d t∧szT t≤n then (n:Int)-(szT t:Nat) else -1
theorem wlkT_neg (d n:Nat) (t:Tr):wlkT d n t<0↔¬(okT d t∧szT t≤n):=by
 unfold wlkT
 split
 ·rename_i x;exact ⟨fun y=>by have:=x.2;omega,fun y=>absurd x y⟩
 ·rename_i x;exact ⟨fun _=>x,fun _=>by omega⟩
set_option maxRecDepth 20000 in
set_option maxHeartbeats 2000000 in
theorem rwalk_ct:∀t:Tr,∀(h:Heap) (vs:List Value) (d n:Nat),IsE h vs t→n≤300→d≤1000→Fn0 T F.ref04_walk [.agg vs.toArray,.int .i64 d,.int .i64 n] h fun v h'=>v=.int .i64 (wlkT d n t):=by
 refine tree_ind fun t ih=>?_
 intro h vs d n w hn hd
 obtain ⟨op,arg,neg,l,m,name,ks⟩:=t
 obtain ⟨a,b,s,rfl,ho,ha,hv,hb,hk⟩:=w.isK
 have c1:=fun h hv=>rnode_ct h op arg neg a b l m name s ks.length hv hb hk.len
 have f1:n=0→wlkT d n (.mk op arg neg l m name ks)=-1:=fun x=>if_neg fun y=>by
  have:=y.2
  rw [szT] at this;omega
 have f2:d>30→wlkT d n (.mk op arg neg l m name ks)=-1:=fun x=>if_neg fun y=>by
  have:=y.1
  rw [okT] at this;omega
 have f3:¬nodeB op arg neg l m name ks.length→wlkT d n (.mk op arg neg l m name ks)=-1:=fun x=>if_neg fun y=>by
  have:=y.1
  rw [okT] at this;exact x this.2.1
 have f4:∀j c t,ks[j]?=some t→c+1+szTs (ks.take j)=n→wlkT (d+1) c t<0→wlkT d n (.mk op arg neg l m name ks)=-1:=fun j c t ht hc x=>if_neg fun y=>by
  obtain ⟨y1,y2⟩:=y
  rw [okT] at y1
  rw [szT] at y2
  have e:=take_tail ht
  rw [e,szTs_append,szTs] at y2
  have z:=y1.2.2
  rw [e,okTs_append,okTs] at z
  exact (wlkT_neg _ _ _).1 x ⟨z.2.1,by omega⟩
 have f5:d≤30→nodeB op arg neg l m name ks.length→okTs (d+1) ks→∀c,c+1+szTs ks=n→wlkT d n (.mk op arg neg l m name ks)=c:=fun x y z c u=>by
  unfold wlkT
  rw [if_pos (show okT d (.mk op arg neg l m name ks)∧szT (.mk op arg neg l m name ks)≤n from ⟨by rw [okT];exact ⟨x,y,z⟩,by rw [szT];omega⟩),szT];omega
 obtain ⟨R,hR⟩:∃R,R=wlkT d n (.mk op arg neg l m name ks):=⟨_,rfl⟩
 rw [← hR] at f1 f2 f3 f4 f5 ⊢
 have hkl:=hk.len
 refine fn0_of_codeI ok D.ref04_walk rfl ?_
 conv=>whnf
 repeat ((first | refine opsI.step ?_ | refine codeI.step ?_);conv=>whnf)
 repeat' first | ((first | (show CallN _ _ _ _ _ _;(refine CallN.fn rfl (c1 _ (by assumption)) (fun v h' hl2 hr=>?_);subst hr)) | ((first | refine opsI.step ?_ | refine codeI.step ?_)) | intro (_:Nat) | refine WrapN.i64 (by omega) (by omega) ?_ | refine LdN.own 0 rfl rfl ?_) <;> (conv=>whnf)) | (show cnd _ _ _;first | (refine cnd_lt (fun _=>?_) (fun _=>?_) <;> first | (exfalso;omega) | (conv=>whnf)) | (refine cnd_le (fun _=>?_) (fun _=>?_) <;> first | (exfalso;omega) | (conv=>whnf)) | (refine cnd_not ?_) | (refine cnd_dec (fun _=>?_) (fun _=>?_) <;> first | (exfalso;omega) | (conv=>whnf)))
 ·rw [f2 (by omega)];exact RetN.all rfl
 ·rw [f1 (by omega)];exact RetN.all rfl
 ·rename_i be x1 x2 x3
  have hd30:d≤30:=by omega
  have hNBt:nodeB op arg neg l m name ks.length:=by assumption
  replace f5:=f5 hd30 hNBt
  have hks:ks.length≤3:=by
   have h1:=hNBt.1
   have h2:=kidsN_le op
   omega
  clear f1 f2 f3
  have hle0:h.le h':=by assumption
  refine LoopN.of (fun r ρ hx L=>∃(j c:Nat),r=ks.length-j∧h.le hx∧j≤ks.length∧rd ρ 7=.int .i64 j∧rd ρ 2=.int .i64 c∧
      L=[(be,.cells [.int .i64 op,.int .i64 arg,.bool neg,a.val,b.val,.string (txt name),s.val].toArray Ty.api_Expr (0,0))]∧c≤300∧c+1+szTs (ks.take j)=n∧Hq (okTs (d+1) (ks.take j))) ks.length
   ⟨0,n-1,rfl,hle0,Nat.zero_le _,rfl,vi (by omega),rfl,by omega,by rw [List.take_zero,szTs];omega,⟨by rw [List.take_zero,okTs];trivial⟩⟩ ?_
  conv=>whnf
  repeat intro _
  rename_i r hx L2 hI
  obtain ⟨j,c,rfl,hle,hj,e7,e2,rfl,hc3,hc,hq⟩:=hI
  conv at e7=>lhs;whnf
  subst e7
  conv at e2=>lhs;whnf
  subst e2
  by_cases hjl:j=ks.length
  ·subst hjl
   rw [List.take_length] at hc hq
   rw [f5 hq.out c hc]
   conv=>whnf
   repeat ((first | refine opsI.step ?_ | refine codeI.step ?_);conv=>whnf)
   repeat' first | ((first | ((first | refine opsI.step ?_ | refine codeI.step ?_)) | refine Ld.own 0 rfl rfl ?_) <;> (conv=>whnf)) | (refine cnd_lt (fun _=>?_) (fun _=>?_) <;> first | (exfalso;omega) | (conv=>whnf))
   exact RetN.all rfl
  ·obtain ⟨t,ht⟩:∃t,ks[j]?=some t:=⟨_,List.getElem?_eq_getElem (by omega)⟩
   have c2:=fun h vs w=>ih t (szT_kid ht) h vs (d+1) c w hc3 (by omega)
   have f4:=f4 j c t ht hc
   have hc4:¬wlkT (d+1) c t<0→okTs (d+1) (ks.take (j+1))∧∃c':Nat,wlkT (d+1) c t=c'∧c'≤300∧c'+1+szTs (ks.take (j+1))=n:=fun x=>by
    have y:okT (d+1) t∧szT t≤c:=Decidable.not_not.1 fun z=>x ((wlkT_neg _ _ _).2 z)
    rw [take_snoc ht,okTs_append,szTs_append,okTs,szTs,szTs,okTs]
    refine ⟨⟨hq.out,y.1,trivial⟩,c-szT t,?_,by omega,by omega⟩
    unfold wlkT
    rw [if_pos y];omega
   obtain ⟨C,hC⟩:∃C,C=wlkT (d+1) c t:=⟨_,rfl⟩
   rw [← hC] at c2 f4 hc4
   replace hc4:=Hq.mk hc4
   have hkx:=hk.mono hle
   conv=>whnf
   repeat ((first | refine opsI.step ?_ | refine codeI.step ?_);conv=>whnf)
   repeat' first | ((first | (show Idx _ _ _ _ _;refine Idx.kid hkx j t (by omega) ht (fun ad op2 arg2 neg2 a2 b2 name2 s2 hE hld=>?_)) | refine hld _ _ _ (Heap.le_refl _) ?_ | ((first | refine opsI.step ?_ | refine codeI.step ?_)) | (show CallN _ _ _ _ _ _;(refine CallN.fn rfl (c2 _ _ (by assumption)) (fun v h' hl2 hr=>?_);subst hr)) | refine WrapN.i64 (by omega) (by omega) ?_ | refine Ld.own 0 rfl rfl ?_) <;> (conv=>whnf)) | (refine cnd_lt (fun _=>?_) (fun _=>?_) <;> first | (exfalso;omega) | (conv=>whnf))
   ·rw [f4 (by omega)];exact RetN.all rfl
   ·obtain ⟨x1,c',x2,x3,x4⟩:=hc4.out (by omega)
    exact ⟨rfl,ks.length-(j+1),by omega,j+1,c',rfl,(by (iterate 30 (try first | assumption | refine Heap.le_trans ?_ (by assumption)));first | done | assumption),by omega,vi (by omega),vi (by omega),rfl,x3,x4,⟨x1⟩⟩
 ·rw [f3 (by assumption)];exact RetN.all rfl
theorem wlkT_val (t:Tr):0≤wlkT 1 300 t↔ValT t:=by
 have:=wlkT_neg 1 300 t
 unfold ValT
 constructor
 ·intro x
  exact Decidable.not_not.1 fun z=>by have:=this.2 z;omega
 ·intro x
  have:¬wlkT 1 300 t<0:=fun y=>this.1 y x
  omega
set_option maxRecDepth 20000 in
theorem RValid_ct (t:Tr) (h:Heap) (vs:List Value) (w:IsE h vs t):Fn0 T F.ref04_Valid [.agg vs.toArray] h fun v h'=>v=.bool (dec (ValT t)):=by
 have hv:=wlkT_val t
 have c1:=fun h w=>rwalk_ct t h vs 1 300 w (by omega) (by omega)
 obtain ⟨C,hC⟩:∃C,C=wlkT 1 300 t:=⟨_,rfl⟩
 rw [← hC] at c1 hv
 obtain ⟨⟨op,arg,neg,l,m,name,ks⟩,ht⟩:∃u,u=t:=⟨_,rfl⟩
 obtain ⟨a,b,s,hvs,-⟩:=(ht.symm▸w:IsE h vs (.mk op arg neg l m name ks)).isK
 subst hvs
 refine fn0_of_codeI ok D.ref04_Valid rfl ?_
 conv=>whnf
 repeat ((first | refine opsI.step ?_ | refine codeI.step ?_);conv=>whnf)
 repeat' first | ((first | (show CallN _ _ _ _ _ _;(refine CallN.fn rfl (c1 _ (by assumption)) (fun v h' hl2 hr=>?_);subst hr)) | ((first | refine opsI.step ?_ | refine codeI.step ?_)) | intro (_:Nat) | refine LdN.own 0 rfl rfl ?_) <;> (conv=>whnf))
 refine RetN.all ?_
 congr 1
 unfold le
 rw [dec_eq]
 refine decide_eq_decide.2 ?_
 rw [← hv]
end Go.Proofs.YtbgicephinomlaaGreatDoor
/- Equal trees: plain; the reference's Same, the program's equal. -/
namespace Go.Proofs.YtbgicephinomlaaGreatDoor
open Go Go.Vc Go.Dig
mutual
def sameB:Tr→Tr→Bool
 | .mk op arg neg l m name ks,.mk op' arg' neg' l' m' name' ks'=>decide (op=op'∧arg=arg'∧name=name'∧ratOf neg l m=ratOf neg' l' m') && sameBs ks ks'
def sameBs:List Tr→List Tr→Bool
 | [],[]=>true
 | [],_::_=>false
 | _::_,[]=>false
 | t::ts,u::us=>sameB t u && sameBs ts us
end
theorem okTs_get {d:Nat}:∀{ts:List Tr} {j:Nat} {t:Tr},okTs d ts→ts[j]?=some t→okT d t
 | u::ts,0,t,h,e=>by
  rw [okTs] at h
  simp at e;subst e;exact h.1
 | u::ts,j+1,t,h,e=>by
  rw [okTs] at h
  exact okTs_get h.2 (by simpa using e)
 | [],j,t,_,e=>by simp at e
def eqX (t u:Tr):Bool × Int:=if ValT t∧ValT u then (sameB t u,0) else (false,40)
attribute [local irreducible] Vc.Fn
end Go.Proofs.YtbgicephinomlaaGreatDoor
/- Trees with numbers (keys): equal trees have equal keys; copies keep them; nodes replaced. -/
namespace Go.Proofs.YtbgicephinomlaaGreatDoor
open Go Go.Vc Go.Dig
inductive Kt where
 | mk (op arg:Int) (q:Rat) (name:List Nat) (kids:List Kt)
mutual
def key:Tr→Kt
 | .mk op arg neg l m name ks=>.mk op arg (ratOf neg l m) name (keys ks)
def keys:List Tr→List Kt
 | []=>[]
 | t::ts=>key t::keys ts
end

mutual
def rplT (g:Tr→Option Tr):Tr→Tr
 | .mk op arg neg l m name ks=>match g (.mk op arg neg l m name ks) with
  | some u=>u
  | none=>.mk op arg neg l m name (rplTs g ks)
def rplTs (g:Tr→Option Tr):List Tr→List Tr
 | []=>[]
 | t::ts=>rplT g t::rplTs g ts
end
mutual
def okG:Tr→Prop
 | .mk op arg neg l m name ks=>nodeB op arg neg l m name ks.length∧okGs ks
def okGs:List Tr→Prop
 | []=>True
 | t::ts=>okG t∧okGs ts
end
end Go.Proofs.YtbgicephinomlaaGreatDoor