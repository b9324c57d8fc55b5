/- The reference's side of valid trees: kinds, arguments, nodes. -/
import Derived.Test.YtbgicephinomlaaGreatDoorE29
import Derived.Test.YtbgicephinomlaaGreatDoorL4
import Derived.Test.YtbgicephinomlaaGreatDoorE19
set_option linter.unusedVariables false
set_option linter.unusedSimpArgs false
set_option maxHeartbeats 2000000
set_option maxRecDepth 20000
namespace Go.Proofs.YtbgicephinomlaaGreatDoor
open Go Go.Vc Go.Dig
theorem le_dec {lo x hi:Int} (h:lo≤x):le x hi=dec (lo≤x∧x≤hi):=by
 unfold le
 rw [dec_eq]
 exact decide_eq_decide.2 ⟨fun y=>⟨h,y⟩,fun y=>y.2⟩
theorem seq_nil (l:List Nat) (hb:∀y∈l,y<256):seq (txt l) ⟨#[]⟩=dec (l=[]):=by
 by_cases h:l=[]
 ·subst h
  rw [dec_true rfl]
  unfold seq
  exact beq_self_eq_true _
 ·rw [dec_false h]
  exact seq_ne fun x=>h (txt_inj hb (fun y hy=>by cases hy) x)
theorem eq_dec {x y:Int}:eq x y=dec (x=y):=by
 unfold eq
 rw [dec_eq]
theorem rkids_ct (h:Heap) (op:Int):Fn0 T F.ref04_kids [.int .i64 op] h fun v h'=>h'=h∧v=.int .i64 (kidsN op):=by
 have k0:op=1∨op=2∨op=3→kidsN op=0:=fun x=>if_pos x
 have k1:op=4∨op=9∨op=10∨op=11∨op=12→kidsN op=1:=fun x=>by unfold kidsN;rw [if_neg (by omega),if_pos x]
 have k2:op=5∨op=6∨op=7∨op=8∨op=13∨op=14→kidsN op=2:=fun x=>by unfold kidsN;rw [if_neg (by omega),if_neg (by omega),if_pos x]
 have k3:op=15→kidsN op=3:=fun x=>by unfold kidsN;rw [if_neg (by omega),if_neg (by omega),if_neg (by omega),if_pos x]
 have k4:¬(op=1∨op=2∨op=3)→¬(op=4∨op=9∨op=10∨op=11∨op=12)→¬(op=5∨op=6∨op=7∨op=8∨op=13∨op=14)→op≠15→kidsN op=-1:=fun a b c d=>by unfold kidsN;rw [if_neg a,if_neg b,if_neg c,if_neg d]
 obtain ⟨K,hK⟩:∃K,K=kidsN op:=⟨_,rfl⟩
 rw [← hK] at k0 k1 k2 k3 k4 ⊢
 replace k0:=Hq.mk k0
 replace k1:=Hq.mk k1
 replace k2:=Hq.mk k2
 replace k3:=Hq.mk k3
 replace k4:=Hq.mk k4
 refine f0C ok D.ref04_kids rfl ?_
 conv=>whnf
 repeat ((first|refine oI.z ?_|refine cI.z ?_);conv=>whnf)
 repeat' first|((first|(show SeqN _ _ _ _ _ _ _;refine SeqN.go ?_)|((first|refine oI.z ?_|refine cI.z ?_))) <;> (conv=>whnf))|(refine cnd_eq (fun _=>?_) (fun _=>?_) <;> first|(exfalso;omega)|(conv=>whnf))
 all_goals first
  | exact RN.a ⟨rfl,by rw [k0.out (by omega)]⟩
  | exact RN.a ⟨rfl,by rw [k1.out (by omega)]⟩
  | exact RN.a ⟨rfl,by rw [k2.out (by omega)]⟩
  | exact RN.a ⟨rfl,by rw [k3.out (by omega)]⟩
  | exact RN.a ⟨rfl,by rw [k4.out (by omega) (by omega) (by omega) (by omega)]⟩
theorem rarg_ct (h:Heap) (op arg:Int) (neg:Bool) (a b s:Sl) (name:ByteArray):
  Fn0 T F.ref04_argument [.agg #[.int .i64 op,.int .i64 arg,.bool neg,a.val,b.val,.string name,s.val]] h fun v h'=>v=.bool (dec (lowA op≤arg∧arg≤highA op)):=by
 obtain ⟨R,hR⟩:∃R,R=dec (lowA op≤arg∧arg≤highA op):=⟨_,rfl⟩
 have l9:op=9→R=(dec (-32≤arg∧arg≤32)):=fun x=>by rw [hR,x];exact dec_congr Iff.rfl
 have l10:op=10→R=(dec (2≤arg∧arg≤8)):=fun x=>by rw [hR,x];exact dec_congr Iff.rfl
 have l11:op=11→R=(dec (1≤arg∧arg≤8)):=fun x=>by rw [hR,x];exact dec_congr Iff.rfl
 have l0:op≠9→op≠10→op≠11→R=dec (arg=0):=fun x y z=>by
  rw [hR,lowA,highA,if_neg x,if_neg y,if_neg z,if_neg x,if_neg y,if_neg z];exact dec_congr ⟨fun u=>by omega,fun u=>by omega⟩
 rw [← hR]
 clear hR
 replace l9:=Hq.mk l9
 replace l10:=Hq.mk l10
 replace l11:=Hq.mk l11
 replace l0:=Hq.mk l0
 refine f0C ok D.ref04_argument rfl ?_
 conv=>whnf
 repeat ((first|refine oI.z ?_|refine cI.z ?_);conv=>whnf)
 repeat' first|((first|((first|refine oI.z ?_|refine cI.z ?_))|intro (_:Nat)|refine Ld.o 0 rfl rfl ?_) <;> (conv=>whnf))|(show cnd _ _ _;first|(refine cnd_le (fun _=>?_) (fun _=>?_) <;> first|(exfalso;omega)|(conv=>whnf))|(refine cnd_eq (fun _=>?_) (fun _=>?_) <;> first|(exfalso;omega)|(conv=>whnf)))
 all_goals first
  | (refine RN.a ?_;rw [l9.out (by omega)];first|exact congrArg Value.bool (le_dec (by omega))|(rw [dec_false (fun u=>by omega)];done))
  | (refine RN.a ?_;rw [l10.out (by omega)];first|exact congrArg Value.bool (le_dec (by omega))|(rw [dec_false (fun u=>by omega)];done))
  | (refine RN.a ?_;rw [l11.out (by omega)];first|exact congrArg Value.bool (le_dec (by omega))|(rw [dec_false (fun u=>by omega)];done))
  | (refine RN.a ?_;rw [l0.out (by omega) (by omega) (by omega)];exact congrArg Value.bool eq_dec)
theorem rZero_ct (h:Heap) (neg:Bool) (a b:Sl) (l m:List Nat) (hv:IsVal h a b l m):Fn0 T F.ref01_Zero [.agg #[.bool neg,a.val,b.val]] h fun v h'=>v=.bool (dec (evl 4294967296 l=0)):=by
 have i1:=hv.num
 have l1:=hv.ln
 have l3:=hv.sn
 obtain ⟨x,hx⟩:∃x,x=evl 4294967296 l:=⟨_,rfl⟩
 have hz:=ln_eq_zero (b:=65536) (n:=x) (by omega)
 rw [← hx]
 refine f0C ok D.ref01_Zero rfl ?_
 conv=>whnf
 repeat ((first|refine oI.z ?_|refine cI.z ?_);conv=>whnf)
 repeat' first|((first|(show CN _ _ _ _ _ _;(refine CN.f rfl (words_ct _ _ l (by assumption) l1 (by omega)) (fun v h' hl hr=>?_);rw [← hx] at hr;obtain ⟨s',rfl,hs'⟩:=hr;have hxl:=hs'.len))|((first|refine oI.z ?_|refine cI.z ?_))|intro (_:Nat)|refine Ld.o 0 rfl rfl ?_) <;> (conv=>whnf))
 refine RN.a ?_
 congr 1
 unfold eq
 rw [dec_eq]
 refine decide_eq_decide.2 ?_
 rw [← hz,hxl];omega
theorem rnode_ct (h:Heap) (op arg:Int) (neg:Bool) (a b:Sl) (l m name:List Nat) (s:Sl) (n:Nat) (hv:IsVal h a b l m) (hb:∀y∈name,y<256) (hs:s.l=n):
  Fn0 T F.ref04_node [.agg #[.int .i64 op,.int .i64 arg,.bool neg,a.val,b.val,.string (txt name),s.val]] h fun v h'=>v=.bool (dec (nodeB op arg neg l m name n)):=by
 obtain ⟨DD,hD⟩:∃DD,DD=dec (nodeB op arg neg l m name n):=⟨_,rfl⟩
 obtain ⟨KN,hK⟩:∃K,K=kidsN op:=⟨_,rfl⟩
 obtain ⟨LO,hL⟩:∃K,K=lowA op:=⟨_,rfl⟩
 obtain ⟨HI,hH⟩:∃K,K=highA op:=⟨_,rfl⟩
 have n1:(n:Int)≠KN→DD=false:=fun x=>by rw [hD];exact dec_false fun y=>x (by rw [hK];exact y.1)
 have n2:¬(LO≤arg∧arg≤HI)→DD=false:=fun x=>by rw [hD];exact dec_false fun y=>x (by rw [hL,hH];exact ⟨y.2.1,y.2.2.1⟩)
 have ar:LO≤arg∧arg≤HI→lowA op≤arg∧arg≤highA op:=fun x=>by rw [hL,hH] at x;exact x
 have p1:(n:Int)=KN→LO≤arg∧arg≤HI→op=1→DD=dec (okR neg l m∧0≤ratOf neg l m∧name=[]):=fun x y z=>by
  rw [hD];refine dec_congr ⟨fun q=>?_,fun q=>⟨by omega,(ar y).1,(ar y).2,?_,?_⟩⟩
  ·have q1:=q.2.2.2.1
   have q2:=q.2.2.2.2
   rw [if_neg (by omega)] at q1
   rw [if_pos z] at q2
   exact ⟨q2.1,q2.2,q1⟩
  ·rw [if_neg (by omega)];exact q.2.2
  ·rw [if_pos z];exact ⟨q.1,q.2.1⟩
 have p2:(n:Int)=KN→LO≤arg∧arg≤HI→op≠1→¬evl 4294967296 l=0→DD=false:=fun x y z u=>by
  rw [hD];exact dec_false fun q=>u (by have:=q.2.2.2.2;rw [if_neg z] at this;exact this)
 have p3:(n:Int)=KN→LO≤arg∧arg≤HI→op=2→evl 4294967296 l=0→DD=dec (IsNm name):=fun x y z u=>by
  rw [hD];refine dec_congr ⟨fun q=>?_,fun q=>⟨by omega,(ar y).1,(ar y).2,?_,?_⟩⟩
  ·have:=q.2.2.2.1;rw [if_pos z] at this;exact this
  ·rw [if_pos z];exact q
  ·rw [if_neg (by omega)];exact u
 have p4:(n:Int)=KN→LO≤arg∧arg≤HI→op≠1→op≠2→evl 4294967296 l=0→DD=dec (name=[]):=fun x y z t u=>by
  rw [hD];refine dec_congr ⟨fun q=>?_,fun q=>⟨by omega,(ar y).1,(ar y).2,?_,?_⟩⟩
  ·have:=q.2.2.2.1;rw [if_neg t] at this;exact this
  ·rw [if_neg t];exact q
  ·rw [if_neg z];exact u
 have c0:=fun h=>rkids_ct h op
 have c1:=fun h=>rarg_ct h op arg neg a b s (txt name)
 rw [← hK] at c0
 rw [← hL,← hH] at c1
 rw [← hD]
 clear hD hK hL hH ar
 have lsg:=le_sign (ratOf neg l m)
 have hsz:=(ratOf_sr (neg:=neg) hv).mono (show 2147483649≤1099511627776 by decide)
 have c2:=fun h hv=>Large_ct h neg a b l m hv
 have c3:=fun h hv=>QOf_ct h neg a b l m hv
 have c4:=fun h hv=>rZero_ct h neg a b l m hv
 have c5:=fun h=>RIsName_any h name hb
 obtain ⟨q,hq⟩:∃q,q=ratOf neg l m:=⟨_,rfl⟩
 obtain ⟨OK,hOK⟩:∃q,q=okR neg l m:=⟨_,rfl⟩
 obtain ⟨Z,hZ⟩:∃q,q=(evl 4294967296 l=0):=⟨_,rfl⟩
 rw [← hq] at p1 lsg hsz c3
 have sg1:0≤signQ q↔0≤q:=by
  have x:=lsg
  unfold le at x
  rw [dec_eq] at x
  exact decide_eq_decide.1 x
 replace sg1:=Hq.mk sg1
 replace n1:=Hq.mk n1
 replace n2:=Hq.mk n2
 replace p1:=Hq.mk p1
 replace p2:=Hq.mk p2
 replace p3:=Hq.mk p3
 replace p4:=Hq.mk p4
 refine f0C ok D.ref04_node rfl ?_
 conv=>whnf
 repeat ((first|refine oI.z ?_|refine cI.z ?_);conv=>whnf)
 repeat' first|((first|(show DrN _ _ _ _ _ _;refine DrN.each (by decide +kernel) ?_)|(show CN _ _ _ _ _ _;first|refine CN.quiet rfl (c0 _) ?_|(refine CN.f rfl (c1 _) (fun v h' hl2 hr=>?_);subst hr)|(refine CN.f rfl (c2 _ (by (iterate 30 try first|assumption|refine IsVal.mono ?_ (by assumption));first|done|assumption)) (fun v h' hl2 hr=>?_);subst hr)|(refine CN.f rfl (c3 _ (by (iterate 30 try first|assumption|refine IsVal.mono ?_ (by assumption));first|done|assumption)) (fun v h' hl2 hr=>?_);obtain ⟨a',b',rfl,hq'⟩:=hr)|refine CN.quiet rfl (Sgn_q _ _ _ q (by assumption) hsz) ?_|(refine CN.f rfl (c4 _ (by (iterate 30 try first|assumption|refine IsVal.mono ?_ (by assumption));first|done|assumption)) (fun v h' hl2 hr=>?_);subst hr)|(refine CN.f rfl (c5 _) (fun v h' hl2 hr=>?_);subst hr))|(show LdN _ _ _ _ _;(first|refine LdN.o 0 rfl rfl ?_|refine LdN.oA 0 rfl rfl ?_))|((first|refine oI.z ?_|refine cI.z ?_))|refine ⟨fun _=>HasLe.o (Heap.lr _),?_⟩|refine ⟨fun _=>HasLe.o (by assumption),?_⟩|intro (_:Nat)|refine Ld.o 0 rfl rfl ?_) <;> (conv=>whnf))|(show cnd _ _ _;first|(refine cnd_le (fun _=>?_) (fun _=>?_) <;> first|(exfalso;omega)|(conv=>whnf))|(refine cnd_eq (fun _=>?_) (fun _=>?_) <;> first|(exfalso;omega)|(conv=>whnf))|(refine cnd_not ?_)|(refine cnd_dec (fun _=>?_) (fun _=>?_) <;> first|(exfalso;omega)|(conv=>whnf)))|(refine Both.mk ?_ ?_ <;> (conv=>whnf))
 all_goals first
  | (rw [n1.out (by omega)];exact RN.a rfl)
  | (rw [n2.out (by assumption)];exact RN.a rfl)
  | (rw [p2.out (by omega) (by assumption) (by omega) (by assumption)];exact RN.a rfl)
  | (rw [p3.out (by omega) (by assumption) (by omega) (by assumption)];exact RN.a rfl)
  | (rw [p4.out (by omega) (by assumption) (by omega) (by omega) (by assumption)];exact RN.a (congrArg Value.bool (seq_nil name hb)))
  | (rw [p1.out (by omega) (by assumption) (by omega),dec_false (fun u=>absurd u.1 (by assumption))];exact RN.a rfl)
  | (rw [p1.out (by omega) (by assumption) (by omega),dec_false (fun u=>by have:=sg1.out.2 u.2.1;omega)];exact RN.a rfl)
  | (rw [p1.out (by omega) (by assumption) (by omega),dec_congr (q:=name=[]) (Iff.intro (fun u=>u.2.2) (fun u=>And.intro (by assumption) (And.intro (sg1.out.1 (by omega)) u)))];exact RN.a (congrArg Value.bool (seq_nil name hb)))
  | skip
end Go.Proofs.YtbgicephinomlaaGreatDoor
/- The reference's walk over a tree, and Valid. -/
namespace Go.Proofs.YtbgicephinomlaaGreatDoor
open Go Go.Vc Go.Dig
def wlkT (d n:Nat) (t:Tr):Int:=if okT d t∧szT t≤n then (n:Int)-(szT t:Nat) else -1
theorem wlkT_neg (d n:Nat) (t:Tr):wlkT d n t<0↔¬(okT d t∧szT t≤n):=by
 unfold wlkT
 split
 ·rename_i x;exact ⟨fun y=>by have:=x.2;omega,fun y=>absurd x y⟩
 ·rename_i x;exact ⟨fun _=>x,fun _=>by omega⟩
theorem rwalk_ct:∀t:Tr,∀(h:Heap) (vs:List Value) (d n:Nat),IsE h vs t→n≤300→d≤1000→Fn0 T F.ref04_walk [.agg vs.toArray,.int .i64 d,.int .i64 n] h fun v h'=>v=.int .i64 (wlkT d n t):=by
 refine tree_ind fun t ih=>?_
 intro h vs d n w hn hd
 obtain ⟨op,arg,neg,l,m,name,ks⟩:=t
 obtain ⟨a,b,s,rfl,ho,ha,hv,hb,hk⟩:=w.isK
 have c1:=fun h hv=>rnode_ct h op arg neg a b l m name s ks.length hv hb hk.len
 have f1:n=0→wlkT d n (.mk op arg neg l m name ks)=-1:=fun x=>if_neg fun y=>by
  have:=y.2
  rw [szT] at this;omega
 have f2:d>30→wlkT d n (.mk op arg neg l m name ks)=-1:=fun x=>if_neg fun y=>by
  have:=y.1
  rw [okT] at this;omega
 have f3:¬nodeB op arg neg l m name ks.length→wlkT d n (.mk op arg neg l m name ks)=-1:=fun x=>if_neg fun y=>by
  have:=y.1
  rw [okT] at this;exact x this.2.1
 have f4:∀j c t,ks[j]?=some t→c+1+szTs (ks.take j)=n→wlkT (d+1) c t<0→wlkT d n (.mk op arg neg l m name ks)=-1:=fun j c t ht hc x=>if_neg fun y=>by
  obtain ⟨y1,y2⟩:=y
  rw [okT] at y1
  rw [szT] at y2
  have e:=take_tail ht
  rw [e,szTs_append,szTs] at y2
  have z:=y1.2.2
  rw [e,okTs_append,okTs] at z
  exact (wlkT_neg _ _ _).1 x ⟨z.2.1,by omega⟩
 have f5:d≤30→nodeB op arg neg l m name ks.length→okTs (d+1) ks→∀c,c+1+szTs ks=n→wlkT d n (.mk op arg neg l m name ks)=c:=fun x y z c u=>by
  unfold wlkT
  rw [if_pos (show okT d (.mk op arg neg l m name ks)∧szT (.mk op arg neg l m name ks)≤n from ⟨by rw [okT];exact ⟨x,y,z⟩,by rw [szT];omega⟩),szT];omega
 obtain ⟨R,hR⟩:∃R,R=wlkT d n (.mk op arg neg l m name ks):=⟨_,rfl⟩
 rw [← hR] at f1 f2 f3 f4 f5 ⊢
 have hkl:=hk.len
 refine f0C ok D.ref04_walk rfl ?_
 conv=>whnf
 repeat ((first|refine oI.z ?_|refine cI.z ?_);conv=>whnf)
 repeat' first|((first|(show CN _ _ _ _ _ _;(refine CN.f rfl (c1 _ (by assumption)) (fun v h' hl2 hr=>?_);subst hr))|((first|refine oI.z ?_|refine cI.z ?_))|intro (_:Nat)|refine WN.i64 (by omega) (by omega) ?_|refine LdN.o 0 rfl rfl ?_) <;> (conv=>whnf))|(show cnd _ _ _;first|(refine cnd_lt (fun _=>?_) (fun _=>?_) <;> first|(exfalso;omega)|(conv=>whnf))|(refine cnd_le (fun _=>?_) (fun _=>?_) <;> first|(exfalso;omega)|(conv=>whnf))|(refine cnd_not ?_)|(refine cnd_dec (fun _=>?_) (fun _=>?_) <;> first|(exfalso;omega)|(conv=>whnf)))
 ·rw [f2 (by omega)];exact RN.a rfl
 ·rw [f1 (by omega)];exact RN.a rfl
 ·rename_i be x1 x2 x3
  have hd30:d≤30:=by omega
  have hNBt:nodeB op arg neg l m name ks.length:=by assumption
  replace f5:=f5 hd30 hNBt
  have hks:ks.length≤3:=by
   have h1:=hNBt.1
   have h2:=kidsN_le op
   omega
  clear f1 f2 f3
  have hle0:h.le h':=by assumption
  refine LpN.of (fun r ρ hx L=>∃(j c:Nat),r=ks.length-j∧h.le hx∧j≤ks.length∧rd ρ 7=.int .i64 j∧rd ρ 2=.int .i64 c∧
      L=[(be,.cells [.int .i64 op,.int .i64 arg,.bool neg,a.val,b.val,.string (txt name),s.val].toArray Ty.api_Expr (0,0))]∧c≤300∧c+1+szTs (ks.take j)=n∧Hq (okTs (d+1) (ks.take j))) ks.length
   ⟨0,n-1,rfl,hle0,Nat.zero_le _,rfl,vi (by omega),rfl,by omega,by rw [List.take_zero,szTs];omega,⟨by rw [List.take_zero,okTs];trivial⟩⟩ ?_
  conv=>whnf
  repeat intro _
  rename_i r hx L2 hI
  obtain ⟨j,c,rfl,hle,hj,e7,e2,rfl,hc3,hc,hq⟩:=hI
  conv at e7=>lhs;whnf
  subst e7
  conv at e2=>lhs;whnf
  subst e2
  by_cases hjl:j=ks.length
  ·subst hjl
   rw [List.take_length] at hc hq
   rw [f5 hq.out c hc]
   conv=>whnf
   repeat ((first|refine oI.z ?_|refine cI.z ?_);conv=>whnf)
   repeat' first|((first|((first|refine oI.z ?_|refine cI.z ?_))|refine Ld.o 0 rfl rfl ?_) <;> (conv=>whnf))|(refine cnd_lt (fun _=>?_) (fun _=>?_) <;> first|(exfalso;omega)|(conv=>whnf))
   exact RN.a rfl
  ·obtain ⟨t,ht⟩:∃t,ks[j]?=some t:=⟨_,List.getElem?_eq_getElem (by omega)⟩
   have c2:=fun h vs w=>ih t (szT_kid ht) h vs (d+1) c w hc3 (by omega)
   have f4:=f4 j c t ht hc
   have hc4:¬wlkT (d+1) c t<0→okTs (d+1) (ks.take (j+1))∧∃c':Nat,wlkT (d+1) c t=c'∧c'≤300∧c'+1+szTs (ks.take (j+1))=n:=fun x=>by
    have y:okT (d+1) t∧szT t≤c:=Decidable.not_not.1 fun z=>x ((wlkT_neg _ _ _).2 z)
    rw [take_snoc ht,okTs_append,szTs_append,okTs,szTs,szTs,okTs]
    refine ⟨⟨hq.out,y.1,trivial⟩,c-szT t,?_,by omega,by omega⟩
    unfold wlkT
    rw [if_pos y];omega
   obtain ⟨C,hC⟩:∃C,C=wlkT (d+1) c t:=⟨_,rfl⟩
   rw [← hC] at c2 f4 hc4
   replace hc4:=Hq.mk hc4
   have hkx:=hk.mono hle
   conv=>whnf
   repeat ((first|refine oI.z ?_|refine cI.z ?_);conv=>whnf)
   repeat' first|((first|(show Idx _ _ _ _ _;refine Idx.kid hkx j t (by omega) ht (fun ad op2 arg2 neg2 a2 b2 name2 s2 hE hld=>?_))|refine hld _ _ _ (Heap.lr _) ?_|((first|refine oI.z ?_|refine cI.z ?_))|(show CN _ _ _ _ _ _;(refine CN.f rfl (c2 _ _ (by assumption)) (fun v h' hl2 hr=>?_);subst hr))|refine WN.i64 (by omega) (by omega) ?_|refine Ld.o 0 rfl rfl ?_) <;> (conv=>whnf))|(refine cnd_lt (fun _=>?_) (fun _=>?_) <;> first|(exfalso;omega)|(conv=>whnf))
   ·rw [f4 (by omega)];exact RN.a rfl
   ·obtain ⟨x1,c',x2,x3,x4⟩:=hc4.out (by omega)
    exact ⟨rfl,ks.length-(j+1),by omega,j+1,c',rfl,(by (iterate 30 try first|assumption|refine Heap.lt ?_ (by assumption));first|done|assumption),by omega,vi (by omega),vi (by omega),rfl,x3,x4,⟨x1⟩⟩
 ·rw [f3 (by assumption)];exact RN.a rfl
theorem wlkT_val (t:Tr):0≤wlkT 1 300 t↔ValT t:=by
 have:=wlkT_neg 1 300 t
 unfold ValT
 constructor
 ·intro x
  exact Decidable.not_not.1 fun z=>by have:=this.2 z;omega
 ·intro x
  have:¬wlkT 1 300 t<0:=fun y=>this.1 y x
  omega
theorem RValid_ct (t:Tr) (h:Heap) (vs:List Value) (w:IsE h vs t):Fn0 T F.ref04_Valid [.agg vs.toArray] h fun v h'=>v=.bool (dec (ValT t)):=by
 have hv:=wlkT_val t
 have c1:=fun h w=>rwalk_ct t h vs 1 300 w (by omega) (by omega)
 obtain ⟨C,hC⟩:∃C,C=wlkT 1 300 t:=⟨_,rfl⟩
 rw [← hC] at c1 hv
 obtain ⟨⟨op,arg,neg,l,m,name,ks⟩,ht⟩:∃u,u=t:=⟨_,rfl⟩
 obtain ⟨a,b,s,hvs,-⟩:=(ht.symm▸w:IsE h vs (.mk op arg neg l m name ks)).isK
 subst hvs
 refine f0C ok D.ref04_Valid rfl ?_
 conv=>whnf
 repeat ((first|refine oI.z ?_|refine cI.z ?_);conv=>whnf)
 repeat' first|((first|(show CN _ _ _ _ _ _;(refine CN.f rfl (c1 _ (by assumption)) (fun v h' hl2 hr=>?_);subst hr))|((first|refine oI.z ?_|refine cI.z ?_))|intro (_:Nat)|refine LdN.o 0 rfl rfl ?_) <;> (conv=>whnf))
 refine RN.a ?_
 congr 1
 unfold le
 rw [dec_eq]
 refine decide_eq_decide.2 ?_
 rw [← hv]
end Go.Proofs.YtbgicephinomlaaGreatDoor
/- Equal trees: plain; the reference's Same, the program's equal. -/
namespace Go.Proofs.YtbgicephinomlaaGreatDoor
open Go Go.Vc Go.Dig
mutual
def sameB:Tr→Tr→Bool
 | .mk op arg neg l m name ks,.mk op' arg' neg' l' m' name' ks'=>decide (op=op'∧arg=arg'∧name=name'∧ratOf neg l m=ratOf neg' l' m') && sameBs ks ks'
def sameBs:List Tr→List Tr→Bool
 | [],[]=>true
 | [],_::_=>false
 | _::_,[]=>false
 | t::ts,u::us=>sameB t u && sameBs ts us
end
theorem sameBs_len:∀{a b:List Tr},sameBs a b=true→a.length=b.length
 | [],[],_=>rfl
 | [],_::_,h=>by rw [sameBs] at h;cases h
 | _::_,[],h=>by rw [sameBs] at h;cases h
 | t::ts,u::us,h=>by
  rw [sameBs,Bool.and_eq_true] at h
  rw [List.length_cons,List.length_cons,sameBs_len h.2]
theorem sameBs_not:∀{a b:List Tr} {j:Nat} {t u:Tr},a[j]?=some t→b[j]?=some u→sameB t u=false→sameBs a b=false
 | [],_,_,_,_,h,_,_=>by simp at h
 | _::_,[],_,_,_,_,h,_=>by simp at h
 | x::xs,y::ys,0,t,u,h1,h2,h=>by
  simp at h1 h2
  subst h1 h2
  rw [sameBs,h,Bool.false_and]
 | x::xs,y::ys,j+1,t,u,h1,h2,h=>by
  rw [sameBs,sameBs_not (a:=xs) (b:=ys) (j:=j) (by simpa using h1) (by simpa using h2) h,Bool.and_false]
theorem sameBs_all:∀{a b:List Tr},a.length=b.length→(∀(j:Nat) t u,a[j]?=some t→b[j]?=some u→sameB t u=true)→sameBs a b=true
 | [],[],_,_=>by rw [sameBs]
 | [],_::_,h,_=>by simp at h
 | _::_,[],h,_=>by simp at h
 | t::ts,u::us,h,g=>by
  rw [sameBs,g 0 t u rfl rfl,Bool.true_and]
  exact sameBs_all (by simpa using h) fun j t u h1 h2=>g (j+1) t u (by simpa using h1) (by simpa using h2)
theorem ratOf_nil {neg:Bool} {l m:List Nat} (h:evl 4294967296 l=0):ratOf neg l m=0:=by
 unfold ratOf
 rw [h,mkQ_zero]
theorem node_sz {op arg:Int} {neg:Bool} {l m name:List Nat} {n:Nat} (h:nodeB op arg neg l m name n):Sz 64 (ratOf neg l m):=by
 have h4:=h.2.2.2.2
 by_cases ho:op=1
 ·rw [if_pos ho] at h4;exact okR.sz h4.1
 ·rw [if_neg ho] at h4
  rw [ratOf_nil h4];exact sz_zero 63
theorem okTs_get {d:Nat}:∀{ts:List Tr} {j:Nat} {t:Tr},okTs d ts→ts[j]?=some t→okT d t
 | u::ts,0,t,h,e=>by
  rw [okTs] at h
  simp at e;subst e;exact h.1
 | u::ts,j+1,t,h,e=>by
  rw [okTs] at h
  exact okTs_get h.2 (by simpa using e)
 | [],j,t,_,e=>by simp at e
theorem RSame_ct (h:Heap) (n1:Bool) (a1 b1:Sl) (l1 m1:List Nat) (n2:Bool) (a2 b2:Sl) (l2 m2:List Nat) (hv1:IsVal h a1 b1 l1 m1) (hv2:IsVal h a2 b2 l2 m2) (z1:Sz 64 (ratOf n1 l1 m1)) (z2:Sz 64 (ratOf n2 l2 m2)):
  Fn0 T F.ref01_Same [.agg #[.bool n1,a1.val,b1.val],.agg #[.bool n2,a2.val,b2.val]] h fun v h'=>v=.bool (dec (ratOf n1 l1 m1=ratOf n2 l2 m2)):=by
 have c1:=fun h hv1=>QOf_ct h n1 a1 b1 l1 m1 hv1
 have c2:=fun h hv2=>QOf_ct h n2 a2 b2 l2 m2 hv2
 obtain ⟨q,hq⟩:∃q,q=ratOf n1 l1 m1:=⟨_,rfl⟩
 obtain ⟨r,hr⟩:∃r,r=ratOf n2 l2 m2:=⟨_,rfl⟩
 rw [← hq] at c1 z1 ⊢
 rw [← hr] at c2 z2 ⊢
 have y1:Sr 65536 q:=(Sr.of z1).mono (by decide)
 have y2:Sr 65536 r:=(Sr.of z2).mono (by decide)
 have e:=cmpQ_eq (q:=q) (r:=r)
 refine f0C ok D.ref01_Same rfl ?_
 conv=>whnf
 repeat ((first|refine oI.z ?_|refine cI.z ?_);conv=>whnf)
 repeat' first|((first|(show DrN _ _ _ _ _ _;refine DrN.each (by decide +kernel) ?_)|(show CN _ _ _ _ _ _;first|(refine CN.f rfl (c1 _ (by assumption)) (fun v h' hl hr=>?_);obtain ⟨x1,x2,rfl,g1⟩:=hr)|(refine CN.f rfl (c2 _ (by (iterate 30 try first|assumption|refine IsVal.mono ?_ (by assumption));first|done|assumption)) (fun v h' hl hr=>?_);obtain ⟨x3,x4,rfl,g2⟩:=hr)|(refine CN.f rfl (RCmp_ct _ _ _ _ _ q r (by (iterate 30 try first|assumption|refine IsQ.mono ?_ (by assumption));first|done|assumption) (by assumption) y1 y2) (fun v h' hl hr=>?_);subst hr))|((first|refine oI.z ?_|refine cI.z ?_))|refine ⟨fun _=>HasLe.o (Heap.lr _),?_⟩|refine ⟨fun _=>HasLe.o (by assumption),?_⟩|intro (_:Nat)|(show LdN _ _ _ _ _;first|refine LdN.o 0 rfl rfl ?_|refine LdN.o 1 rfl rfl ?_)) <;> (conv=>whnf))|(refine Both.mk ?_ ?_ <;> (conv=>whnf))
 all_goals exact RN.a (by congr 1;unfold eq;rw [dec_eq];exact decide_eq_decide.2 e)
theorem Same_ct:∀t:Tr,∀(u:Tr) (h:Heap) (vs us:List Value) (d d':Nat),IsE h vs t→IsE h us u→okT d t→okT d' u→Fn0 T F.ref04_Same [.agg vs.toArray,.agg us.toArray] h fun v h'=>v=.bool (sameB t u):=by
 refine tree_ind fun t ih=>?_
 intro u h vs us d d' w w' ht hu
 obtain ⟨op,arg,neg,l,m,name,ks⟩:=t
 obtain ⟨op1,arg1,neg1,l1,m1,name1,ks1⟩:=u
 obtain ⟨a,b,s,rfl,ho,ha,hv,hb,hk⟩:=w.isK
 obtain ⟨a1,b1,s1,rfl,ho1,ha1,hv1,hb1,hk1⟩:=w'.isK
 rw [okT] at ht hu
 obtain ⟨-,hn,hoks⟩:=ht
 obtain ⟨-,hn1,hoks1⟩:=hu
 have c1:=fun h hv hv1=>RSame_ct h neg a b l m neg1 a1 b1 l1 m1 hv hv1 (node_sz hn) (node_sz hn1)
 have hks:ks.length≤3:=by
  have h1:=hn.1
  have h2:=kidsN_le op
  omega
 have hkl:=hk.len
 have hkl1:=hk1.len
 have f0:¬(op=op1∧arg=arg1∧name=name1∧ratOf neg l m=ratOf neg1 l1 m1)→sameB (.mk op arg neg l m name ks) (.mk op1 arg1 neg1 l1 m1 name1 ks1)=false:=fun x=>by rw [sameB,decide_eq_false x,Bool.false_and]
 have g1:=fun (x:¬op=op1)=>f0 fun y=>x y.1
 have g2:=fun (x:¬arg=arg1)=>f0 fun y=>x y.2.1
 have g3:=fun (x:¬name=name1)=>f0 fun y=>x y.2.2.1
 have g4:=fun (x:¬ratOf neg l m=ratOf neg1 l1 m1)=>f0 fun y=>x y.2.2.2
 have f2:¬ks.length=ks1.length→sameB (.mk op arg neg l m name ks) (.mk op1 arg1 neg1 l1 m1 name1 ks1)=false:=fun x=>by
  rw [sameB,Bool.and_eq_false_iff];right
  cases e:sameBs ks ks1 with
  | false=>rfl
  | true=>exact absurd (sameBs_len e) x
 have f3:∀(j:Nat) t u,ks[j]?=some t→ks1[j]?=some u→sameB t u=false→sameB (.mk op arg neg l m name ks) (.mk op1 arg1 neg1 l1 m1 name1 ks1)=false:=fun j t u a b c=>by rw [sameB,sameBs_not a b c,Bool.and_false]
 have f4:op=op1→arg=arg1→name=name1→ratOf neg l m=ratOf neg1 l1 m1→ks.length=ks1.length→(∀(j:Nat) t u,ks[j]?=some t→ks1[j]?=some u→sameB t u=true)→sameB (.mk op arg neg l m name ks) (.mk op1 arg1 neg1 l1 m1 name1 ks1)=true:=fun a b c d e f=>by
  rw [sameB,decide_eq_true ⟨a,b,c,d⟩,sameBs_all e f];rfl
 obtain ⟨R,hR⟩:∃R,R=sameB (.mk op arg neg l m name ks) (.mk op1 arg1 neg1 l1 m1 name1 ks1):=⟨_,rfl⟩
 rw [← hR] at g1 g2 g3 g4 f2 f3 f4 ⊢
 clear f0 hR
 obtain ⟨q,hq⟩:∃q,q=ratOf neg l m:=⟨_,rfl⟩
 obtain ⟨q1,hq1⟩:∃q,q=ratOf neg1 l1 m1:=⟨_,rfl⟩
 rw [← hq,← hq1] at c1 g4 f4
 refine f0C ok D.ref04_Same rfl ?_
 conv=>whnf
 repeat ((first|refine oI.z ?_|refine cI.z ?_);conv=>whnf)
 repeat' first|((first|(show LdN _ _ _ _ _;first|refine LdN.oA 0 rfl rfl ?_|refine LdN.oA 1 rfl rfl ?_)|(show CN _ _ _ _ _ _;(refine CN.f rfl (c1 _ (by assumption) (by assumption)) (fun v h' hl hr=>?_);subst hr))|((first|refine oI.z ?_|refine cI.z ?_))|intro (_:Nat)|(show Ld _ _ _ _;first|refine Ld.o 0 rfl rfl ?_|refine Ld.o 1 rfl rfl ?_)) <;> (conv=>whnf))|(show cnd _ _ _;first|(refine cnd_txt hb hb1 (fun _=>?_) (fun _=>?_) <;> (conv=>whnf))|(refine cnd_eq (fun _=>?_) (fun _=>?_) <;> first|(exfalso;omega)|(conv=>whnf))|(refine cnd_not ?_)|(refine cnd_dec (fun _=>?_) (fun _=>?_) <;> first|(exfalso;omega)|(conv=>whnf)))
 all_goals try first
  | (refine RN.a ?_;rw [g1 (by assumption)];done)
  | (refine RN.a ?_;rw [g2 (by assumption)];done)
  | (refine RN.a ?_;rw [g3 (by assumption)];done)
  | (refine RN.a ?_;rw [g4 (by assumption)];done)
  | (refine RN.a ?_;rw [f2 (by omega)];done)
 rename_i be bf o1 o2 o3 o4 o5
 replace f4:=f4 (by assumption) (by assumption) (by assumption) (by assumption) (by omega)
 have hle0:h.le h':=by assumption
 have hkk:ks.length=ks1.length:=by omega
 clear g1 g2 g3 g4 f2 c1
 refine LpN.of (fun r ρ hx L=>∃j:Nat,r=ks.length-j∧h.le hx∧j≤ks.length∧rd ρ 5=.int .i64 j∧
     L=[(bf,.cells [.int .i64 op1,.int .i64 arg1,.bool neg1,a1.val,b1.val,.string (txt name1),s1.val].toArray Ty.api_Expr (0,0)),(be,.cells [.int .i64 op,.int .i64 arg,.bool neg,a.val,b.val,.string (txt name),s.val].toArray Ty.api_Expr (0,0))]∧
     Hq (∀(i:Nat) t u,i<j→ks[i]?=some t→ks1[i]?=some u→sameB t u=true)) ks.length
  ⟨0,rfl,hle0,Nat.zero_le _,rfl,rfl,⟨fun i t u x=>absurd x (Nat.not_lt_zero _)⟩⟩ ?_
 conv=>whnf
 repeat intro _
 rename_i r hx L2 hI
 obtain ⟨j,rfl,hle,hj,e5,rfl,hq⟩:=hI
 conv at e5=>lhs;whnf
 subst e5
 by_cases hjl:j=ks.length
 ·subst hjl
  rw [f4 fun j t u x y=>hq.out j t u (List.getElem?_eq_some_iff.1 x).1 x y]
  conv=>whnf
  repeat ((first|refine oI.z ?_|refine cI.z ?_);conv=>whnf)
  repeat' first|((first|((first|refine oI.z ?_|refine cI.z ?_))|refine Ld.o 1 rfl rfl ?_) <;> (conv=>whnf))|(refine cnd_lt (fun _=>?_) (fun _=>?_) <;> first|(exfalso;omega)|(conv=>whnf))
  exact RN.a rfl
 ·obtain ⟨t,ht⟩:∃t,ks[j]?=some t:=⟨_,List.getElem?_eq_getElem (by omega)⟩
  obtain ⟨u,hu⟩:∃t,ks1[j]?=some t:=⟨_,List.getElem?_eq_getElem (by omega)⟩
  have c2:=fun h vs us w w'=>ih t (szT_kid ht) u h vs us (d+1) (d'+1) w w' (okTs_get hoks ht) (okTs_get hoks1 hu)
  have f3:=f3 j t u ht hu
  obtain ⟨C,hC⟩:∃C,C=sameB t u:=⟨_,rfl⟩
  rw [← hC] at c2 f3
  have hkx:=hk.mono hle
  have hkx1:=hk1.mono hle
  conv=>whnf
  repeat ((first|refine oI.z ?_|refine cI.z ?_);conv=>whnf)
  repeat' first|((first|(show Idx _ _ _ _ _;first|refine Idx.kid hkx j t (by omega) ht (fun ad op2 arg2 neg2 a2 b2 name2 s2 hE hld=>?_)|refine Idx.kid hkx1 j u (by omega) hu (fun ad3 op3 arg3 neg3 a3 b3 name3 s3 hE3 hld3=>?_))|refine hld _ _ _ (Heap.lr _) ?_|refine hld3 _ _ _ (Heap.lr _) ?_|((first|refine oI.z ?_|refine cI.z ?_))|refine ⟨fun _=>HasLe.o (by assumption),?_⟩|(show CN _ _ _ _ _ _;(refine CN.f rfl (c2 _ _ _ (by assumption) (by assumption)) (fun v h' hl2 hr=>?_);subst hr))|refine WN.i64 (by omega) (by omega) ?_|(show Ld _ _ _ _;first|refine Ld.o 0 rfl rfl ?_|refine Ld.o 1 rfl rfl ?_)|refine DrN.run (by decide +kernel) ?_) <;> (conv=>whnf))|(show cnd _ _ _;first|(refine cnd_lt (fun _=>?_) (fun _=>?_) <;> first|(exfalso;omega)|(conv=>whnf))|(refine cnd_not ?_)|(refine cnd_bool (fun hb=>?_) (fun hb=>?_) <;> (first|cases hb|subst hb) <;> (conv=>whnf)))
  ·exact ⟨rfl,ks.length-(j+1),by omega,j+1,rfl,(by (iterate 30 try first|assumption|refine Heap.lt ?_ (by assumption));first|done|assumption),by omega,vi (by omega),rfl,⟨fun i t' u' x y z=>by
     rcases Nat.lt_succ_iff_lt_or_eq.1 x with x|rfl
     ·exact hq.out i t' u' x y z
     ·rw [ht] at y;rw [hu] at z;cases y;cases z;rw [← hC]⟩⟩
  ·rw [f3 rfl];exact RN.a rfl
def eqX (t u:Tr):Bool × Int:=if ValT t∧ValT u then (sameB t u,0) else (false,40)
theorem eq_self (x:Int):eq x x=true:=by rw [eq_dec,dec_true rfl]
attribute [local irreducible] Vc.Fn
end Go.Proofs.YtbgicephinomlaaGreatDoor
/- Trees with numbers (keys): equal trees have equal keys; copies keep them; nodes replaced. -/
namespace Go.Proofs.YtbgicephinomlaaGreatDoor
open Go Go.Vc Go.Dig
inductive Kt where
 | mk (op arg:Int) (q:Rat) (name:List Nat) (kids:List Kt)
mutual
def key:Tr→Kt
 | .mk op arg neg l m name ks=>.mk op arg (ratOf neg l m) name (keys ks)
def keys:List Tr→List Kt
 | []=>[]
 | t::ts=>key t::keys ts
end
mutual
theorem sameB_key:∀{t u:Tr},sameB t u=true↔key t=key u
 | .mk op arg neg l m name ks,.mk op' arg' neg' l' m' name' ks'=>by
  rw [sameB,key,key,Bool.and_eq_true,decide_eq_true_eq,sameBs_keys,Kt.mk.injEq]
  constructor
  ·rintro ⟨⟨a,b,c,d⟩,e⟩;exact ⟨a,b,d,c,e⟩
  ·rintro ⟨a,b,d,c,e⟩;exact ⟨⟨a,b,c,d⟩,e⟩
theorem sameBs_keys:∀{a b:List Tr},sameBs a b=true↔keys a=keys b
 | [],[]=>by rw [sameBs,keys];exact ⟨fun _=>rfl,fun _=>rfl⟩
 | [],_::_=>by rw [sameBs,keys,keys];exact ⟨fun h=>(by cases h),fun h=>(by cases h)⟩
 | _::_,[]=>by rw [sameBs,keys,keys];exact ⟨fun h=>(by cases h),fun h=>(by cases h)⟩
 | t::ts,u::us=>by rw [sameBs,keys,keys,Bool.and_eq_true,sameB_key,sameBs_keys,List.cons.injEq]
end

mutual
def rplT (g:Tr→Option Tr):Tr→Tr
 | .mk op arg neg l m name ks=>match g (.mk op arg neg l m name ks) with
  | some u=>u
  | none=>.mk op arg neg l m name (rplTs g ks)
def rplTs (g:Tr→Option Tr):List Tr→List Tr
 | []=>[]
 | t::ts=>rplT g t::rplTs g ts
end
mutual
theorem key_clone:∀{d:Nat} {t:Tr},okT d t→key (cloneT t)=key t
 | d,.mk op arg neg l m name ks,h=>by
  rw [okT] at h
  obtain ⟨-,hn,hk⟩:=h
  have hq:=hn.2.2.2.2
  rw [cloneT]
  split
  ·rename_i o
   rw [if_pos o] at hq
   rw [key,key,ratOf_dg,canQ,if_pos hq.1,keys_clone hk]
  ·rename_i o
   rw [if_neg o] at hq
   rw [key,key,keys_clone hk,ratOf_nil hq,ratOf_nil (show evl 4294967296 []=0 from evl_nil _)]
theorem keys_clone:∀{d:Nat} {ts:List Tr},okTs d ts→keys (cloneTs ts)=keys ts
 | _,[],_=>by rw [cloneTs]
 | d,t::ts,h=>by
  rw [okTs] at h
  rw [cloneTs,keys,keys,key_clone h.1,keys_clone h.2]
end
mutual
theorem okT_clone:∀{d:Nat} {t:Tr},okT d t→okT d (cloneT t)
 | d,.mk op arg neg l m name ks,h=>by
  rw [okT] at h
  obtain ⟨hd,hn,hk⟩:=h
  have hq:=hn.2.2.2.2
  rw [cloneT]
  split
  ·rename_i o
   rw [if_pos o] at hq
   rw [okT]
   refine ⟨hd,⟨by rw [cloneTs_len];exact hn.1,hn.2.1,hn.2.2.1,hn.2.2.2.1,?_⟩,okTs_clone hk⟩
   rw [if_pos o]
   exact ⟨okR_dg (canQ_fits _ _ _),by rw [ratOf_dg,canQ,if_pos hq.1];exact hq.2⟩
  ·rename_i o
   rw [okT]
   refine ⟨hd,⟨by rw [cloneTs_len];exact hn.1,hn.2.1,hn.2.2.1,hn.2.2.2.1,?_⟩,okTs_clone hk⟩
   rw [if_neg o];exact evl_nil _
theorem okTs_clone:∀{d:Nat} {ts:List Tr},okTs d ts→okTs d (cloneTs ts)
 | _,[],_=>by rw [cloneTs,okTs];trivial
 | d,t::ts,h=>by
  rw [okTs] at h
  rw [cloneTs,okTs]
  exact ⟨okT_clone h.1,okTs_clone h.2⟩
end
mutual
def okG:Tr→Prop
 | .mk op arg neg l m name ks=>nodeB op arg neg l m name ks.length∧okGs ks
def okGs:List Tr→Prop
 | []=>True
 | t::ts=>okG t∧okGs ts
end
mutual
theorem okG_of:∀{d:Nat} {t:Tr},okT d t→okG t
 | d,.mk op arg neg l m name ks,h=>by
  rw [okT] at h
  rw [okG]
  exact ⟨h.2.1,okGs_of h.2.2⟩
theorem okGs_of:∀{d:Nat} {ts:List Tr},okTs d ts→okGs ts
 | _,[],_=>by rw [okGs];trivial
 | d,t::ts,h=>by
  rw [okTs] at h
  rw [okGs]
  exact ⟨okG_of h.1,okGs_of h.2⟩
end
theorem okGs_mem:∀{ts:List Tr} {t:Tr},okGs ts→t∈ts→okG t
 | u::us,t,h,hm=>by
  rw [okGs] at h
  cases hm with
  | head=>exact h.1
  | tail _ hm=>exact okGs_mem h.2 hm
end Go.Proofs.YtbgicephinomlaaGreatDoor