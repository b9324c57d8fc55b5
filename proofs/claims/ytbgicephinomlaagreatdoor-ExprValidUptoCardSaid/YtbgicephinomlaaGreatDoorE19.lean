/- Valid trees: the program's count of nodes. -/
import Derived.Test.YtbgicephinomlaaGreatDoorE16
import Derived.Test.YtbgicephinomlaaGreatDoorE2
import Derived.Test.YtbgicephinomlaaGreatDoorE11
set_option linter.unusedVariables false
set_option linter.unusedSimpArgs false
namespace Go.Proofs.YtbgicephinomlaaGreatDoor
open Go Go.Vc Go.Dig
theorem LdN.ownAt {h:Heap} {L:Own} {b o m:Nat} {k:Value→Prop} {l:List Value} {T:TypeId} {fz:Nat × Nat} (n:Nat) (hb:L[n]?=some (b,.cells l.toArray T fz)) (hl:Nat.ble (o+m) l.length=true) (hk:k (.agg ((l.drop o).take m).toArray)):LdN h L ⟨b,o,none⟩ m k:=
 have hle:=Nat.le_of_ble_eq_true hl
 ⟨(l.drop o).take m,by rw [List.length_take,List.length_drop];omega,fun i hi=>by
   rw [add_lit]
   refine Has.own n hb ?_
   rw [List.getElem?_toArray,List.getD_eq_getElem?_getD,List.getElem?_take,if_pos hi,List.getElem?_drop,List.getElem?_eq_getElem (by omega)]
   rfl,hk⟩
theorem le_sign (q:Rat):le 0 (signQ q)=dec (0≤q):=by
 unfold le
 rw [dec_eq,signQ_eq]
 refine decide_eq_decide.2 ?_
 rw [← Rat.num_nonneg]
 rcases Int.lt_trichotomy q.num 0 with h | h | h
 ·rw [Int.sign_eq_neg_one_of_neg h];omega
 ·rw [h];simp
 ·rw [Int.sign_eq_one_of_pos h];omega
set_option maxRecDepth 20000 in
theorem kids_ct (h:Heap) (op:Int):Fn0 T F.expr_kids [.int .i64 op] h fun v h'=>h'=h∧∃(n:Nat) (b:Bool),v=.tuple #[.int .i64 n,.bool b]∧(b=true→(n:Int)=kidsN op)∧(b=false→kidsN op=-1):=by
 have k0:op=1∨op=2∨op=3→kidsN op=0:=fun x=>if_pos x
 have k1:op=4∨op=9∨op=10∨op=11∨op=12→kidsN op=1:=fun x=>by unfold kidsN;rw [if_neg (by omega),if_pos x]
 have k2:op=5∨op=6∨op=7∨op=8∨op=13∨op=14→kidsN op=2:=fun x=>by unfold kidsN;rw [if_neg (by omega),if_neg (by omega),if_pos x]
 have k3:op=15→kidsN op=3:=fun x=>by unfold kidsN;rw [if_neg (by omega),if_neg (by omega),if_neg (by omega),if_pos x]
 have k4:¬(op=1∨op=2∨op=3)→¬(op=4∨op=9∨op=10∨op=11∨op=12)→¬(op=5∨op=6∨op=7∨op=8∨op=13∨op=14)→op≠15→kidsN op=-1:=fun a b c d=>by unfold kidsN;rw [if_neg a,if_neg b,if_neg c,if_neg d]
 obtain ⟨K,hK⟩:∃K,K=kidsN op:=⟨_,rfl⟩
 rw [← hK] at k0 k1 k2 k3 k4 ⊢
 replace k0:=Hq.mk k0
 replace k1:=Hq.mk k1
 replace k2:=Hq.mk k2
 replace k3:=Hq.mk k3
 replace k4:=Hq.mk k4
 refine fn0_of_codeI ok D.expr_kids rfl ?_
 conv=>whnf
 repeat ((first | refine opsI.step ?_ | refine codeI.step ?_);conv=>whnf)
 repeat' first | ((first | (show SeqN _ _ _ _ _ _ _;refine SeqN.go ?_) | ((first | refine opsI.step ?_ | refine codeI.step ?_))) <;> (conv=>whnf)) | (refine cnd_eq (fun _=>?_) (fun _=>?_) <;> first | (exfalso;omega) | (conv=>whnf))
 all_goals first
  | exact RetN.all ⟨rfl,0,true,rfl,fun _=>by rw [k0.out (by omega)];rfl,fun x=>by cases x⟩
  | exact RetN.all ⟨rfl,1,true,rfl,fun _=>by rw [k1.out (by omega)];rfl,fun x=>by cases x⟩
  | exact RetN.all ⟨rfl,2,true,rfl,fun _=>by rw [k2.out (by omega)];rfl,fun x=>by cases x⟩
  | exact RetN.all ⟨rfl,3,true,rfl,fun _=>by rw [k3.out (by omega)];rfl,fun x=>by cases x⟩
  | exact RetN.all ⟨rfl,0,false,rfl,(fun x=>by cases x),fun _=>k4.out (by omega) (by omega) (by omega) (by omega)⟩
set_option maxRecDepth 20000 in
set_option maxHeartbeats 2000000 in
theorem fields_ct (h:Heap) (tb:Tb h) (op arg:Int) (neg:Bool) (a b:Sl) (l m name:List Nat) (s:Sl) (n:Nat) (hv:IsVal h a b l m) (hb:∀y∈name,y<256) (hs:s.l=n):
  Fn0 T F.expr_fields [.agg #[.int .i64 op,.int .i64 arg,.bool neg,a.val,b.val,.string (txt name),s.val]] h fun v h'=>v=.bool (dec (nodeB op arg neg l m name n)):=by
 have hl':=hv.ln
 have hs':=hv.sn
 obtain ⟨DD,hD⟩:∃DD,DD=dec (nodeB op arg neg l m name n):=⟨_,rfl⟩
 obtain ⟨KN,hK⟩:∃K,K=kidsN op:=⟨_,rfl⟩
 obtain ⟨LO,hL⟩:∃K,K=lowA op:=⟨_,rfl⟩
 obtain ⟨HI,hH⟩:∃K,K=highA op:=⟨_,rfl⟩
 have l9:op=9→LO=-32∧HI=32:=fun x=>by rw [hL,hH,x];exact ⟨rfl,rfl⟩
 have l10:op=10→LO=2∧HI=8:=fun x=>by rw [hL,hH,x];exact ⟨rfl,rfl⟩
 have l11:op=11→LO=1∧HI=8:=fun x=>by rw [hL,hH,x];exact ⟨rfl,rfl⟩
 have l0:op≠9→op≠10→op≠11→LO=0∧HI=0:=fun x y z=>by rw [hL,hH,lowA,highA,if_neg x,if_neg y,if_neg z,if_neg x,if_neg y,if_neg z];exact ⟨rfl,rfl⟩
 have n1:(n:Int)≠KN→DD=false:=fun x=>by rw [hD];exact dec_false fun y=>x (by rw [hK];exact y.1)
 have n2:arg<LO→DD=false:=fun x=>by rw [hD];exact dec_false fun y=>absurd y.2.1 (by omega)
 have n3:HI<arg→DD=false:=fun x=>by rw [hD];exact dec_false fun y=>absurd y.2.2.1 (by omega)
 have n4:op=2→¬IsNm name→DD=false:=fun x z=>by rw [hD];exact dec_false fun y=>z (by have:=y.2.2.2.1;rw [if_pos x] at this;exact this)
 have n5:op≠2→name≠[]→DD=false:=fun x z=>by rw [hD];exact dec_false fun y=>z (by have:=y.2.2.2.1;rw [if_neg x] at this;exact this)
 have p1:(n:Int)=KN→LO≤arg→arg≤HI→(op=2→IsNm name)→(op≠2→name=[])→op=1→DD=dec (numB neg l m):=fun x y z u v o=>by
  rw [hD];refine dec_congr ⟨fun q=>?_,fun q=>⟨by omega,by omega,by omega,?_,?_⟩⟩
  ·have:=q.2.2.2.2;rw [if_pos o] at this;exact this
  ·by_cases t:op=2
   ·rw [if_pos t];exact u t
   ·rw [if_neg t];exact v t
  ·rw [if_pos o];exact q
 have p2:(n:Int)=KN→LO≤arg→arg≤HI→(op=2→IsNm name)→(op≠2→name=[])→op≠1→DD=dec (evl 4294967296 l=0):=fun x y z u v o=>by
  rw [hD];refine dec_congr ⟨fun q=>?_,fun q=>⟨by omega,by omega,by omega,?_,?_⟩⟩
  ·have:=q.2.2.2.2;rw [if_neg o] at this;exact this
  ·by_cases t:op=2
   ·rw [if_pos t];exact u t
   ·rw [if_neg t];exact v t
  ·rw [if_neg o];exact q
 have r1:okR neg l m→dec (numB neg l m)=dec (0≤ratOf neg l m):=fun x=>dec_congr ⟨fun y=>y.2,fun y=>⟨x,y⟩⟩
 have r2:¬okR neg l m→dec (numB neg l m)=false:=fun x=>dec_false fun y=>x y.1
 have c0:=fun h=>kids_ct h op
 rw [← hK] at c0
 rw [← hD]
 clear hD hK hL hH
 replace n1:=Hq.mk n1
 replace n4:=Hq.mk n4
 replace n5:=Hq.mk n5
 replace p1:=Hq.mk p1
 replace p2:=Hq.mk p2
 replace r1:=Hq.mk r1
 replace r2:=Hq.mk r2
 have c1:=fun h=>XIsName_ct h name hb
 have c2:=fun h hv=>Of_ct h a l hv hl' (by omega)
 obtain ⟨x,hx⟩:∃x,x=evl 4294967296 l:=⟨_,rfl⟩
 have hxl:ln 4294967296 x≤1073741824:=by rw [hx];exact Nat.le_trans ((ln_le_iff (by decide)).2 (evl_lt two_le_B hl')) hs'
 rw [← hx] at p2
 have lsg:=le_sign (ratOf neg l m)
 have hsz:=fun (y:okR neg l m)=>(okR.sz y).mono (show 64≤1099511627776 by omega)
 obtain ⟨q,hq⟩:∃q,q=ratOf neg l m:=⟨_,rfl⟩
 have c3:=fun h tb hv=>Read_ct h tb neg a b l m hv
 rw [← hq] at r1 lsg hsz c3
 have hvn:=hv.num
 refine fn0_of_codeI ok D.expr_fields rfl ?_
 conv=>whnf
 repeat ((first | refine opsI.step ?_ | refine codeI.step ?_);conv=>whnf)
 repeat' first | ((first | (show SeqN _ _ _ _ _ _ _;refine SeqN.go ?_) | (show CallN _ _ _ _ _ _;first | (refine CallN.fn rfl (c0 _) (fun v h' hl2 hr=>?_);obtain ⟨rfl,kn,kb,rfl,hk1,hk2⟩:=hr;clear hl2) | (refine CallN.fn rfl (c1 _) (fun v h' hl2 hr=>?_);subst hr) | (refine CallN.fn rfl (Of_ct _ _ l (by (iterate 30 (try first | assumption | refine Ws.mono ?_ (by assumption)));first | done | assumption) hl' (by omega)) (fun v h' hl hr=>?_);rw [← hx] at hr;obtain ⟨s',rfl,hs'⟩:=hr) | refine CallN.quiet rfl (Zero_ct _ _ _ (by assumption) (by omega)) ?_ | (refine CallN.fn rfl (c3 _ (by assumption) (by assumption)) (fun v h' hl hr=>?_);obtain ⟨sx,cx,dx,rfl,hfx⟩:=hr) | (obtain ⟨e1,hfr⟩:=hfx (by assumption);subst e1;refine CallN.quiet rfl (Sign_ct _ _ _ q hfr (hsz (by assumption))) ?_)) | (show LdN _ _ _ _ _;(first | refine LdN.own 0 rfl rfl ?_ | refine LdN.ownAt 0 rfl rfl ?_)) | ((first | refine opsI.step ?_ | refine codeI.step ?_)) | intro (_:Nat) | refine Ld.own 0 rfl rfl ?_ | refine Sto.lit 0 rfl rfl rfl ?_) <;> (conv=>whnf)) | (show cnd _ _ _;first | (refine cnd_nil name rfl rfl (fun _=>?_) (fun _=>?_) <;> (conv=>whnf)) | (refine cnd_lt (fun _=>?_) (fun _=>?_) <;> first | (exfalso;omega) | (conv=>whnf)) | (refine cnd_eq (fun _=>?_) (fun _=>?_) <;> first | (exfalso;omega) | (conv=>whnf)) | (refine cnd_not ?_) | (refine cnd_dec (fun _=>?_) (fun _=>?_) <;> first | (exfalso;omega) | (conv=>whnf)) | (refine cnd_bool (fun hb=>?_) (fun hb=>?_) <;> (first | cases hb | subst hb) <;> (conv=>whnf)))
 all_goals first
  | (rw [n1.out (by first | (rw [hk2 rfl];omega) | (rw [← hk1 rfl];omega))];exact RetN.all rfl)
  | (rw [n2 (by omega)];exact RetN.all rfl)
  | (rw [n3 (by omega)];exact RetN.all rfl)
  | (rw [n4.out (by omega) (by assumption)];exact RetN.all rfl)
  | (rw [n5.out (by omega) (by assumption)];exact RetN.all rfl)
  | (rw [p2.out (by have:=hk1 rfl;omega) (by omega) (by omega) (fun e=>by first | assumption | (exfalso;omega)) (fun e=>by first | assumption | (exfalso;omega)) (by omega)];exact RetN.all rfl)
  | (rw [p1.out (by have:=hk1 rfl;omega) (by omega) (by omega) (fun e=>by first | assumption | (exfalso;omega)) (fun e=>by first | assumption | (exfalso;omega)) (by omega),r2.out (by assumption)];exact RetN.all rfl)
  | (rw [p1.out (by have:=hk1 rfl;omega) (by omega) (by omega) (fun e=>by first | assumption | (exfalso;omega)) (fun e=>by first | assumption | (exfalso;omega)) (by omega),r1.out (by assumption),← lsg];exact RetN.all rfl)
theorem kidsN_le (op:Int):kidsN op≤3:=by
 unfold kidsN
 repeat' split
 all_goals omega
def cntT (d n:Nat) (t:Tr):Nat:=if okT d t∧n+szT t≤300 then n+szT t else 301
theorem cntT_big (d n:Nat) (t:Tr):cntT d n t>300→cntT d n t=301:=by
 unfold cntT
 split
 ·omega
 ·exact fun _=>rfl
theorem tree_ind {P:Tr→Prop} (h:∀t,(∀u,szT u<szT t→P u)→P t):∀t,P t:=fun t=>by
 have:∀n t,szT t=n→P t:=fun n=>by
  induction n using Nat.strongRecOn with
  | ind n ih=>exact fun t e=>h t fun u hu=>ih (szT u) (by omega) u rfl
 exact this _ t rfl
theorem szT_kid {op arg:Int} {neg:Bool} {l m name:List Nat} {ks:List Tr} {t:Tr} {j:Nat} (h:ks[j]?=some t):szT t<szT (.mk op arg neg l m name ks):=by
 have:=szTs_mem (List.mem_of_getElem? h)
 rw [szT];omega
set_option maxRecDepth 20000 in
set_option maxHeartbeats 2000000 in
theorem count_ct:∀t:Tr,∀(h:Heap) (vs:List Value) (d n:Nat),Tb h→IsE h vs t→n≤300→d≤1000→Fn0 T F.expr_count [.agg vs.toArray,.int .i64 d,.int .i64 n] h fun v h'=>v=.int .i64 (cntT d n t:Nat):=by
 refine tree_ind fun t ih=>?_
 intro h vs d n tb w hn hd
 obtain ⟨op,arg,neg,l,m,name,ks⟩:=t
 obtain ⟨a,b,s,rfl,ho,ha,hv,hb,hk⟩:=w.isK
 obtain ⟨NB,hNB⟩:∃b,b=nodeB op arg neg l m name ks.length:=⟨_,rfl⟩
 have c1:=fun h tb hv=>fields_ct h tb op arg neg a b l m name s ks.length hv hb hk.len
 have f1:n+1>300→cntT d n (.mk op arg neg l m name ks)=301:=fun x=>if_neg fun y=>by
  have:=y.2
  rw [szT] at this;omega
 have f2:d>30→cntT d n (.mk op arg neg l m name ks)=301:=fun x=>if_neg fun y=>by
  have:=y.1
  rw [okT] at this;omega
 have f3:¬nodeB op arg neg l m name ks.length→cntT d n (.mk op arg neg l m name ks)=301:=fun x=>if_neg fun y=>by
  have:=y.1
  rw [okT] at this;exact x this.2.1
 have f4:∀j t,ks[j]?=some t→cntT (d+1) (n+1+szTs (ks.take j)) t>300→cntT d n (.mk op arg neg l m name ks)=301:=fun j t ht x=>if_neg fun y=>by
  obtain ⟨y1,y2⟩:=y
  rw [okT] at y1
  rw [szT] at y2
  have e:=take_tail ht
  rw [e,szTs_append,szTs] at y2
  have z:=y1.2.2
  rw [e,okTs_append,okTs] at z
  unfold cntT at x
  rw [if_pos ⟨z.2.1,by omega⟩] at x
  omega
 have f5:d≤30→nodeB op arg neg l m name ks.length→okTs (d+1) ks→n+1+szTs ks≤300→cntT d n (.mk op arg neg l m name ks)=n+1+szTs ks:=fun x y z u=>by
  unfold cntT
  rw [if_pos (show okT d (.mk op arg neg l m name ks)∧n+szT (.mk op arg neg l m name ks)≤300 from ⟨by rw [okT];exact ⟨x,y,z⟩,by rw [szT];omega⟩),szT];omega
 obtain ⟨R,hR⟩:∃R,R=cntT d n (.mk op arg neg l m name ks):=⟨_,rfl⟩
 rw [← hR] at f1 f2 f3 f4 f5 ⊢
 have hkl:=hk.len
 refine fn0_of_codeI ok D.expr_count rfl ?_
 conv=>whnf
 repeat ((first | refine opsI.step ?_ | refine codeI.step ?_);conv=>whnf)
 repeat' first | ((first | (show CallN _ _ _ _ _ _;(refine CallN.fn rfl (c1 _ (by assumption) (by assumption)) (fun v h' hl2 hr=>?_);subst hr)) | ((first | refine opsI.step ?_ | refine codeI.step ?_)) | intro (_:Nat) | refine WrapN.i64 (by omega) (by omega) ?_ | refine LdN.own 0 rfl rfl ?_ | refine Ld.own 0 rfl rfl ?_) <;> (conv=>whnf)) | (show cnd _ _ _;first | (refine cnd_lt (fun _=>?_) (fun _=>?_) <;> first | (exfalso;omega) | (conv=>whnf)) | (refine cnd_not ?_) | (refine cnd_dec (fun _=>?_) (fun _=>?_) <;> first | (exfalso;omega) | (conv=>whnf)))
 ·rw [f1 (by omega)];exact RetN.all rfl
 ·rw [f2 (by omega)];exact RetN.all rfl
 ·have hd30:d≤30:=by omega
  have hNBt:nodeB op arg neg l m name ks.length:=by assumption
  replace f5:=f5 hd30 hNBt
  have hks:ks.length≤3:=by
   have h1:=hNBt.1
   have h2:=kidsN_le op
   omega
  clear f1 f2 f3
  have hle0:h.le h':=by assumption
  refine LoopN.of (fun r ρ hx L=>∃(j c:Nat),r=ks.length-j∧h.le hx∧j≤ks.length∧rd ρ 25=.int .i64 j∧rd ρ 2=.int .i64 c∧c=n+1+szTs (ks.take j)∧c≤300∧Hq (okTs (d+1) (ks.take j))) ks.length
   ⟨0,n+1,rfl,hle0,Nat.zero_le _,rfl,vi (by omega),by rw [List.take_zero,szTs],by omega,⟨by rw [List.take_zero,okTs];trivial⟩⟩ ?_
  conv=>whnf
  repeat intro _
  rename_i r hx L2 hI
  obtain ⟨j,c,rfl,hle,hj,e25,e2,hc,hc3,hq⟩:=hI
  conv at e25=>lhs;whnf
  subst e25
  conv at e2=>lhs;whnf
  subst e2
  by_cases hjl:j=ks.length
  ·subst hjl
   rw [List.take_length] at hc hq
   rw [f5 hq.out (by omega),← hc]
   conv=>whnf
   repeat ((first | refine opsI.step ?_ | refine codeI.step ?_);conv=>whnf)
   repeat' first | ((first | ((first | refine opsI.step ?_ | refine codeI.step ?_))) <;> (conv=>whnf)) | (refine cnd_lt (fun _=>?_) (fun _=>?_) <;> first | (exfalso;omega) | (conv=>whnf))
   exact RetN.all rfl
  ·obtain ⟨t,ht⟩:∃t,ks[j]?=some t:=⟨_,List.getElem?_eq_getElem (by omega)⟩
   have c2:=fun h vs tb w=>ih t (szT_kid ht) h vs (d+1) c tb w hc3 (by omega)
   have f4:=f4 j t ht
   rw [← hc] at f4
   have hc4:¬cntT (d+1) c t>300→okTs (d+1) (ks.take (j+1))∧cntT (d+1) c t=n+1+szTs (ks.take (j+1)):=fun x=>by
    unfold cntT at x ⊢
    split at x
    ·rename_i y
     rw [if_pos y,take_snoc ht,okTs_append,szTs_append,okTs,szTs,szTs,okTs]
     exact ⟨⟨hq.out,y.1,trivial⟩,by omega⟩
    ·omega
   obtain ⟨C,hC⟩:∃C,C=cntT (d+1) c t:=⟨_,rfl⟩
   rw [← hC] at c2 f4 hc4
   have hC3:C>300→C=301:=by rw [hC];exact cntT_big _ _ _
   replace hc4:=Hq.mk hc4
   have hkx:=hk.mono hle
   conv=>whnf
   repeat ((first | refine opsI.step ?_ | refine codeI.step ?_);conv=>whnf)
   repeat' first | ((first | (show Idx _ _ _ _ _;refine Idx.kid hkx j t (by omega) ht (fun ad op arg neg a b name s' hE hld=>?_)) | refine hld _ _ _ (Heap.le_refl _) ?_ | ((first | refine opsI.step ?_ | refine codeI.step ?_)) | intro (_:Nat) | (show CallN _ _ _ _ _ _;(refine CallN.fn rfl (c2 _ _ (by (iterate 30 (try first | assumption | refine Tb.mono ?_ (by assumption)));first | done | assumption) (by assumption)) (fun v h' hl2 hr=>?_);subst hr)) | refine WrapN.i64 (by omega) (by omega) ?_ | refine LdN.own 0 rfl rfl ?_ | refine Sto.lit 0 rfl rfl rfl ?_) <;> (conv=>whnf)) | (refine cnd_lt (fun _=>?_) (fun _=>?_) <;> first | (exfalso;omega) | (conv=>whnf))
   ·rw [f4 (by omega),hC3 (by omega)];exact RetN.all rfl
   ·obtain ⟨x1,x2⟩:=hc4.out (by omega)
    exact ⟨rfl,ks.length-(j+1),by omega,j+1,C,rfl,(by (iterate 30 (try first | assumption | refine Heap.le_trans ?_ (by assumption)));first | done | assumption),by omega,vi (by omega),vi (by omega),x2,by omega,⟨x1⟩⟩
 ·rw [f3 (by assumption)];exact RetN.all rfl
theorem cntT_val (t:Tr):cntT 1 0 t≤300↔ValT t:=by
 unfold cntT ValT
 constructor
 ·intro x
  split at x
  ·rename_i y;exact ⟨y.1,by omega⟩
  ·omega
 ·intro x
  rw [if_pos ⟨x.1,by have:=x.2;omega⟩]
  have:=x.2;omega
theorem cntT_sz {t:Tr} (h:ValT t):cntT 1 0 t=szT t:=by
 unfold cntT
 rw [if_pos ⟨h.1,by have:=h.2;omega⟩];omega
set_option maxRecDepth 20000 in
theorem Valid_ct (t:Tr) (h:Heap) (vs:List Value) (tb:Tb h) (w:IsE h vs t):Fn0 T F.expr_Valid [.agg vs.toArray] h fun v h'=>v=.bool (dec (ValT t)):=by
 have hv:=cntT_val t
 have c1:=fun h tb w=>count_ct t h vs 1 0 tb w (by omega) (by omega)
 obtain ⟨C,hC⟩:∃C,C=cntT 1 0 t:=⟨_,rfl⟩
 rw [← hC] at c1 hv
 obtain ⟨⟨op,arg,neg,l,m,name,ks⟩,ht⟩:∃u,u=t:=⟨_,rfl⟩
 obtain ⟨a,b,s,hvs,-⟩:=(ht.symm▸w:IsE h vs (.mk op arg neg l m name ks)).isK
 subst hvs
 refine fn0_of_codeI ok D.expr_Valid rfl ?_
 conv=>whnf
 repeat ((first | refine opsI.step ?_ | refine codeI.step ?_);conv=>whnf)
 repeat' first | ((first | (show CallN _ _ _ _ _ _;(refine CallN.fn rfl (c1 _ (by assumption) (by assumption)) (fun v h' hl2 hr=>?_);subst hr)) | ((first | refine opsI.step ?_ | refine codeI.step ?_)) | intro (_:Nat) | refine LdN.own 0 rfl rfl ?_) <;> (conv=>whnf))
 refine RetN.all ?_
 congr 1
 unfold le
 rw [dec_eq]
 refine decide_eq_decide.2 ?_
 rw [← hv];omega
end Go.Proofs.YtbgicephinomlaaGreatDoor
/- A copy of a tree with canonical numbers; the result of an operation. -/
namespace Go.Dig
end Go.Dig
namespace Go.Proofs.YtbgicephinomlaaGreatDoor
open Go Go.Vc Go.Dig
def canQ (neg:Bool) (l m:List Nat):Rat:=if okR neg l m then ratOf neg l m else 0
mutual
def cloneT:Tr→Tr
 | .mk op arg neg l m name ks=>if op=1 then .mk op arg (sg (canQ neg l m)) (dg 4294967296 (nu (canQ neg l m))) (dg 4294967296 (dn (canQ neg l m))) name (cloneTs ks) else .mk op arg false [] [] name (cloneTs ks)
def cloneTs:List Tr→List Tr
 | []=>[]
 | t::ts=>cloneT t::cloneTs ts
end
theorem cloneTs_append:∀(a b:List Tr),cloneTs (a++b)=cloneTs a++cloneTs b
 | [],b=>by rw [cloneTs];rfl
 | t::a,b=>by rw [List.cons_append,cloneTs,cloneTs,cloneTs_append a b];rfl
theorem cloneTs_len:∀a:List Tr,(cloneTs a).length=a.length
 | []=>by rw [cloneTs]
 | t::a=>by rw [cloneTs,List.length_cons,List.length_cons,cloneTs_len a]
theorem okTs_mem {d:Nat}:∀{ts:List Tr} {t:Tr},okTs d ts→t∈ts→okT d t
 | u::ts,t,h,hm=>by
  rw [okTs] at h
  rcases List.mem_cons.1 hm with rfl | hm
  ·exact h.1
  ·exact okTs_mem h.2 hm
theorem IsE.mkK {h:Heap} {op arg:Int} {neg:Bool} {a b s:Sl} {l m name:List Nat} {ks:List Tr} (h1:-9223372036854775808≤op∧op≤9223372036854775807) (h2:-9223372036854775808≤arg∧arg≤9223372036854775807) (v:IsVal h a b l m) (hb:∀y∈name,y<256) (k:IsK h s ks):
  IsE h [.int .i64 op,.int .i64 arg,.bool neg,a.val,b.val,.string (txt name),s.val] (.mk op arg neg l m name ks):=by
 rw [IsE];exact ⟨a,b,s,rfl,h1,h2,v,hb,k.len,k.cap,k.mem⟩
theorem RetN.rowA {e:TypeId} {v w:Value} {n:Nat} {xs:List Value} {acc:List Tr} {h:Heap} {X tl:Own} {R:Value→Heap→Prop} (g:GrowS e 7 v n xs X) (k:KC h xs acc) (hn:n=acc.length)
  (hk:∀h' (s:Sl),h.le h'→v=s.val→IsK h' s acc→R w h'):RetN w h (X++tl) fun v h' L'=>L'=[]∧R v h':=by
 obtain ⟨g1,⟨rfl,rfl⟩ | ⟨i,b,cap,zs,rfl,h2,h3,h4⟩⟩:=g
 ·obtain rfl:acc=[]:=List.length_eq_zero_iff.1 hn.symm
  exact RetN.all (hk h ⟨none,0,0⟩ (Heap.le_refl _) rfl (IsK.nil h))
 ·have hlt:=(List.getElem?_eq_some_iff.1 h2).1
  refine RetN.keep i (by rw [List.getElem?_append_left hlt];exact h2) fun hle=>?_
  exact RetN.all (hk _ ⟨some ⟨b,0,none⟩,n,cap⟩ hle rfl (IsK.put hle k hn h3))
theorem canQ_fits (neg:Bool) (l m:List Nat):fits (canQ neg l m):=by
 unfold canQ
 split
 ·rename_i h;exact h.2.2
 ·exact fits_zero
theorem canon_res {h:Heap} {v:Value} {neg:Bool} {l m:List Nat} (r:Res h v (spec1 (fun q=>q) neg l m)):∃(a b:Sl) (e:Int),v=.tuple #[.agg #[.bool (sg (canQ neg l m)),a.val,b.val],.int .i64 e]∧IsVal h a b (dg 4294967296 (nu (canQ neg l m))) (dg 4294967296 (dn (canQ neg l m))):=by
 have hq:(spec1 (fun q=>q) neg l m).1=canQ neg l m:=by
  unfold spec1 canQ
  split
  ·rename_i x
   unfold outR
   rw [if_pos x.2.2]
  ·rfl
 obtain ⟨a,b,rfl,w⟩:=r
 rw [hq] at w ⊢
 exact ⟨a,b,_,rfl,israt_val w (fits_sz (canQ_fits neg l m))⟩
set_option maxRecDepth 20000 in
set_option maxHeartbeats 2000000 in
theorem clone_ct:∀t:Tr,∀(h:Heap) (vs:List Value) (d:Nat),Tb h→IsE h vs t→okT d t→Fn0 T F.expr_clone [.agg vs.toArray] h fun v h'=>VE h' v (cloneT t):=by
 refine tree_ind fun t ih=>?_
 intro h vs d tb w hok
 obtain ⟨op,arg,neg,l,m,name,ks⟩:=t
 obtain ⟨a,b,s,rfl,ho,ha,hv,hb,hk⟩:=w.isK
 rw [okT] at hok
 obtain ⟨hd,hnb,hoks⟩:=hok
 have hks:ks.length≤3:=by
  have h1:=hnb.1
  have h2:=kidsN_le op
  omega
 have hkl:=hk.len
 have hv0:=IsVal.zero h
 have c1:=fun h tb hv=>NCanon_ct h tb neg a b l m hv
 have fin:∀(ng:Bool) (l2 m2:List Nat),(op=1→ng=sg (canQ neg l m)∧l2=dg 4294967296 (nu (canQ neg l m))∧m2=dg 4294967296 (dn (canQ neg l m)))→(op≠1→ng=false∧l2=[]∧m2=[])→cloneT (.mk op arg neg l m name ks)=.mk op arg ng l2 m2 name (cloneTs ks):=fun ng l2 m2 x y=>by
  rw [cloneT]
  split
  ·obtain ⟨rfl,rfl,rfl⟩:=x (by assumption);rfl
  ·obtain ⟨rfl,rfl,rfl⟩:=y (by assumption);rfl
 refine fn0_of_codeI ok D.expr_clone rfl ?_
 conv=>whnf
 repeat ((first | refine opsI.step ?_ | refine codeI.step ?_);conv=>whnf)
 repeat' first | ((first | (show SeqN _ _ _ _ _ _ _;refine SeqN.go ?_) | (show LdN _ _ _ _ _;refine LdN.ownAt 1 rfl rfl ?_) | (show CallN _ _ _ _ _ _;(refine CallN.fn rfl (c1 _ (by assumption) (by assumption)) (fun v h' hl2 hr=>?_);obtain ⟨a2,b2,er,rfl,hv2⟩:=canon_res hr)) | ((first | refine opsI.step ?_ | refine codeI.step ?_)) | intro (_:Nat) | refine Ld.own 1 rfl rfl ?_ | refine Sto.lit 1 rfl rfl rfl ?_) <;> (conv=>whnf)) | (refine cnd_eq (fun _=>?_) (fun _=>?_) <;> first | (exfalso;omega) | (conv=>whnf))
 -- loops of clone
 ·rename_i be bz hop
  have hcl:=fin (sg (canQ neg l m)) (dg 4294967296 (nu (canQ neg l m))) (dg 4294967296 (dn (canQ neg l m))) (fun _=>⟨rfl,rfl,rfl⟩) (fun x=>absurd hop x)
  refine LoopN.of (fun r ρ hx L=>∃(j:Nat) (V:Value) (F1:Own) (xs:List Value),r=ks.length-j∧h'.le hx∧j≤ks.length∧rd ρ 21=.int .i64 j∧rd ρ 3=V∧
    L=F1++((bz,.cells [.int .i64 0,.int .i64 0,.bool false,.slice none 0 0,.slice none 0 0,.string (txt []),.slice none 0 0].toArray Ty.api_Expr (0,0))::(be,.cells [.int .i64 op,.int .i64 arg,.bool (sg (canQ neg l m)),a2.val,b2.val,.string (txt name),s.val].toArray Ty.api_Expr (0,0))::[])∧
    GrowS Ty.api_Expr 7 V j xs F1∧KC hx xs (cloneTs (ks.take j))) ks.length
   ⟨0,_,[],[],rfl,Heap.le_refl _,Nat.zero_le _,rfl,rfl,rfl,GrowS.nil _ _ _,by rw [List.take_zero,cloneTs];rfl⟩ ?_
  conv=>whnf
  repeat intro _
  rename_i r hx L2 hI
  obtain ⟨j,V,F1,xs,rfl,hle,hj,e21,e3,rfl,gF,hK⟩:=hI
  conv at e21=>lhs;whnf
  subst e21
  conv at e3=>lhs;whnf
  subst e3
  by_cases hjl:j=ks.length
  ·subst hjl
   rw [List.take_length] at hK
   obtain ⟨sv,rfl⟩:=gF.sl
   conv=>whnf
   repeat ((first | refine opsI.step ?_ | refine codeI.step ?_);conv=>whnf)
   repeat' first | ((first | (show Sto _ _ _ _;first | refine Sto.tl (A:=F1) (X:=[_]) rfl rfl ?_ | refine Sto.tl (A:=[]) (X:=F1) rfl rfl ?_) | (show LdN _ _ _ _ _;first | refine LdN.tl (A:=F1) (F:=[_]) rfl ?_ | refine LdN.tl (A:=[]) (F:=F1) rfl ?_) | ((first | refine opsI.step ?_ | refine codeI.step ?_))) <;> (conv=>whnf)) | (refine cnd_lt (fun _=>?_) (fun _=>?_) <;> first | (exfalso;omega) | (conv=>whnf))
   refine RetN.rowA (X:=F1) gF hK (cloneTs_len ks).symm fun h' s' hl hs hk'=>?_
   rw [hcl,hs]
   exact ⟨op,arg,(sg (canQ neg l m)),a2,b2,name,s',rfl,IsE.mkK ho ha (by (iterate 30 (try first | assumption | refine IsVal.mono ?_ (by assumption)));first | done | assumption) hb hk'⟩
  ·obtain ⟨t,ht⟩:∃t,ks[j]?=some t:=⟨_,List.getElem?_eq_getElem (by omega)⟩
   have c2:=fun h vs tb w=>ih t (szT_kid ht) h vs (d+1) tb w (okTs_mem hoks (List.mem_of_getElem? ht))
   have hkx:=hk.mono (Heap.le_trans hl2 hle)
   conv=>whnf
   repeat ((first | refine opsI.step ?_ | refine codeI.step ?_);conv=>whnf)
   repeat' first | ((first | (show Idx _ _ _ _ _;refine Idx.kid hkx j t (by omega) ht (fun ad op arg neg a b name s' hE hld=>?_)) | refine hld _ _ _ (Heap.le_refl _) ?_ | ((first | refine opsI.step ?_ | refine codeI.step ?_)) | intro (_:Nat) | (show CallN _ _ _ _ _ _;(refine CallN.fn rfl (c2 _ _ (by (iterate 30 (try first | assumption | refine Tb.mono ?_ (by assumption)));first | done | assumption) (by assumption)) (fun v h' hl2 hr=>?_);obtain ⟨op2,ar2,ng2,nn2,dd2,nm2,ss2,rfl,hE2⟩:=hr;have hK2:=hK.mono hl2)) | (show App _ _ _ _ _ _ _ _ _;refine App.growK (A:=[_,_]) (F:=F1) (size:=7) (bytes:=112) (z:=[.int .i64 0,.int .i64 0,.bool false,.slice none 0 0,.slice none 0 0,.string (txt []),.slice none 0 0]) rfl rfl gF ⟨_,0,none⟩ 1 1 [_,_,_,_,_,_,_] rfl (Has.front _) rfl (by decide) (by omega) (by omega) (by decide) (fun v' F' g'=>?_)) | refine WrapN.i64 (by omega) (by omega) ?_ | refine LdN.own 0 rfl rfl ?_ | refine Sto.lit 0 rfl rfl rfl ?_) <;> (conv=>whnf)) | (refine cnd_lt (fun _=>?_) (fun _=>?_) <;> first | (exfalso;omega) | (conv=>whnf))
   exact ⟨rfl,ks.length-(j+1),by omega,j+1,_,_::_::F',_,rfl,(by (iterate 30 (try first | assumption | refine Heap.le_trans ?_ (by assumption)));first | done | assumption),by omega,vi (by omega),rfl,rfl,(g'.cons _).cons _,by rw [take_snoc ht,cloneTs_append,cloneTs,cloneTs];exact KC.snoc rfl hE2 hK2⟩
 ·rename_i be bz hop
  have hcl:=fin false [] [] (fun x=>absurd x hop) (fun _=>⟨rfl,rfl,rfl⟩)
  refine LoopN.of (fun r ρ hx L=>∃(j:Nat) (V:Value) (F1:Own) (xs:List Value),r=ks.length-j∧h.le hx∧j≤ks.length∧rd ρ 21=.int .i64 j∧rd ρ 3=V∧
    L=F1++((bz,.cells [.int .i64 0,.int .i64 0,.bool false,.slice none 0 0,.slice none 0 0,.string (txt []),.slice none 0 0].toArray Ty.api_Expr (0,0))::(be,.cells [.int .i64 op,.int .i64 arg,.bool false,.slice none 0 0,.slice none 0 0,.string (txt name),s.val].toArray Ty.api_Expr (0,0))::[])∧
    GrowS Ty.api_Expr 7 V j xs F1∧KC hx xs (cloneTs (ks.take j))) ks.length
   ⟨0,_,[],[],rfl,Heap.le_refl _,Nat.zero_le _,rfl,rfl,rfl,GrowS.nil _ _ _,by rw [List.take_zero,cloneTs];rfl⟩ ?_
  conv=>whnf
  repeat intro _
  rename_i r hx L2 hI
  obtain ⟨j,V,F1,xs,rfl,hle,hj,e21,e3,rfl,gF,hK⟩:=hI
  conv at e21=>lhs;whnf
  subst e21
  conv at e3=>lhs;whnf
  subst e3
  by_cases hjl:j=ks.length
  ·subst hjl
   rw [List.take_length] at hK
   obtain ⟨sv,rfl⟩:=gF.sl
   conv=>whnf
   repeat ((first | refine opsI.step ?_ | refine codeI.step ?_);conv=>whnf)
   repeat' first | ((first | (show Sto _ _ _ _;first | refine Sto.tl (A:=F1) (X:=[_]) rfl rfl ?_ | refine Sto.tl (A:=[]) (X:=F1) rfl rfl ?_) | (show LdN _ _ _ _ _;first | refine LdN.tl (A:=F1) (F:=[_]) rfl ?_ | refine LdN.tl (A:=[]) (F:=F1) rfl ?_) | ((first | refine opsI.step ?_ | refine codeI.step ?_))) <;> (conv=>whnf)) | (refine cnd_lt (fun _=>?_) (fun _=>?_) <;> first | (exfalso;omega) | (conv=>whnf))
   refine RetN.rowA (X:=F1) gF hK (cloneTs_len ks).symm fun h' s' hl hs hk'=>?_
   rw [hcl,hs]
   exact ⟨op,arg,false,⟨none,0,0⟩,⟨none,0,0⟩,name,s',rfl,IsE.mkK ho ha (by (iterate 30 (try first | assumption | refine IsVal.mono ?_ (by assumption)));first | done | assumption) hb hk'⟩
  ·obtain ⟨t,ht⟩:∃t,ks[j]?=some t:=⟨_,List.getElem?_eq_getElem (by omega)⟩
   have c2:=fun h vs tb w=>ih t (szT_kid ht) h vs (d+1) tb w (okTs_mem hoks (List.mem_of_getElem? ht))
   have hkx:=hk.mono (Heap.le_trans (Heap.le_refl _) hle)
   conv=>whnf
   repeat ((first | refine opsI.step ?_ | refine codeI.step ?_);conv=>whnf)
   repeat' first | ((first | (show Idx _ _ _ _ _;refine Idx.kid hkx j t (by omega) ht (fun ad op arg neg a b name s' hE hld=>?_)) | refine hld _ _ _ (Heap.le_refl _) ?_ | ((first | refine opsI.step ?_ | refine codeI.step ?_)) | intro (_:Nat) | (show CallN _ _ _ _ _ _;(refine CallN.fn rfl (c2 _ _ (by (iterate 30 (try first | assumption | refine Tb.mono ?_ (by assumption)));first | done | assumption) (by assumption)) (fun v h' hl2 hr=>?_);obtain ⟨op2,ar2,ng2,nn2,dd2,nm2,ss2,rfl,hE2⟩:=hr;have hK2:=hK.mono hl2)) | (show App _ _ _ _ _ _ _ _ _;refine App.growK (A:=[_,_]) (F:=F1) (size:=7) (bytes:=112) (z:=[.int .i64 0,.int .i64 0,.bool false,.slice none 0 0,.slice none 0 0,.string (txt []),.slice none 0 0]) rfl rfl gF ⟨_,0,none⟩ 1 1 [_,_,_,_,_,_,_] rfl (Has.front _) rfl (by decide) (by omega) (by omega) (by decide) (fun v' F' g'=>?_)) | refine WrapN.i64 (by omega) (by omega) ?_ | refine LdN.own 0 rfl rfl ?_ | refine Sto.lit 0 rfl rfl rfl ?_) <;> (conv=>whnf)) | (refine cnd_lt (fun _=>?_) (fun _=>?_) <;> first | (exfalso;omega) | (conv=>whnf))
   exact ⟨rfl,ks.length-(j+1),by omega,j+1,_,_::_::F',_,rfl,(by (iterate 30 (try first | assumption | refine Heap.le_trans ?_ (by assumption)));first | done | assumption),by omega,vi (by omega),rfl,rfl,(g'.cons _).cons _,by rw [take_snoc ht,cloneTs_append,cloneTs,cloneTs];exact KC.snoc rfl hE2 hK2⟩
 -- end of the loops
def zeroT:Tr:=.mk 0 0 false [] [] [] []
theorem IsE.zero (h:Heap):IsE h [.int .i64 0,.int .i64 0,.bool false,.slice none 0 0,.slice none 0 0,.string (txt []),.slice none 0 0] zeroT:=
 IsE.mkK (a:=⟨none,0,0⟩) (b:=⟨none,0,0⟩) (s:=⟨none,0,0⟩) (by decide) (by decide) (IsVal.zero h) (by simp) (IsK.nil h)
theorem VE.zero (h:Heap):VE h (.agg #[.int .i64 0,.int .i64 0,.bool false,.slice none 0 0,.slice none 0 0,.string (txt []),.slice none 0 0]) zeroT:=
 ⟨0,0,false,⟨none,0,0⟩,⟨none,0,0⟩,[],⟨none,0,0⟩,rfl,IsE.zero h⟩
def ResT (h:Heap) (v:Value) (x:Tr × Nat):Prop:=∃a,v=.tuple #[a,.int .i64 x.2]∧VE h a x.1
def chkdT (t:Tr):Tr × Nat:=if ValT t then (cloneT t,0) else (zeroT,4)
set_option maxRecDepth 20000 in
set_option maxHeartbeats 1000000 in
theorem checked_ct (t:Tr) (h:Heap) (vs:List Value) (tb:Tb h) (w:IsE h vs t):Fn0 T F.expr_checked [.agg vs.toArray] h fun v h'=>ResT h' v (chkdT t):=by
 have c1:=fun h tb w=>Valid_ct t h vs tb w
 have c2:=fun h tb w (x:ValT t)=>clone_ct t h vs 1 tb w x.1
 have r1:ValT t→chkdT t=(cloneT t,0):=fun x=>if_pos x
 have r2:¬ValT t→chkdT t=(zeroT,4):=fun x=>if_neg x
 obtain ⟨R,hR⟩:∃R,R=chkdT t:=⟨_,rfl⟩
 rw [← hR] at r1 r2 ⊢
 obtain ⟨⟨op,arg,neg,l,m,name,ks⟩,ht⟩:∃u,u=t:=⟨_,rfl⟩
 obtain ⟨a,b,s,hvs,-⟩:=(ht.symm▸w:IsE h vs (.mk op arg neg l m name ks)).isK
 subst hvs
 refine fn0_of_codeI ok D.expr_checked rfl ?_
 conv=>whnf
 repeat ((first | refine opsI.step ?_ | refine codeI.step ?_);conv=>whnf)
 repeat' first | ((first | (show CallN _ _ _ _ _ _;first | (refine CallN.fn rfl (c1 _ (by assumption) (by assumption)) (fun v h' hl2 hr=>?_);subst hr) | (refine CallN.fn rfl (c2 _ (by (iterate 30 (try first | assumption | refine Tb.mono ?_ (by assumption)));first | done | assumption) (by (iterate 30 (try first | assumption | refine IsE.mono ?_ (by assumption)));first | done | assumption) (by assumption)) (fun v h' hl2 hr=>?_);obtain ⟨op2,ar2,ng2,nn2,dd2,nm2,ss2,rfl,hE2⟩:=hr)) | ((first | refine opsI.step ?_ | refine codeI.step ?_)) | intro (_:Nat) | (show LdN _ _ _ _ _;first | refine LdN.own 0 rfl rfl ?_ | refine LdN.own 1 rfl rfl ?_) | refine Sto.lit 0 rfl rfl rfl ?_) <;> (conv=>whnf)) | (show cnd _ _ _;first | (refine cnd_not ?_) | (refine cnd_dec (fun _=>?_) (fun _=>?_) <;> first | (exfalso;omega) | (conv=>whnf)))
 all_goals first
  | (rw [r1 (by assumption)];exact RetN.all ⟨_,rfl,op2,ar2,ng2,nn2,dd2,nm2,ss2,rfl,hE2⟩)
  | (rw [r2 (by assumption)];exact RetN.all ⟨_,rfl,VE.zero _⟩)
end Go.Proofs.YtbgicephinomlaaGreatDoor