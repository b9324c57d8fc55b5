/- The first case distinction resolved: both sides. -/
import Derived.Test.YtmblpmegfmgjgaaGreatDoorE47
set_option linter.unusedVariables false
set_option linter.unusedSimpArgs false
set_option maxHeartbeats 4000000
set_option maxRecDepth 20000
namespace Go.Proofs.YtmblpmegfmgjgaaGreatDoor
open Go Go.Vc Go.Dig
theorem resTs_found:∀{n:Nat} {ts:List Tr} {i:Nat} {t:Tr} {r:Tr × Tr × Tr},(∀(j:Nat) u,j<i→ts[j]?=some u→resT u=none)→ts[i]?=some t→resT t=some r→i<n→resTs n ts=some (i,r)
 | 0,_,_,_,_,_,_,_,h=>by omega
 | _+1,[],_,_,_,_,h,_,_=>by simp at h
 | n+1,u::ts,0,t,r,_,h,e,_=>by
  simp at h;subst h
  rw [resTs,e]
 | n+1,u::ts,i+1,t,r,g,h,e,hi=>by
  rw [resTs,g 0 u (by omega) rfl,resTs_found (n:=n) (ts:=ts) (i:=i) (fun j v a b=>g (j+1) v (by omega) (by simpa using b)) (by simpa using h) e (by omega)]
theorem resTs_nothing:∀{n:Nat} {ts:List Tr},(∀(j:Nat) u,j<n→ts[j]?=some u→resT u=none)→resTs n ts=none
 | 0,_,_=>by rw [resTs]
 | _+1,[],_=>by rw [resTs]
 | n+1,u::ts,g=>by
  rw [resTs,g 0 u (by omega) rfl,resTs_nothing (n:=n) (ts:=ts) fun j v a b=>g (j+1) v (by omega) (by simpa using b)]
def ResV (h:Heap) (v:Value) (R:Option (Tr × Tr × Tr)):Prop:=∃(c y n:Value) (b:Bool) (C Y N:Tr),v=.tuple #[c,y,n,.bool b]∧VE h c C∧VE h y Y∧VE h n N∧(b=true→R=some (C,Y,N))∧(b=false→R=none∧C=zeroT∧Y=zeroT∧N=zeroT)
def RResV (h:Heap) (v:Value) (R:Option (Tr × Tr × Tr)):Prop:=∃(c y n:Value) (b:Bool) (C Y N:Tr),v=.tuple #[.bool b,c,y,n]∧VE h c C∧VE h y Y∧VE h n N∧(b=true→R=some (C,Y,N))∧(b=false→R=none∧C=zeroT∧Y=zeroT∧N=zeroT)
theorem resolved_ct15 (op arg:Int) (neg:Bool) (l m name:List Nat) (ks:List Tr) (ih:∀u,szT u<szT (.mk op arg neg l m name ks)→∀(d:Nat),okT d u→∀(h:Heap) (vs:List Value),IsE h vs u→Fn0 T F.expr_resolved [.agg vs.toArray] h fun v h'=>ResV h' v (resT u))
  (d:Nat) (hok:okT d (.mk op arg neg l m name ks)) (h:Heap) (vs:List Value) (w:IsE h vs (.mk op arg neg l m name ks)) (o15:op=15):Fn0 T F.expr_resolved [.agg vs.toArray] h fun v h'=>ResV h' v (resT (.mk op arg neg l m name ks)):=by
  obtain ⟨a,b,s,rfl,ho,ha,hv,hb,hk⟩:=w.isK
  rw [okT] at hok
  obtain ⟨hd,hnb,hoks⟩:=hok
  have hkl:=hk.len
  have hkc:=hk.cap
  have hn1:=hnb.1
  have hks:ks.length≤3:=by
   have h2:=kidsN_le op
   omega
  have c3:=fun (i:Nat) (hi:i<ks.length) t h vs us w w'=>with_ct op arg neg l m name ks i hi hks t h vs us w w'
  have h3:ks.length=3:=by rw [o15] at hn1;have:kidsN 15=3:=rfl;omega
  have fk:∀(i:Nat) t r,i<1→ks[i]?=some t→(∀(j:Nat) u,j<i→ks[j]?=some u→resT u=none)→resT t=some r→resT (.mk op arg neg l m name ks)=some (r.1,.mk op arg neg l m name (ks.set i r.2.1),.mk op arg neg l m name (ks.set i r.2.2)):=fun i t r a b c e=>resT_kid (by rw [if_pos o15];exact resTs_found c b e a)
  have fn:(∀(j:Nat) u,j<1→ks[j]?=some u→resT u=none)→resT (.mk op arg neg l m name ks)=topT op ks:=fun g=>resT_top (by rw [if_pos o15];exact resTs_nothing g)
  have hkf:=hk.front (i:=1) (by omega)
  obtain ⟨R,hR⟩:∃R,R=resT (.mk op arg neg l m name ks):=⟨_,rfl⟩
  rw [← hR] at fk fn ⊢
  clear hR
  refine fn0_of_codeI ok D.expr_resolved rfl ?_
  conv=>whnf
  repeat ((first|refine opsI.step ?_|refine codeI.step ?_);conv=>whnf)
  repeat' first|((first|(show SeqN _ _ _ _ _ _ _;refine SeqN.go ?_)|(show CutA _ _ _ _ _ _;refine CutA.front 1 rfl (by omega) ?_)|((first|refine opsI.step ?_|refine codeI.step ?_))|intro (_:Nat)|refine Ld.own 3 rfl rfl ?_) <;> (conv=>whnf))|(refine cnd_eq (fun _=>?_) (fun _=>?_) <;> first|(exfalso;omega)|(conv=>whnf))
  rename_i b1 b2 b3 b4 xx
  refine LoopN.of (fun r ρ hx L=>∃(j:Nat) (X:Vc.Own),r=1-j∧h.le hx∧j≤1∧rd ρ 27=.int .i64 j∧L=X++((b4,.cells [.int .i64 0,.int .i64 0,.bool false,.slice none 0 0,.slice none 0 0,.string (txt []),.slice none 0 0].toArray Ty.api_Expr (0,0))::(b3,.cells [.int .i64 0,.int .i64 0,.bool false,.slice none 0 0,.slice none 0 0,.string (txt []),.slice none 0 0].toArray Ty.api_Expr (0,0))::(b2,.cells [.int .i64 0,.int .i64 0,.bool false,.slice none 0 0,.slice none 0 0,.string (txt []),.slice none 0 0].toArray Ty.api_Expr (0,0))::(b1,.cells [.int .i64 op,.int .i64 arg,.bool neg,a.val,b.val,.string (txt name),s.val].toArray Ty.api_Expr (0,0))::[])∧Hq (∀(i:Nat) t,i<j→ks[i]?=some t→resT t=none)) (1)
   ⟨0,[],rfl,Heap.le_refl _,Nat.zero_le _,rfl,rfl,⟨fun i t x=>absurd x (Nat.not_lt_zero _)⟩⟩ ?_
  conv=>whnf
  repeat intro _
  rename_i r hx L2 hI
  obtain ⟨j,X,rfl,hle,hj,e27,rfl,hq⟩:=hI
  conv at e27=>lhs;whnf
  subst e27
  have hkx:=hk.mono hle
  by_cases hjl:j=1
  ·have hR:=fn fun j' u x y=>hq.out j' u (by omega) y
   have o:=o15
   ·have hn1:ks.length=3:=by rw [o] at hn1;have hk0:kidsN 15=3:=rfl;omega
    obtain ⟨k0,e0⟩:∃k,ks[0]?=some k:=⟨_,List.getElem?_eq_getElem (by omega)⟩
    obtain ⟨k1,e1⟩:∃k,ks[1]?=some k:=⟨_,List.getElem?_eq_getElem (by omega)⟩
    obtain ⟨k2,e2⟩:∃k,ks[2]?=some k:=⟨_,List.getElem?_eq_getElem (by omega)⟩
    have hR2:R=some (k0,k1,k2):=by
     rw [hR,o]
     simp only [topT,List.getD_eq_getElem?_getD,e0,e1,e2]
     rfl
    conv=>whnf
    repeat ((first|refine opsI.step ?_|refine codeI.step ?_);conv=>whnf)
    repeat' first|((first|(refine ⟨fun _=>⟨HasLe.of_le (by first|exact Heap.le_refl _|assumption|exact Heap.le_trans (by assumption) (by assumption)),by repeat first|exact List.nil_sublist _|apply List.Sublist.cons_cons|refine List.Sublist.trans ?_ (List.sublist_append_right _ _)|apply List.Sublist.cons⟩,?_⟩)|(refine hld4 _ _ _ (by first|assumption|exact Heap.le_refl _) ?_)|(refine hld5 _ _ _ (by first|assumption|exact Heap.le_refl _) ?_)|(refine hld6 _ _ _ (by first|assumption|exact Heap.le_refl _) ?_)|((first|refine opsI.step ?_|refine codeI.step ?_))|(show DrawN _ _ _ _ _ _;refine DrawN.own [_] ((List.Sublist.cons _ (List.Sublist.cons _ (List.Sublist.cons _ (List.Sublist.cons_cons _ (List.nil_sublist _))))).trans (List.sublist_append_right _ _)) (by decide +kernel) ?_)|(show Ld _ _ _ _;first|refine Ld.tl3 (A:=[]) (F:=X) (G:=[_,_,_]) rfl ?_|refine Ld.own 0 rfl rfl ?_)|(show Idx _ _ _ _ _;first|refine Idx.kid hkx 0 k0 (by omega) e0 (fun ad4 op4 ar4 ng4 nn4 dd4 nm4 ss4 hE4 hld4=>?_)|refine Idx.kid hkx 1 k1 (by omega) e1 (fun ad5 op5 ar5 ng5 nn5 dd5 nm5 ss5 hE5 hld5=>?_)|refine Idx.kid hkx 2 k2 (by omega) e2 (fun ad6 op6 ar6 ng6 nn6 dd6 nm6 ss6 hE6 hld6=>?_))|(show Sto _ _ _ _;first|refine Sto.tl3 (A:=[]) (F:=X) (G:=[_,_]) rfl rfl ?_|refine Sto.tl3 (A:=[]) (F:=X) (G:=[_]) rfl rfl ?_|refine Sto.tl3 (A:=[]) (F:=X) (G:=[]) rfl rfl ?_)|(show LdN _ _ _ _ _;first|refine LdN.tl3 (A:=[]) (F:=X) (G:=[_,_]) rfl ?_|refine LdN.tl3 (A:=[]) (F:=X) (G:=[_]) rfl ?_|refine LdN.tl3 (A:=[]) (F:=X) (G:=[]) rfl ?_)) <;> (conv=>whnf))|(show cnd _ _ _;first|(refine cnd_lt (fun _=>?_) (fun _=>?_) <;> first|(exfalso;omega)|(conv=>whnf))|(refine cnd_eq (fun _=>?_) (fun _=>?_) <;> first|(exfalso;omega)|(conv=>whnf)))
    all_goals
     refine RetN.all (R:=fun v h'=>ResV h' v R) ?_
     exact ⟨_,_,_,true,k0,k1,k2,rfl,⟨op4,ar4,ng4,nn4,dd4,nm4,ss4,rfl,hE4.mono (by first|assumption|exact Heap.le_refl _)⟩,⟨op5,ar5,ng5,nn5,dd5,nm5,ss5,rfl,hE5.mono (by first|assumption|exact Heap.le_refl _)⟩,⟨op6,ar6,ng6,nn6,dd6,nm6,ss6,rfl,hE6.mono (by first|assumption|exact Heap.le_refl _)⟩,(fun _=>hR2),fun x=>by cases x⟩
  ·obtain ⟨t,ht⟩:∃t,ks[j]?=some t:=⟨_,List.getElem?_eq_getElem (by omega)⟩
   have c2:=fun h vs w=>ih t (szT_kid ht) (d+1) (okTs_get hoks ht) h vs w
   have c3:=c3 j (by omega)
   have fk:=fk j t
   have hqo:=hq.out
   obtain ⟨RK,hRK⟩:∃C,C=resT t:=⟨_,rfl⟩
   rw [← hRK] at c2 fk
   have wx:=w.mono hle
   conv=>whnf
   repeat ((first|refine opsI.step ?_|refine codeI.step ?_);conv=>whnf)
   repeat' first|((first|(show DrawN _ _ _ _ _ _;refine DrawN.run (by decide +kernel) ?_)|(show Idx _ _ _ _ _;(refine Idx.kid (hkf.mono hle) j t (by omega) (by rw [List.getElem?_take,if_pos (by omega)];exact ht) (fun ad op2 arg2 neg2 a2 b2 name2 s2 hE hld=>?_)))|refine hld _ _ _ (Heap.le_refl _) ?_|((first|refine opsI.step ?_|refine codeI.step ?_))|refine ⟨fun _=>HasLe.of_le (by assumption),?_⟩|refine ⟨fun hst=>(by cases (show true=false from hst)),?_⟩|intro (_:Nat)|(show CallN _ _ _ _ _ _;first|(refine CallN.fn rfl (c2 _ _ (by assumption)) (fun v h' hl2 hr=>?_);obtain ⟨_,_,_,bb,CC,YY,NN,rfl,⟨op4,ar4,ng4,nn4,dd4,nm4,ss4,rfl,hE4⟩,⟨op5,ar5,ng5,nn5,dd5,nm5,ss5,rfl,hE5⟩,⟨op6,ar6,ng6,nn6,dd6,nm6,ss6,rfl,hE6⟩,g1,g2⟩:=hr;have wx:=wx.mono hl2)|(refine CallN.fn rfl (c3 YY _ _ _ (by (iterate 30 try first|assumption|refine IsE.mono ?_ (by assumption));first|done|assumption) (by (iterate 30 try first|assumption|refine IsE.mono ?_ (by assumption));first|done|assumption)) (fun v h' hl2 hr=>?_);obtain ⟨op7,ar7,ng7,nn7,dd7,nm7,ss7,rfl,hE7⟩:=hr)|(refine CallN.fn rfl (c3 NN _ _ _ (by (iterate 30 try first|assumption|refine IsE.mono ?_ (by assumption));first|done|assumption) (by (iterate 30 try first|assumption|refine IsE.mono ?_ (by assumption));first|done|assumption)) (fun v h' hl2 hr=>?_);obtain ⟨op8,ar8,ng8,nn8,dd8,nm8,ss8,rfl,hE8⟩:=hr))|(show LdN _ _ _ _ _;first|refine LdN.tl3 (A:=[_,_,_,_]) (F:=X) (G:=[_,_,_]) rfl ?_|refine LdN.tl3 (A:=[_,_,_,_]) (F:=X) (G:=[_,_]) rfl ?_|refine LdN.tl3 (A:=[_,_,_,_]) (F:=X) (G:=[_]) rfl ?_|refine LdN.tl3 (A:=[_,_,_,_]) (F:=X) (G:=[]) rfl ?_|refine LdN.own 0 rfl rfl ?_|refine LdN.own 1 rfl rfl ?_|refine LdN.own 2 rfl rfl ?_)|(show Sto _ _ _ _;first|refine Sto.tl3 (A:=[_,_,_,_]) (F:=X) (G:=[_,_]) rfl rfl ?_|refine Sto.tl3 (A:=[_,_,_,_]) (F:=X) (G:=[_]) rfl rfl ?_|refine Sto.tl3 (A:=[_,_,_,_]) (F:=X) (G:=[]) rfl rfl ?_|refine Sto.lit 0 rfl rfl rfl ?_|refine Sto.lit 1 rfl rfl rfl ?_|refine Sto.lit 2 rfl rfl rfl ?_)|refine WrapN.i64 (by omega) (by omega) ?_) <;> (conv=>whnf))|(show cnd _ _ _;first|(refine cnd_lt (fun _=>?_) (fun _=>?_) <;> first|(exfalso;omega)|(conv=>whnf))|(refine cnd_bool (fun hb=>?_) (fun hb=>?_) <;> (first|cases hb|subst hb) <;> (conv=>whnf)))
   ·refine RetN.all (R:=fun v h'=>ResV h' v R) ?_
    exact ⟨_,_,_,true,CC,.mk op arg neg l m name (ks.set j YY),.mk op arg neg l m name (ks.set j NN),rfl,⟨op4,ar4,ng4,nn4,dd4,nm4,ss4,rfl,(by (iterate 30 try first|assumption|refine IsE.mono ?_ (by assumption));first|done|assumption)⟩,⟨op7,ar7,ng7,nn7,dd7,nm7,ss7,rfl,(by (iterate 30 try first|assumption|refine IsE.mono ?_ (by assumption));first|done|assumption)⟩,⟨op8,ar8,ng8,nn8,dd8,nm8,ss8,rfl,(by assumption)⟩,(fun _=>by rw [fk _ (by omega) ht hqo (g1 rfl)]),fun x=>by cases x⟩
   ·exact ⟨rfl,1-(j+1),by omega,j+1,_::_::_::_::X,rfl,(by (iterate 30 try first|assumption|refine Heap.le_trans ?_ (by assumption));first|done|assumption),by omega,vi (by omega),rfl,⟨fun i t' x y=>by
      rcases Nat.lt_succ_iff_lt_or_eq.1 x with x|rfl
      ·exact hqo i t' x y
      ·rw [ht] at y;cases y;rw [← hRK];exact (g2 rfl).1⟩⟩
theorem resolved_ctn (op arg:Int) (neg:Bool) (l m name:List Nat) (ks:List Tr) (ih:∀u,szT u<szT (.mk op arg neg l m name ks)→∀(d:Nat),okT d u→∀(h:Heap) (vs:List Value),IsE h vs u→Fn0 T F.expr_resolved [.agg vs.toArray] h fun v h'=>ResV h' v (resT u))
  (d:Nat) (hok:okT d (.mk op arg neg l m name ks)) (h:Heap) (vs:List Value) (w:IsE h vs (.mk op arg neg l m name ks)) (o15:¬op=15):Fn0 T F.expr_resolved [.agg vs.toArray] h fun v h'=>ResV h' v (resT (.mk op arg neg l m name ks)):=by
  obtain ⟨a,b,s,rfl,ho,ha,hv,hb,hk⟩:=w.isK
  rw [okT] at hok
  obtain ⟨hd,hnb,hoks⟩:=hok
  have hkl:=hk.len
  have hkc:=hk.cap
  have hn1:=hnb.1
  have hks:ks.length≤3:=by
   have h2:=kidsN_le op
   omega
  have c3:=fun (i:Nat) (hi:i<ks.length) t h vs us w w'=>with_ct op arg neg l m name ks i hi hks t h vs us w w'
  have fk:∀(i:Nat) t r,i<ks.length→ks[i]?=some t→(∀(j:Nat) u,j<i→ks[j]?=some u→resT u=none)→resT t=some r→resT (.mk op arg neg l m name ks)=some (r.1,.mk op arg neg l m name (ks.set i r.2.1),.mk op arg neg l m name (ks.set i r.2.2)):=fun i t r a b c e=>resT_kid (by rw [if_neg o15];exact resTs_found c b e a)
  have fn:(∀(j:Nat) u,j<ks.length→ks[j]?=some u→resT u=none)→resT (.mk op arg neg l m name ks)=topT op ks:=fun g=>resT_top (by rw [if_neg o15];exact resTs_nothing g)
  obtain ⟨R,hR⟩:∃R,R=resT (.mk op arg neg l m name ks):=⟨_,rfl⟩
  rw [← hR] at fk fn ⊢
  clear hR
  refine fn0_of_codeI ok D.expr_resolved rfl ?_
  conv=>whnf
  repeat ((first|refine opsI.step ?_|refine codeI.step ?_);conv=>whnf)
  repeat' first|((first|(show SeqN _ _ _ _ _ _ _;refine SeqN.go ?_)|((first|refine opsI.step ?_|refine codeI.step ?_))|intro (_:Nat)|refine Ld.own 3 rfl rfl ?_) <;> (conv=>whnf))|(refine cnd_eq (fun _=>?_) (fun _=>?_) <;> first|(exfalso;omega)|(conv=>whnf))
  rename_i b1 b2 b3 b4 xx
  refine LoopN.of (fun r ρ hx L=>∃(j:Nat) (X:Vc.Own),r=ks.length-j∧h.le hx∧j≤ks.length∧rd ρ 27=.int .i64 j∧L=X++((b4,.cells [.int .i64 0,.int .i64 0,.bool false,.slice none 0 0,.slice none 0 0,.string (txt []),.slice none 0 0].toArray Ty.api_Expr (0,0))::(b3,.cells [.int .i64 0,.int .i64 0,.bool false,.slice none 0 0,.slice none 0 0,.string (txt []),.slice none 0 0].toArray Ty.api_Expr (0,0))::(b2,.cells [.int .i64 0,.int .i64 0,.bool false,.slice none 0 0,.slice none 0 0,.string (txt []),.slice none 0 0].toArray Ty.api_Expr (0,0))::(b1,.cells [.int .i64 op,.int .i64 arg,.bool neg,a.val,b.val,.string (txt name),s.val].toArray Ty.api_Expr (0,0))::[])∧Hq (∀(i:Nat) t,i<j→ks[i]?=some t→resT t=none)) (ks.length)
   ⟨0,[],rfl,Heap.le_refl _,Nat.zero_le _,rfl,rfl,⟨fun i t x=>absurd x (Nat.not_lt_zero _)⟩⟩ ?_
  conv=>whnf
  repeat intro _
  rename_i r hx L2 hI
  obtain ⟨j,X,rfl,hle,hj,e27,rfl,hq⟩:=hI
  conv at e27=>lhs;whnf
  subst e27
  have hkx:=hk.mono hle
  by_cases hjl:j=ks.length
  ·have hR:=fn fun j' u x y=>hq.out j' u (by omega) y
   by_cases o12:op=12
   ·have o:=o12
    have hn1:ks.length=1:=by rw [o] at hn1;have hk0:kidsN 12=1:=rfl;omega
    obtain ⟨k0,e0⟩:∃k,ks[0]?=some k:=⟨_,List.getElem?_eq_getElem (by omega)⟩
    have hR2:R=some (k0,k0,nodeT 4 0 [k0]):=by
     rw [hR,o]
     simp only [topT,List.getD_eq_getElem?_getD,e0]
     rfl
    conv=>whnf
    repeat ((first|refine opsI.step ?_|refine codeI.step ?_);conv=>whnf)
    repeat' first|((first|(refine ⟨fun _=>⟨HasLe.of_le (by first|exact Heap.le_refl _|assumption|exact Heap.le_trans (by assumption) (by assumption)),by repeat first|exact List.nil_sublist _|apply List.Sublist.cons_cons|refine List.Sublist.trans ?_ (List.sublist_append_right _ _)|apply List.Sublist.cons⟩,?_⟩)|(refine hld4 _ _ _ (by first|assumption|exact Heap.le_refl _) ?_)|((first|refine opsI.step ?_|refine codeI.step ?_))|intro (_:Nat)|(show DrawN _ _ _ _ _ _;refine DrawN.own [_] (by exact List.Sublist.cons_cons _ (List.nil_sublist _)) (by decide +kernel) ?_)|(show Ld _ _ _ _;refine Ld.tl3 (A:=[]) (F:=X) (G:=[_,_,_]) rfl ?_)|(show LdN _ _ _ _ _;first|refine LdN.own 0 rfl rfl ?_|refine LdN.tl3 (A:=[_]) (F:=X) (G:=[_,_]) rfl ?_|refine LdN.tl3 (A:=[_]) (F:=X) (G:=[_]) rfl ?_|refine LdN.tl3 (A:=[_]) (F:=X) (G:=[]) rfl ?_)|(show Idx _ _ _ _ _;refine Idx.kid hkx 0 k0 (by omega) e0 (fun ad4 op4 ar4 ng4 nn4 dd4 nm4 ss4 hE4 hld4=>?_))|(show CallN _ _ _ _ _ _;(refine CallN.keep 0 rfl rfl (fun hl2=>?_);refine CallN.fn rfl (enode_ct 4 0 (by decide) (by decide) [k0] ⟨some ⟨_,0,none⟩,1,1⟩ _ (IsK.one (hE4.mono (by first|assumption|exact Heap.le_refl _)) rfl hl2)) (fun v h3 hl3 hr=>?_);obtain ⟨op9,ar9,ng9,nn9,dd9,nm9,ss9,rfl,hE9⟩:=hr))|(show Sto _ _ _ _;first|refine Sto.tl3 (A:=[_]) (F:=X) (G:=[_,_]) rfl rfl ?_|refine Sto.tl3 (A:=[_]) (F:=X) (G:=[_]) rfl rfl ?_|refine Sto.tl3 (A:=[_]) (F:=X) (G:=[]) rfl rfl ?_|refine Sto.lit 0 rfl rfl rfl ?_)) <;> (conv=>whnf))|(show cnd _ _ _;first|(refine cnd_lt (fun _=>?_) (fun _=>?_) <;> first|(exfalso;omega)|(conv=>whnf))|(refine cnd_eq (fun _=>?_) (fun _=>?_) <;> first|(exfalso;omega)|(conv=>whnf)))
    all_goals
     refine RetN.all (R:=fun v h'=>ResV h' v R) ?_
     exact ⟨_,_,_,true,k0,k0,nodeT 4 0 [k0],rfl,⟨op4,ar4,ng4,nn4,dd4,nm4,ss4,rfl,hE4.mono (by (iterate 30 try first|assumption|refine Heap.le_trans ?_ (by assumption));first|done|assumption)⟩,⟨op4,ar4,ng4,nn4,dd4,nm4,ss4,rfl,hE4.mono (by (iterate 30 try first|assumption|refine Heap.le_trans ?_ (by assumption));first|done|assumption)⟩,⟨op9,ar9,ng9,nn9,dd9,nm9,ss9,rfl,(by assumption)⟩,(fun _=>hR2),fun x=>by cases x⟩
   by_cases o13:op=13
   ·have o:=o13
    have hn1:ks.length=2:=by rw [o] at hn1;have hk0:kidsN 13=2:=rfl;omega
    obtain ⟨k0,e0⟩:∃k,ks[0]?=some k:=⟨_,List.getElem?_eq_getElem (by omega)⟩
    obtain ⟨k1,e1⟩:∃k,ks[1]?=some k:=⟨_,List.getElem?_eq_getElem (by omega)⟩
    have hR2:R=some (nodeT 6 0 [k1,k0],k0,k1):=by
     rw [hR,o]
     simp only [topT,List.getD_eq_getElem?_getD,e0,e1]
     rfl
    conv=>whnf
    repeat ((first|refine opsI.step ?_|refine codeI.step ?_);conv=>whnf)
    repeat' first|((first|(refine ⟨fun _=>⟨HasLe.of_le (by first|exact Heap.le_refl _|assumption|exact Heap.le_trans (by assumption) (by assumption)),by repeat first|exact List.nil_sublist _|apply List.Sublist.cons_cons|refine List.Sublist.trans ?_ (List.sublist_append_right _ _)|apply List.Sublist.cons⟩,?_⟩)|(refine hld4 _ _ _ (by first|assumption|exact Heap.le_refl _) ?_)|(refine hld5 _ _ _ (by first|assumption|exact Heap.le_refl _) ?_)|((first|refine opsI.step ?_|refine codeI.step ?_))|intro (_:Nat)|(show DrawN _ _ _ _ _ _;first|refine DrawN.own [_,_] (by exact List.Sublist.cons_cons _ (List.Sublist.cons_cons _ (List.nil_sublist _))) (by decide +kernel) ?_|refine DrawN.own [_] ((List.Sublist.cons _ (List.Sublist.cons _ (List.Sublist.cons _ (List.Sublist.cons_cons _ (List.nil_sublist _))))).trans (List.sublist_append_right _ _)) (by decide +kernel) ?_)|(show Ld _ _ _ _;first|refine Ld.tl3 (A:=[]) (F:=X) (G:=[_,_,_]) rfl ?_|refine Ld.own 0 rfl rfl ?_)|(show LdN _ _ _ _ _;first|refine LdN.own 0 rfl rfl ?_|refine LdN.own 1 rfl rfl ?_|refine LdN.tl3 (A:=[_,_]) (F:=X) (G:=[_,_]) rfl ?_|refine LdN.tl3 (A:=[_,_]) (F:=X) (G:=[_]) rfl ?_|refine LdN.tl3 (A:=[_,_]) (F:=X) (G:=[]) rfl ?_)|(show Idx _ _ _ _ _;first|refine Idx.kid hkx 0 k0 (by omega) e0 (fun ad4 op4 ar4 ng4 nn4 dd4 nm4 ss4 hE4 hld4=>?_)|refine Idx.kid hkx 1 k1 (by omega) e1 (fun ad5 op5 ar5 ng5 nn5 dd5 nm5 ss5 hE5 hld5=>?_))|(show CallN _ _ _ _ _ _;(refine CallN.keep 0 rfl rfl (fun hl2=>?_);refine CallN.fn rfl (enode_ct 6 0 (by decide) (by decide) [k1,k0] ⟨some ⟨_,0,none⟩,2,2⟩ _ (IsK.two (hE5.mono (by first|assumption|exact Heap.le_refl _)) (hE4.mono (by first|assumption|exact Heap.le_refl _)) rfl rfl hl2)) (fun v h3 hl3 hr=>?_);obtain ⟨op9,ar9,ng9,nn9,dd9,nm9,ss9,rfl,hE9⟩:=hr))|(show Sto _ _ _ _;first|refine Sto.tl3 (A:=[_,_]) (F:=X) (G:=[_,_]) rfl rfl ?_|refine Sto.tl3 (A:=[_,_]) (F:=X) (G:=[_]) rfl rfl ?_|refine Sto.tl3 (A:=[_,_]) (F:=X) (G:=[]) rfl rfl ?_|refine Sto.lit 0 rfl rfl rfl ?_|refine Sto.lit 1 rfl rfl rfl ?_)) <;> (conv=>whnf))|(show cnd _ _ _;first|(refine cnd_lt (fun _=>?_) (fun _=>?_) <;> first|(exfalso;omega)|(conv=>whnf))|(refine cnd_eq (fun _=>?_) (fun _=>?_) <;> first|(exfalso;omega)|(conv=>whnf)))|(refine Both.mk ?_ ?_ <;> (conv=>whnf))
    all_goals
     refine RetN.all (R:=fun v h'=>ResV h' v R) ?_
     exact ⟨_,_,_,true,nodeT 6 0 [k1,k0],k0,k1,rfl,⟨op9,ar9,ng9,nn9,dd9,nm9,ss9,rfl,(by assumption)⟩,⟨op4,ar4,ng4,nn4,dd4,nm4,ss4,rfl,hE4.mono (by (iterate 30 try first|assumption|refine Heap.le_trans ?_ (by assumption));first|done|assumption)⟩,⟨op5,ar5,ng5,nn5,dd5,nm5,ss5,rfl,hE5.mono (by (iterate 30 try first|assumption|refine Heap.le_trans ?_ (by assumption));first|done|assumption)⟩,(fun _=>hR2),fun x=>by cases x⟩
   by_cases o14:op=14
   ·have o:=o14
    have hn1:ks.length=2:=by rw [o] at hn1;have hk0:kidsN 14=2:=rfl;omega
    obtain ⟨k0,e0⟩:∃k,ks[0]?=some k:=⟨_,List.getElem?_eq_getElem (by omega)⟩
    obtain ⟨k1,e1⟩:∃k,ks[1]?=some k:=⟨_,List.getElem?_eq_getElem (by omega)⟩
    have hR2:R=some (nodeT 6 0 [k0,k1],k0,k1):=by
     rw [hR,o]
     simp only [topT,List.getD_eq_getElem?_getD,e0,e1]
     rfl
    conv=>whnf
    repeat ((first|refine opsI.step ?_|refine codeI.step ?_);conv=>whnf)
    repeat' first|((first|(refine ⟨fun _=>⟨HasLe.of_le (by first|exact Heap.le_refl _|assumption|exact Heap.le_trans (by assumption) (by assumption)),by repeat first|exact List.nil_sublist _|apply List.Sublist.cons_cons|refine List.Sublist.trans ?_ (List.sublist_append_right _ _)|apply List.Sublist.cons⟩,?_⟩)|(refine hld4 _ _ _ (by first|assumption|exact Heap.le_refl _) ?_)|(refine hld5 _ _ _ (by first|assumption|exact Heap.le_refl _) ?_)|((first|refine opsI.step ?_|refine codeI.step ?_))|intro (_:Nat)|(show DrawN _ _ _ _ _ _;first|refine DrawN.own [_,_] (by exact List.Sublist.cons_cons _ (List.Sublist.cons_cons _ (List.nil_sublist _))) (by decide +kernel) ?_|refine DrawN.own [_] ((List.Sublist.cons _ (List.Sublist.cons _ (List.Sublist.cons _ (List.Sublist.cons_cons _ (List.nil_sublist _))))).trans (List.sublist_append_right _ _)) (by decide +kernel) ?_)|(show Ld _ _ _ _;first|refine Ld.tl3 (A:=[]) (F:=X) (G:=[_,_,_]) rfl ?_|refine Ld.own 0 rfl rfl ?_)|(show LdN _ _ _ _ _;first|refine LdN.own 0 rfl rfl ?_|refine LdN.own 1 rfl rfl ?_|refine LdN.tl3 (A:=[_,_]) (F:=X) (G:=[_,_]) rfl ?_|refine LdN.tl3 (A:=[_,_]) (F:=X) (G:=[_]) rfl ?_|refine LdN.tl3 (A:=[_,_]) (F:=X) (G:=[]) rfl ?_)|(show Idx _ _ _ _ _;first|refine Idx.kid hkx 0 k0 (by omega) e0 (fun ad4 op4 ar4 ng4 nn4 dd4 nm4 ss4 hE4 hld4=>?_)|refine Idx.kid hkx 1 k1 (by omega) e1 (fun ad5 op5 ar5 ng5 nn5 dd5 nm5 ss5 hE5 hld5=>?_))|(show CallN _ _ _ _ _ _;(refine CallN.keep 0 rfl rfl (fun hl2=>?_);refine CallN.fn rfl (enode_ct 6 0 (by decide) (by decide) [k0,k1] ⟨some ⟨_,0,none⟩,2,2⟩ _ (IsK.two (hE4.mono (by first|assumption|exact Heap.le_refl _)) (hE5.mono (by first|assumption|exact Heap.le_refl _)) rfl rfl hl2)) (fun v h3 hl3 hr=>?_);obtain ⟨op9,ar9,ng9,nn9,dd9,nm9,ss9,rfl,hE9⟩:=hr))|(show Sto _ _ _ _;first|refine Sto.tl3 (A:=[_,_]) (F:=X) (G:=[_,_]) rfl rfl ?_|refine Sto.tl3 (A:=[_,_]) (F:=X) (G:=[_]) rfl rfl ?_|refine Sto.tl3 (A:=[_,_]) (F:=X) (G:=[]) rfl rfl ?_|refine Sto.lit 0 rfl rfl rfl ?_|refine Sto.lit 1 rfl rfl rfl ?_)) <;> (conv=>whnf))|(show cnd _ _ _;first|(refine cnd_lt (fun _=>?_) (fun _=>?_) <;> first|(exfalso;omega)|(conv=>whnf))|(refine cnd_eq (fun _=>?_) (fun _=>?_) <;> first|(exfalso;omega)|(conv=>whnf)))|(refine Both.mk ?_ ?_ <;> (conv=>whnf))
    all_goals
     refine RetN.all (R:=fun v h'=>ResV h' v R) ?_
     exact ⟨_,_,_,true,nodeT 6 0 [k0,k1],k0,k1,rfl,⟨op9,ar9,ng9,nn9,dd9,nm9,ss9,rfl,(by assumption)⟩,⟨op4,ar4,ng4,nn4,dd4,nm4,ss4,rfl,hE4.mono (by (iterate 30 try first|assumption|refine Heap.le_trans ?_ (by assumption));first|done|assumption)⟩,⟨op5,ar5,ng5,nn5,dd5,nm5,ss5,rfl,hE5.mono (by (iterate 30 try first|assumption|refine Heap.le_trans ?_ (by assumption));first|done|assumption)⟩,(fun _=>hR2),fun x=>by cases x⟩
   ·have hR2:R=none:=by rw [hR];exact topT_none.2 (by unfold roughB;omega)
    conv=>whnf
    repeat ((first|refine opsI.step ?_|refine codeI.step ?_);conv=>whnf)
    repeat' first|((first|(refine ⟨fun _=>⟨HasLe.of_le (by first|exact Heap.le_refl _|assumption|exact Heap.le_trans (by assumption) (by assumption)),by repeat first|exact List.nil_sublist _|apply List.Sublist.cons_cons|refine List.Sublist.trans ?_ (List.sublist_append_right _ _)|apply List.Sublist.cons⟩,?_⟩)|((first|refine opsI.step ?_|refine codeI.step ?_))|(show DrawN _ _ _ _ _ _;refine DrawN.own [_,_,_] ((List.Sublist.cons_cons _ (List.Sublist.cons_cons _ (List.Sublist.cons_cons _ (List.nil_sublist _)))).trans (List.sublist_append_right _ _)) (by decide +kernel) ?_)|(show Ld _ _ _ _;refine Ld.tl3 (A:=[]) (F:=X) (G:=[_,_,_]) rfl ?_)|(show LdN _ _ _ _ _;first|refine LdN.own 0 rfl rfl ?_|refine LdN.own 1 rfl rfl ?_|refine LdN.own 2 rfl rfl ?_|refine LdN.tl3 (A:=[]) (F:=X) (G:=[_,_]) rfl ?_|refine LdN.tl3 (A:=[]) (F:=X) (G:=[_]) rfl ?_|refine LdN.tl3 (A:=[]) (F:=X) (G:=[]) rfl ?_)|(show Sto _ _ _ _;first|refine Sto.tl3 (A:=[]) (F:=X) (G:=[_,_]) rfl rfl ?_|refine Sto.tl3 (A:=[]) (F:=X) (G:=[_]) rfl rfl ?_|refine Sto.tl3 (A:=[]) (F:=X) (G:=[]) rfl rfl ?_)) <;> (conv=>whnf))|(show cnd _ _ _;first|(refine cnd_lt (fun _=>?_) (fun _=>?_) <;> first|(exfalso;omega)|(conv=>whnf))|(refine cnd_eq (fun _=>?_) (fun _=>?_) <;> first|(exfalso;omega)|(conv=>whnf)))
    refine RetN.all (R:=fun v h'=>ResV h' v R) ?_
    exact ⟨_,_,_,false,zeroT,zeroT,zeroT,rfl,VE.zero _,VE.zero _,VE.zero _,(fun x=>by cases x),fun _=>⟨hR2,rfl,rfl,rfl⟩⟩
  ·obtain ⟨t,ht⟩:∃t,ks[j]?=some t:=⟨_,List.getElem?_eq_getElem (by omega)⟩
   have c2:=fun h vs w=>ih t (szT_kid ht) (d+1) (okTs_get hoks ht) h vs w
   have c3:=c3 j (by omega)
   have fk:=fk j t
   have hqo:=hq.out
   obtain ⟨RK,hRK⟩:∃C,C=resT t:=⟨_,rfl⟩
   rw [← hRK] at c2 fk
   have wx:=w.mono hle
   conv=>whnf
   repeat ((first|refine opsI.step ?_|refine codeI.step ?_);conv=>whnf)
   repeat' first|((first|(show DrawN _ _ _ _ _ _;refine DrawN.run (by decide +kernel) ?_)|(show Idx _ _ _ _ _;refine Idx.kid hkx j t (by omega) ht (fun ad op2 arg2 neg2 a2 b2 name2 s2 hE hld=>?_))|refine hld _ _ _ (Heap.le_refl _) ?_|((first|refine opsI.step ?_|refine codeI.step ?_))|refine ⟨fun _=>HasLe.of_le (by assumption),?_⟩|refine ⟨fun hst=>(by cases (show true=false from hst)),?_⟩|intro (_:Nat)|(show CallN _ _ _ _ _ _;first|(refine CallN.fn rfl (c2 _ _ (by assumption)) (fun v h' hl2 hr=>?_);obtain ⟨_,_,_,bb,CC,YY,NN,rfl,⟨op4,ar4,ng4,nn4,dd4,nm4,ss4,rfl,hE4⟩,⟨op5,ar5,ng5,nn5,dd5,nm5,ss5,rfl,hE5⟩,⟨op6,ar6,ng6,nn6,dd6,nm6,ss6,rfl,hE6⟩,g1,g2⟩:=hr;have wx:=wx.mono hl2)|(refine CallN.fn rfl (c3 YY _ _ _ (by (iterate 30 try first|assumption|refine IsE.mono ?_ (by assumption));first|done|assumption) (by (iterate 30 try first|assumption|refine IsE.mono ?_ (by assumption));first|done|assumption)) (fun v h' hl2 hr=>?_);obtain ⟨op7,ar7,ng7,nn7,dd7,nm7,ss7,rfl,hE7⟩:=hr)|(refine CallN.fn rfl (c3 NN _ _ _ (by (iterate 30 try first|assumption|refine IsE.mono ?_ (by assumption));first|done|assumption) (by (iterate 30 try first|assumption|refine IsE.mono ?_ (by assumption));first|done|assumption)) (fun v h' hl2 hr=>?_);obtain ⟨op8,ar8,ng8,nn8,dd8,nm8,ss8,rfl,hE8⟩:=hr))|(show LdN _ _ _ _ _;first|refine LdN.tl3 (A:=[_,_,_,_]) (F:=X) (G:=[_,_,_]) rfl ?_|refine LdN.tl3 (A:=[_,_,_,_]) (F:=X) (G:=[_,_]) rfl ?_|refine LdN.tl3 (A:=[_,_,_,_]) (F:=X) (G:=[_]) rfl ?_|refine LdN.tl3 (A:=[_,_,_,_]) (F:=X) (G:=[]) rfl ?_|refine LdN.own 0 rfl rfl ?_|refine LdN.own 1 rfl rfl ?_|refine LdN.own 2 rfl rfl ?_)|(show Sto _ _ _ _;first|refine Sto.tl3 (A:=[_,_,_,_]) (F:=X) (G:=[_,_]) rfl rfl ?_|refine Sto.tl3 (A:=[_,_,_,_]) (F:=X) (G:=[_]) rfl rfl ?_|refine Sto.tl3 (A:=[_,_,_,_]) (F:=X) (G:=[]) rfl rfl ?_|refine Sto.lit 0 rfl rfl rfl ?_|refine Sto.lit 1 rfl rfl rfl ?_|refine Sto.lit 2 rfl rfl rfl ?_)|refine WrapN.i64 (by omega) (by omega) ?_) <;> (conv=>whnf))|(show cnd _ _ _;first|(refine cnd_lt (fun _=>?_) (fun _=>?_) <;> first|(exfalso;omega)|(conv=>whnf))|(refine cnd_bool (fun hb=>?_) (fun hb=>?_) <;> (first|cases hb|subst hb) <;> (conv=>whnf)))
   ·refine RetN.all (R:=fun v h'=>ResV h' v R) ?_
    exact ⟨_,_,_,true,CC,.mk op arg neg l m name (ks.set j YY),.mk op arg neg l m name (ks.set j NN),rfl,⟨op4,ar4,ng4,nn4,dd4,nm4,ss4,rfl,(by (iterate 30 try first|assumption|refine IsE.mono ?_ (by assumption));first|done|assumption)⟩,⟨op7,ar7,ng7,nn7,dd7,nm7,ss7,rfl,(by (iterate 30 try first|assumption|refine IsE.mono ?_ (by assumption));first|done|assumption)⟩,⟨op8,ar8,ng8,nn8,dd8,nm8,ss8,rfl,(by assumption)⟩,(fun _=>by rw [fk _ (by omega) ht hqo (g1 rfl)]),fun x=>by cases x⟩
   ·exact ⟨rfl,ks.length-(j+1),by omega,j+1,_::_::_::_::X,rfl,(by (iterate 30 try first|assumption|refine Heap.le_trans ?_ (by assumption));first|done|assumption),by omega,vi (by omega),rfl,⟨fun i t' x y=>by
      rcases Nat.lt_succ_iff_lt_or_eq.1 x with x|rfl
      ·exact hqo i t' x y
      ·rw [ht] at y;cases y;rw [← hRK];exact (g2 rfl).1⟩⟩
theorem resolved_ct:∀(t:Tr) (d:Nat),okT d t→∀(h:Heap) (vs:List Value),IsE h vs t→Fn0 T F.expr_resolved [.agg vs.toArray] h fun v h'=>ResV h' v (resT t):=by
 refine tree_ind fun t ih=>?_
 intro d hok h vs w
 obtain ⟨op,arg,neg,l,m,name,ks⟩:=t
 by_cases o15:op=15
 ·exact resolved_ct15 op arg neg l m name ks ih d hok h vs w o15
 ·exact resolved_ctn op arg neg l m name ks ih d hok h vs w o15
end Go.Proofs.YtmblpmegfmgjgaaGreatDoor