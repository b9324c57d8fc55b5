/- Subst: the document's side; the law. -/
import Derived.Test.YtmblpmegfmgjgaaGreatDoorE53
set_option linter.unusedVariables false
set_option linter.unusedSimpArgs false
namespace Go.Proofs.YtmblpmegfmgjgaaGreatDoor
open Go Go.Vc Go.Dig
set_option maxRecDepth 20000 in
set_option maxHeartbeats 4000000 in
theorem RSubst_ct (bs:List (List Nat × Tr)) (hbl:bs.length≤1099511627776) (sb:Sl) (t:Tr) (h:Heap) (vs:List Value) (wb:IsB h sb bs) (w:IsE h vs t):Fn0 T F.ref04_Subst [.agg vs.toArray,sb.val] h fun v h'=>ResT h' v (substY bs t):=by
 have c1:=fun u h vs w=>RValid_ct u h vs w
 have c2:=fun h n hn=>RIsName_any h n hn
 have c4:=fun h wb w (x:ValT t∧ValB bs)=>subst_ct bs hbl sb t h vs 1 wb w x.1.1
 have c5:=fun h vs w=>Rfits_ct (rplT (byR bs) t) h vs w
 have r0:¬ValT t→substY bs t=(zeroT,40):=fun x=>substY_no fun y=>x y.1
 have r1:∀(j:Nat) n u,bs[j]?=some (n,u)→¬ValT u→substY bs t=(zeroT,40):=fun j n u hj x=>substY_no fun y=>x (y.2 _ (List.mem_of_getElem? hj))
 have r2:ValT t∧ValB bs→∀(j:Nat) n u,bs[j]?=some (n,u)→¬IsNm n→substY bs t=(zeroT,41):=fun v j n u hj x=>substY_nm v fun y=>x (y.1 _ (List.mem_of_getElem? hj))
 have r3:ValT t∧ValB bs→∀(i j:Nat) n n' u u',i<j→bs[i]?=some (n',u')→bs[j]?=some (n,u)→n'=n→substY bs t=(zeroT,41):=fun v i j n n' u u' hij hi hj e=>substY_nm v fun y=>by
  have h1:(bs.map (·.1))[i]?=some n':=by rw [List.getElem?_map,hi];rfl
  have h2:(bs.map (·.1))[j]?=some n:=by rw [List.getElem?_map,hj];rfl
  obtain ⟨g1,k1⟩:=List.getElem?_eq_some_iff.1 h1
  obtain ⟨g2,k2⟩:=List.getElem?_eq_some_iff.1 h2
  have:=(List.nodup_iff_pairwise_ne.1 y.2)
  have:=List.pairwise_iff_getElem.1 this i j g1 g2 hij
  rw [k1,k2] at this
  exact this e
 have r4:ValT t∧ValB bs→NmsB bs→ValT (rplT (byR bs) t)→substY bs t=(rplT (byR bs) t,0):=substY_ok
 have r5:ValT t∧ValB bs→NmsB bs→¬ValT (rplT (byR bs) t)→substY bs t=(zeroT,4):=substY_big
 obtain ⟨R,hR⟩:∃R,R=substY bs t:=⟨_,rfl⟩
 obtain ⟨P,hP⟩:∃P,P=rplT (byR bs) t:=⟨_,rfl⟩
 rw [← hP] at c4 c5 r4 r5
 rw [← hR] at r0 r4 r5 ⊢
 simp only [← hR] at r1 r2 r3
 clear hR hP
 have hsl:=wb.len
 obtain ⟨⟨op,arg,neg,l,m,name,ks⟩,ht⟩:∃x,x=t:=⟨_,rfl⟩
 obtain ⟨a,b,s,hvs,-⟩:=(ht.symm▸w:IsE h vs (.mk op arg neg l m name ks)).isK
 subst hvs
 refine fn0_of_codeI ok D.ref04_Subst rfl ?_
 conv=>whnf
 repeat ((first | refine opsI.step ?_ | refine codeI.step ?_);conv=>whnf)
 repeat' first | ((first | (show CallN _ _ _ _ _ _;(refine CallN.fn rfl (c1 _ _ _ (by assumption)) (fun v h' hl2 hr=>?_);subst hr)) | ((first | refine opsI.step ?_ | refine codeI.step ?_)) | intro (_:Nat) | (show LdN _ _ _ _ _;first | refine LdN.own 0 rfl rfl ?_ | refine LdN.own 1 rfl rfl ?_) | refine Sto.lit 0 rfl rfl rfl ?_) <;> (conv=>whnf)) | (show cnd _ _ _;first | (refine cnd_not ?_) | (refine cnd_dec (fun _=>?_) (fun _=>?_) <;> first | (exfalso;omega) | (conv=>whnf)))
 all_goals try (rw [r0 (by assumption)];exact RetN.all ⟨_,rfl,VE.zero _⟩)
 have hvt:ValT t:=by assumption
 refine LoopN.keepL (fun r ρ hx=>∃j:Nat,r=bs.length-j∧j≤bs.length∧rd ρ 6=.int .i64 j∧Hq (ValB (bs.take j))) bs.length ⟨0,rfl,Nat.zero_le _,rfl,⟨ValB_nil⟩⟩ ?_
 conv=>whnf
 repeat intro _
 rename_i r hx hle hI
 obtain ⟨j,rfl,hj,e6,hq⟩:=hI
 conv at e6=>lhs;whnf
 subst e6
 have hle1:=Heap.le_trans hl2 hle
 by_cases hjl:j=bs.length
 ·subst hjl
  have hqv:=hq.out
  rw [List.take_length] at hqv
  have hv:ValT t∧ValB bs:=⟨hvt,hqv⟩
  replace r2:=r2 hv
  replace r3:=r3 hv
  replace r4:=r4 hv
  replace r5:=r5 hv
  clear r0 r1 hq hqv
  conv=>whnf
  repeat ((first | refine opsI.step ?_ | refine codeI.step ?_);conv=>whnf)
  repeat' first | ((first | ((first | refine opsI.step ?_ | refine codeI.step ?_))) <;> (conv=>whnf)) | (refine cnd_lt (fun _=>?_) (fun _=>?_) <;> first | (exfalso;omega) | (conv=>whnf))
  refine LoopN.keepL (fun r ρ hx=>∃i:Nat,r=bs.length-i∧i≤bs.length∧rd ρ 7=.int .i64 i∧Hq (NmsB (bs.take i))) bs.length ⟨0,rfl,Nat.zero_le _,rfl,⟨NmsB_nil⟩⟩ ?_
  conv=>whnf
  repeat intro _
  rename_i r2' hy hle3 hI
  obtain ⟨i,rfl,hi,e7,hq⟩:=hI
  conv at e7=>lhs;whnf
  subst e7
  have hle2:=Heap.le_trans hle1 hle3
  by_cases hil:i=bs.length
  ·subst hil
   have hqn:=hq.out
   rw [List.take_length] at hqn
   replace r4:=r4 hqn
   replace r5:=r5 hqn
   conv=>whnf
   repeat ((first | refine opsI.step ?_ | refine codeI.step ?_);conv=>whnf)
   repeat' first | ((first | (show CallN _ _ _ _ _ _;first | (refine CallN.fn rfl (c4 _ (wb.mono (by assumption)) (by (iterate 30 (try first | assumption | refine IsE.mono ?_ (by assumption)));first | done | assumption) hv) (fun v h' hl2 hr=>?_);obtain ⟨op2,ar2,ng2,nn2,dd2,nm2,ss2,rfl,hE2⟩:=hr) | (refine CallN.fn rfl (c5 _ _ (by assumption)) (fun v h' hl2 hr=>?_);subst hr)) | ((first | refine opsI.step ?_ | refine codeI.step ?_)) | intro (_:Nat) | (show LdN _ _ _ _ _;first | refine LdN.own 0 rfl rfl ?_ | refine LdN.own 1 rfl rfl ?_) | (show Sto _ _ _ _;first | refine Sto.lit 0 rfl rfl rfl ?_ | refine Sto.lit 1 rfl rfl rfl ?_)) <;> (conv=>whnf)) | (show cnd _ _ _;first | (refine cnd_lt (fun _=>?_) (fun _=>?_) <;> first | (exfalso;omega) | (conv=>whnf)) | (refine cnd_not ?_) | (refine cnd_dec (fun _=>?_) (fun _=>?_) <;> first | (exfalso;omega) | (conv=>whnf)))
   all_goals first
    | (rw [r5 (by assumption)];exact RetN.all ⟨_,rfl,VE.zero _⟩)
    | (rw [r4 (by assumption)];exact RetN.all ⟨_,rfl,op2,ar2,ng2,nn2,dd2,nm2,ss2,rfl,(by (iterate 30 (try first | assumption | refine IsE.mono ?_ (by assumption)));first | done | assumption)⟩)
  ·obtain ⟨⟨n,u⟩,hu⟩:∃x,bs[i]?=some x:=⟨_,List.getElem?_eq_getElem (by omega)⟩
   have wbx:=wb.mono hle2
   have hnb:∀y∈n,y<256:=by
    rcases wb.mem with e | ⟨bl,off,c,T,fz,e1,e2,e3⟩
    ·rw [e] at hu;simp at hu
    ·exact (IsBs.get e3 hu).2.1
   have c2:=fun h=>c2 h n hnb
   replace r2:=r2 i n u hu
   have r3:=fun k n' u' a b=>r3 k i n n' u u' a b hu
   have htk:=take_snoc hu
   clear r4 r5 c1 c4 c5
   conv=>whnf
   repeat ((first | refine opsI.step ?_ | refine codeI.step ?_);conv=>whnf)
   repeat' first | ((first | (show Idx _ _ _ _ _;refine Idx.bind wbx i n u (by omega) hu (fun bl off op2 arg2 neg2 a2 b2 name2 s2 hnn hE h1 h2=>?_)) | (show Ld _ _ _ _;refine Ld.of (h1 _ _ (Heap.le_refl _)) ?_) | (show CallN _ _ _ _ _ _;(refine CallN.fn rfl (c2 _) (fun v h' hl2 hr=>?_);subst hr)) | ((first | refine opsI.step ?_ | refine codeI.step ?_)) | refine LdN.own 0 rfl rfl ?_ | refine Sto.lit 0 rfl rfl rfl ?_) <;> (conv=>whnf)) | (show cnd _ _ _;first | (refine cnd_lt (fun _=>?_) (fun _=>?_) <;> first | (exfalso;omega) | (conv=>whnf)) | (refine cnd_not ?_) | (refine cnd_dec (fun _=>?_) (fun _=>?_) <;> first | (exfalso;omega) | (conv=>whnf)))
   all_goals try (rw [r2 (by assumption)];exact RetN.all ⟨_,rfl,VE.zero _⟩)
   have hnm:IsNm n:=by assumption
   refine LoopN.keepL (fun r ρ hx=>∃k:Nat,r=i-k∧k≤i∧rd ρ 8=.int .i64 k∧Hq (∀(q:Nat) n' u',q<k→bs[q]?=some (n',u')→n'≠n)) i ⟨0,rfl,Nat.zero_le _,rfl,⟨fun q n' u' x=>absurd x (Nat.not_lt_zero _)⟩⟩ ?_
   conv=>whnf
   repeat intro _
   rename_i r3' hz hle4 hI
   obtain ⟨k,rfl,hk,e8,hq2⟩:=hI
   conv at e8=>lhs;whnf
   subst e8
   have hle5:=Heap.le_trans (Heap.le_trans hle2 hl2) hle4
   by_cases hkl:k=i
   ·subst hkl
    have hn2:NmsB (bs.take (k+1)):=by
     rw [htk]
     refine NmsB_snoc.2 ⟨hq.out,hnm,fun x=>?_⟩
     obtain ⟨⟨n',u'⟩,hm,e⟩:=List.mem_map.1 x
     obtain ⟨q,hq1,hq3⟩:=List.mem_take_iff_getElem.1 hm
     exact hq2.out q n' u' (by omega) (by rw [List.getElem?_eq_getElem (by omega),hq3]) e
    conv=>whnf
    repeat ((first | refine opsI.step ?_ | refine codeI.step ?_);conv=>whnf)
    repeat' first | ((first | ((first | refine opsI.step ?_ | refine codeI.step ?_)) | refine WrapN.i64 (by omega) (by omega) ?_) <;> (conv=>whnf)) | (refine cnd_lt (fun _=>?_) (fun _=>?_) <;> first | (exfalso;omega) | (conv=>whnf))
    exact ⟨rfl,bs.length-(k+1),by omega,Heap.le_trans (Heap.le_trans hle3 hl2) hle4,rfl,k+1,rfl,by omega,vi (by omega),⟨hn2⟩⟩
   ·obtain ⟨⟨n',u'⟩,hu'⟩:∃x,bs[k]?=some x:=⟨_,List.getElem?_eq_getElem (by omega)⟩
    have wbz:=wb.mono hle5
    have hnb':∀y∈n',y<256:=by
     rcases wb.mem with e | ⟨bl,off,c,T,fz,e1,e2,e3⟩
     ·rw [e] at hu';simp at hu'
     ·exact (IsBs.get e3 hu').2.1
    replace r3:=r3 k n' u' (by omega) hu'
    conv=>whnf
    repeat ((first | refine opsI.step ?_ | refine codeI.step ?_);conv=>whnf)
    repeat' first | ((first | (show DrawN _ _ _ _ _ _;refine DrawN.run (by decide +kernel) ?_) | (show Idx _ _ _ _ _;first | refine Idx.bind wbz k n' u' (by omega) hu' (fun blk offk op2k arg2k neg2k a2k b2k name2k s2k hnnk hEk h1k h2k=>?_) | refine Idx.bind wbz i n u (by omega) hu (fun blz offz op2z arg2z neg2z a2z b2z name2z s2z hnnz hEz h1z h2z=>?_)) | (show Ld _ _ _ _;first | refine Ld.of (h1k _ _ (Heap.le_refl _)) ?_ | refine Ld.of (h1z _ _ (Heap.le_refl _)) ?_) | ((first | refine opsI.step ?_ | refine codeI.step ?_)) | refine WrapN.i64 (by omega) (by omega) ?_ | refine LdN.own 0 rfl rfl ?_ | refine Sto.lit 0 rfl rfl rfl ?_) <;> (conv=>whnf)) | (show cnd _ _ _;first | (refine cnd_txt hnb' hnb (fun _=>?_) (fun _=>?_) <;> (conv=>whnf)) | (refine cnd_lt (fun _=>?_) (fun _=>?_) <;> first | (exfalso;omega) | (conv=>whnf)))
    ·rw [r3 (by assumption)];exact RetN.all ⟨_,rfl,VE.zero _⟩
    ·have hne:n'≠n:=by assumption
     exact ⟨rfl,i-(k+1),by omega,(by assumption),rfl,k+1,rfl,by omega,vi (by omega),⟨fun q a b x y=>by
       rcases Nat.lt_succ_iff_lt_or_eq.1 x with x | rfl
       ·exact hq2.out q a b x y
       ·rw [hu'] at y;cases y;exact hne⟩⟩
 ·obtain ⟨⟨n,u⟩,hu⟩:∃x,bs[j]?=some x:=⟨_,List.getElem?_eq_getElem (by omega)⟩
  have wbx:=wb.mono hle1
  have htk:=take_snoc hu
  replace r1:=r1 j n u hu
  clear r0 r2 r3 r4 r5 c2 c4 c5
  conv=>whnf
  repeat ((first | refine opsI.step ?_ | refine codeI.step ?_);conv=>whnf)
  repeat' first | ((first | (show Idx _ _ _ _ _;refine Idx.bind wbx j n u (by omega) hu (fun bl off op2 arg2 neg2 a2 b2 name2 s2 hnn hE h1 h2=>?_)) | (show LdN _ _ _ _ _;first | refine LdN.has7 _ rfl (fun i v hv=>h2 _ _ i v (Heap.le_refl _) hv) ?_ | refine LdN.own 0 rfl rfl ?_) | (show CallN _ _ _ _ _ _;(refine CallN.fn rfl (c1 u _ _ (by assumption)) (fun v h' hl2 hr=>?_);subst hr)) | ((first | refine opsI.step ?_ | refine codeI.step ?_)) | refine WrapN.i64 (by omega) (by omega) ?_ | refine Sto.lit 0 rfl rfl rfl ?_) <;> (conv=>whnf)) | (show cnd _ _ _;first | (refine cnd_lt (fun _=>?_) (fun _=>?_) <;> first | (exfalso;omega) | (conv=>whnf)) | (refine cnd_not ?_) | (refine cnd_dec (fun _=>?_) (fun _=>?_) <;> first | (exfalso;omega) | (conv=>whnf)))
  ·exact ⟨rfl,bs.length-(j+1),by omega,(by (iterate 30 (try first | assumption | refine Heap.le_trans ?_ (by assumption)));first | done | assumption),rfl,j+1,rfl,by omega,vi (by omega),⟨by rw [htk];exact ValB_snoc.2 ⟨hq.out,by assumption⟩⟩⟩
  ·rw [r1 (by assumption)];exact RetN.all ⟨_,rfl,VE.zero _⟩
set_option maxRecDepth 20000 in
set_option maxHeartbeats 1000000 in
theorem Subst_law (h:Heap) (tb:Tb h) (pw:Pw h) (t:Tr) (vs:List Value) (w:IsE h vs t) (sb:Sl) (bs:List (List Nat × Tr)) (wb:IsB h sb bs) (hbl:bs.length≤1099511627776):Fn0 T F.law04_ExprSubst [.agg vs.toArray,sb.val] h fun v h'=>v=.bool true:=by
 have c1:=fun h tb wb w=>Subst_ct bs hbl sb t h vs tb wb w
 have c2:=fun h wb w=>RSubst_ct bs hbl sb t h vs wb w
 have c9:=fun h tb pw=>sane_ct h tb pw
 have ag:=subst_agree bs t
 obtain ⟨⟨X1,X2⟩,hX⟩:∃X,X=substX bs t:=⟨_,rfl⟩
 obtain ⟨⟨Y1,Y2⟩,hY⟩:∃X,X=substY bs t:=⟨_,rfl⟩
 rw [← hX] at c1 ag
 rw [← hY] at c2 ag
 replace c1:∀h,Tb h→IsB h sb bs→IsE h vs t→Fn0 T F.expr_Subst [.agg vs.toArray,sb.val] h fun v h'=>∃a,v=.tuple #[a,.int .i64 X2]∧VE h' a X1:=c1
 replace c2:∀h,IsB h sb bs→IsE h vs t→Fn0 T F.ref04_Subst [.agg vs.toArray,sb.val] h fun v h'=>∃a,v=.tuple #[a,.int .i64 Y2]∧VE h' a Y1:=c2
 have c3:=fun h vs us w w'=>agrees_ct X1 Y1 X2 Y2 ag h vs us w w'
 clear ag hX hY
 obtain ⟨⟨op,arg,neg,l,m,name,ks⟩,ht⟩:∃x,x=t:=⟨_,rfl⟩
 obtain ⟨a,b,s,hvs,-⟩:=(ht.symm▸w:IsE h vs (.mk op arg neg l m name ks)).isK
 subst hvs
 refine fn0_of_codeI ok D.law04_ExprSubst rfl ?_
 conv=>whnf
 repeat ((first | refine opsI.step ?_ | refine codeI.step ?_);conv=>whnf)
 repeat' first | ((first | (show CallN _ _ _ _ _ _;first | (refine CallN.fn rfl (c1 _ (by assumption) (wb.mono (by (iterate 30 (try first | assumption | exact Heap.le_refl _));first | done | assumption)) (by assumption)) (fun v h' hl2 hr=>?_);obtain ⟨_,rfl,op4,ar4,ng4,nn4,dd4,nm4,ss4,rfl,hE4⟩:=hr) | (refine CallN.fn rfl (c2 _ (wb.mono (by assumption)) (by (iterate 30 (try first | assumption | refine IsE.mono ?_ (by assumption)));first | done | assumption)) (fun v h' hl2 hr=>?_);obtain ⟨_,rfl,op5,ar5,ng5,nn5,dd5,nm5,ss5,rfl,hE5⟩:=hr) | (refine CallN.fn rfl (c3 _ _ _ (by (iterate 30 (try first | assumption | refine IsE.mono ?_ (by assumption)));first | done | assumption) (by assumption)) (fun v h' hl2 hr=>?_);subst hr) | (refine CallN.fn rfl (c9 _ (by (iterate 30 (try first | assumption | refine Tb.mono ?_ (by assumption)));first | done | assumption) (by iterate 9 (try first | assumption | refine Pw.mono ?_ (by assumption)))) (fun v h' hl2 hr=>?_);subst hr)) | ((first | refine opsI.step ?_ | refine codeI.step ?_)) | intro (_:Nat) | (show LdN _ _ _ _ _;first | refine LdN.own 0 rfl rfl ?_ | refine LdN.own 1 rfl rfl ?_) | refine Sto.lit 0 rfl rfl rfl ?_) <;> (conv=>whnf))
 all_goals exact RetN.all rfl
end Go.Proofs.YtmblpmegfmgjgaaGreatDoor