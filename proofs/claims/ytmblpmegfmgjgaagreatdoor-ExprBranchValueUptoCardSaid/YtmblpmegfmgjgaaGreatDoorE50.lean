/- Branch on both sides, and its laws. -/
import Derived.Test.YtmblpmegfmgjgaaGreatDoorE49
set_option linter.unusedVariables false
set_option linter.unusedSimpArgs false
set_option maxHeartbeats 2000000
set_option maxRecDepth 20000
namespace Go.Proofs.YtmblpmegfmgjgaaGreatDoor
open Go Go.Vc Go.Dig
def brT (cl:Tr→Tr) (t:Tr):Tr × Tr × Tr × Nat:=
 if ValT t then match resT t with
  | none=>(zeroT,zeroT,zeroT,42)
  | some (c,y,n)=>if ValT c∧ValT y∧ValT n then (cl c,cl y,cl n,0) else (zeroT,zeroT,zeroT,4)
 else (zeroT,zeroT,zeroT,40)
theorem brT_no {cl:Tr→Tr} {t:Tr} (h:¬ValT t):brT cl t=(zeroT,zeroT,zeroT,40):=if_neg h
theorem brT_none {cl:Tr→Tr} {t:Tr} (h:ValT t) (r:resT t=none):brT cl t=(zeroT,zeroT,zeroT,42):=by unfold brT;rw [if_pos h,r]
theorem brT_big {cl:Tr→Tr} {t c y n:Tr} (h:ValT t) (r:resT t=some (c,y,n)) (x:¬(ValT c∧ValT y∧ValT n)):brT cl t=(zeroT,zeroT,zeroT,4):=by unfold brT;rw [if_pos h,r];exact if_neg x
theorem brT_ok {cl:Tr→Tr} {t c y n:Tr} (h:ValT t) (r:resT t=some (c,y,n)) (x:ValT c∧ValT y∧ValT n):brT cl t=(cl c,cl y,cl n,0):=by unfold brT;rw [if_pos h,r];exact if_pos x
theorem chk_no {t:Tr} (h:(chkdT t).2≠0):¬ValT t∧(chkdT t).2=4:=by
 by_cases v:ValT t
 ·rw [chkdT,if_pos v] at h;exact absurd rfl h
 ·exact ⟨v,by rw [chkdT,if_neg v]⟩
theorem chk_ok {t:Tr} (h:(chkdT t).2=0):ValT t∧(chkdT t).1=cloneT t:=by
 by_cases v:ValT t
 ·exact ⟨v,by rw [chkdT,if_pos v]⟩
 ·rw [chkdT,if_neg v] at h;exact absurd h (by decide)
def Res4 (h:Heap) (v:Value) (x:Tr × Tr × Tr × Nat):Prop:=∃a b d,v=.tuple #[a,b,d,.int .i64 x.2.2.2]∧VE h a x.1∧VE h b x.2.1∧VE h d x.2.2.1
theorem Res4.zero (h:Heap) (e:Nat):Res4 h (.tuple #[.agg #[.int .i64 0,.int .i64 0,.bool false,.slice none 0 0,.slice none 0 0,.string (txt []),.slice none 0 0],.agg #[.int .i64 0,.int .i64 0,.bool false,.slice none 0 0,.slice none 0 0,.string (txt []),.slice none 0 0],.agg #[.int .i64 0,.int .i64 0,.bool false,.slice none 0 0,.slice none 0 0,.string (txt []),.slice none 0 0],.int .i64 e]) (zeroT,zeroT,zeroT,e):=
 ⟨_,_,_,rfl,VE.zero _,VE.zero _,VE.zero _⟩
theorem resolvedC_ct (t:Tr) (hok:okT 1 t) (hn:resT t≠none) (h:Heap) (vs:List Value) (w:IsE h vs t):Fn0 T F.expr_resolved [.agg vs.toArray] h fun v h'=>∃c y n b C Y N,v=.tuple #[c,y,n,.bool b]∧VE h' c C∧VE h' y Y∧VE h' n N∧resT t=some (C,Y,N):=
 (resolved_ct t 1 hok h vs w).mono fun v h' _ ⟨c,y,n,b,C,Y,N,e,x1,x2,x3,g1,g2⟩=>⟨c,y,n,b,C,Y,N,e,x1,x2,x3,by cases b;exact absurd (g2 rfl).1 hn;exact g1 rfl⟩
def BrR (t:Tr) (R:Tr × Tr × Tr × Nat) (c y n:Tr × Nat):Prop:=(c.2≠0→R=(zeroT,zeroT,zeroT,c.2))∧(y.2≠0→R=(zeroT,zeroT,zeroT,y.2))∧(n.2≠0→R=(zeroT,zeroT,zeroT,n.2))∧(c.2=0→y.2=0→n.2=0→R=(c.1,y.1,n.1,0))
theorem BrR.of {t c y n:Tr} (v:ValT t) (r:resT t=some (c,y,n)):BrR t (brT cloneT t) (chkdT c) (chkdT y) (chkdT n):=by
 refine ⟨fun x=>?_,fun x=>?_,fun x=>?_,fun x1 x2 x3=>?_⟩
 ·obtain ⟨h1,h2⟩:=chk_no x
  rw [brT_big v r fun z=>h1 z.1,h2]
 ·obtain ⟨h1,h2⟩:=chk_no x
  rw [brT_big v r fun z=>h1 z.2.1,h2]
 ·obtain ⟨h1,h2⟩:=chk_no x
  rw [brT_big v r fun z=>h1 z.2.2,h2]
 ·obtain ⟨a1,b1⟩:=chk_ok x1
  obtain ⟨a2,b2⟩:=chk_ok x2
  obtain ⟨a3,b3⟩:=chk_ok x3
  rw [brT_ok v r ⟨a1,a2,a3⟩,b1,b2,b3]
theorem Branch_ct (t:Tr) (h:Heap) (vs:List Value) (tb:Tb h) (w:IsE h vs t):Fn0 T F.expr_Branch [.agg vs.toArray] h fun v h'=>Res4 h' v (brT cloneT t):=by
 have c1:=fun h tb w=>Valid_ct t h vs tb w
 have c2:=fun h w (x:ValT t)=>smooth_ct t h vs w x.1
 have c3:=fun h w (x:ValT t) hn=>resolvedC_ct t x.1 hn h vs w
 have c5:=fun u h vs tb w=>checked_ct u h vs tb w
 have r1:¬ValT t→brT cloneT t=(zeroT,zeroT,zeroT,40):=fun x=>brT_no x
 have r2:ValT t→resT t=none→brT cloneT t=(zeroT,zeroT,zeroT,42):=fun x y=>brT_none x y
 have r3:∀c y n,ValT t→resT t=some (c,y,n)→BrR t (brT cloneT t) (chkdT c) (chkdT y) (chkdT n):=fun c y n x r=>BrR.of x r
 obtain ⟨R,hR⟩:∃R,R=brT cloneT t:=⟨_,rfl⟩
 obtain ⟨RS,hRS⟩:∃R,R=resT t:=⟨_,rfl⟩
 rw [← hR] at r1 r2
 rw [← hRS] at c2 c3 r2
 simp only [← hR,← hRS] at r3
 rw [← hR]
 clear hR hRS
 obtain ⟨⟨op,arg,neg,l,m,name,ks⟩,ht⟩:∃x,x=t:=⟨_,rfl⟩
 obtain ⟨a,b,s,hvs,-⟩:=(ht.symm▸w:IsE h vs (.mk op arg neg l m name ks)).isK
 subst hvs
 refine fn0_of_codeI ok D.expr_Branch rfl ?_
 conv=>whnf
 repeat ((first|refine opsI.step ?_|refine codeI.step ?_);conv=>whnf)
 repeat' first|((first|(show DrawN _ _ _ _ _ _;refine DrawN.own [_,_,_] (by exact List.Sublist.cons_cons _ (List.Sublist.cons_cons _ (List.Sublist.cons_cons _ (List.nil_sublist _)))) (by decide +kernel) ?_)|(refine ⟨fun _=>⟨HasLe.of_le (by first|exact Heap.le_refl _|assumption|exact Heap.le_trans (by assumption) (by assumption)),by repeat first|exact List.nil_sublist _|apply List.Sublist.cons_cons|refine List.Sublist.trans ?_ (List.sublist_append_right _ _)|apply List.Sublist.cons⟩,?_⟩)|((first|refine opsI.step ?_|refine codeI.step ?_))|intro (_:Nat)|(show SeqN _ _ _ _ _ _ _;refine SeqN.go ?_)|(show LdN _ _ _ _ _;first|refine LdN.own 0 rfl rfl ?_|refine LdN.own 1 rfl rfl ?_|refine LdN.own 2 rfl rfl ?_|refine LdN.own 3 rfl rfl ?_)|(show CallN _ _ _ _ _ _;first|(refine CallN.fn rfl (c1 _ (by assumption) (by assumption)) (fun v h' hl2 hr=>?_);subst hr)|(refine CallN.fn rfl (c2 _ (by (iterate 30 try first|assumption|refine IsE.mono ?_ (by assumption));first|done|assumption) (by assumption)) (fun v h' hl2 hr=>?_);obtain ⟨rfl,rfl⟩:=hr;clear hl2)|(refine CallN.fn rfl (c3 _ (by (iterate 30 try first|assumption|refine IsE.mono ?_ (by assumption));first|done|assumption) (by assumption) (by assumption)) (fun v h' hl2 hr=>?_);obtain ⟨_,_,_,bb,CC,YY,NN,rfl,⟨op4,ar4,ng4,nn4,dd4,nm4,ss4,rfl,hE4⟩,⟨op5,ar5,ng5,nn5,dd5,nm5,ss5,rfl,hE5⟩,⟨op6,ar6,ng6,nn6,dd6,nm6,ss6,rfl,hE6⟩,hbb⟩:=hr;have br:=r3 CC YY NN (by assumption) hbb;have c5c:=fun h vs tb w=>c5 CC h vs tb w;obtain ⟨⟨Qc,qc⟩,hQc⟩:∃Q,Q=chkdT CC:=⟨_,rfl⟩;rw [← hQc] at c5c br;replace c5c:∀h vs,Tb h→IsE h vs CC→Fn0 T F.expr_checked [.agg vs.toArray] h fun v h'=>∃a,v=.tuple #[a,.int .i64 qc]∧VE h' a Qc:=c5c;clear hQc;have c5y:=fun h vs tb w=>c5 YY h vs tb w;obtain ⟨⟨Qy,qy⟩,hQy⟩:∃Q,Q=chkdT YY:=⟨_,rfl⟩;rw [← hQy] at c5y br;replace c5y:∀h vs,Tb h→IsE h vs YY→Fn0 T F.expr_checked [.agg vs.toArray] h fun v h'=>∃a,v=.tuple #[a,.int .i64 qy]∧VE h' a Qy:=c5y;clear hQy;have c5n:=fun h vs tb w=>c5 NN h vs tb w;obtain ⟨⟨Qn,qn⟩,hQn⟩:∃Q,Q=chkdT NN:=⟨_,rfl⟩;rw [← hQn] at c5n br;replace c5n:∀h vs,Tb h→IsE h vs NN→Fn0 T F.expr_checked [.agg vs.toArray] h fun v h'=>∃a,v=.tuple #[a,.int .i64 qn]∧VE h' a Qn:=c5n;clear hQn)|(refine CallN.fn rfl (c5c _ _ (by (iterate 30 try first|assumption|refine Tb.mono ?_ (by assumption));first|done|assumption) (by (iterate 30 try first|assumption|refine IsE.mono ?_ (by assumption));first|done|assumption)) (fun v h' hl2 hr=>?_);obtain ⟨_,rfl,op7,ar7,ng7,nn7,dd7,nm7,ss7,rfl,hE7⟩:=hr)|(refine CallN.fn rfl (c5y _ _ (by (iterate 30 try first|assumption|refine Tb.mono ?_ (by assumption));first|done|assumption) (by (iterate 30 try first|assumption|refine IsE.mono ?_ (by assumption));first|done|assumption)) (fun v h' hl2 hr=>?_);obtain ⟨_,rfl,op8,ar8,ng8,nn8,dd8,nm8,ss8,rfl,hE8⟩:=hr)|(refine CallN.fn rfl (c5n _ _ (by (iterate 30 try first|assumption|refine Tb.mono ?_ (by assumption));first|done|assumption) (by (iterate 30 try first|assumption|refine IsE.mono ?_ (by assumption));first|done|assumption)) (fun v h' hl2 hr=>?_);obtain ⟨_,rfl,op9,ar9,ng9,nn9,dd9,nm9,ss9,rfl,hE9⟩:=hr))|(show Idx _ _ _ _ _;first|refine Idx.of 0 rfl rfl (by decide) ?_|refine Idx.of 1 rfl rfl (by decide) ?_|refine Idx.of 2 rfl rfl (by decide) ?_)|(show Sto _ _ _ _;first|refine Sto.lit 0 rfl rfl rfl ?_|refine Sto.lit 1 rfl rfl rfl ?_|refine Sto.lit 2 rfl rfl rfl ?_|refine Sto.lit 3 rfl rfl rfl ?_)) <;> (conv=>whnf))|(show cnd _ _ _;first|(refine cnd_eq (fun _=>?_) (fun _=>?_) <;> first|(exfalso;omega)|(conv=>whnf))|(refine cnd_not ?_)|(refine cnd_dec (fun _=>?_) (fun _=>?_) <;> first|(exfalso;omega)|(conv=>whnf)))
 all_goals try first
  | (rw [r1 (by assumption)];exact RetN.all (Res4.zero _ 40))
  | (rw [r2 (by assumption) (by assumption)];exact RetN.all (Res4.zero _ 42))
 refine LoopN.count 52 3 (fun j=>(0<j→qc=0)∧(1<j→qy=0)∧(2<j→qn=0)) rfl ⟨fun x=>absurd x (by decide),fun x=>absurd x (by decide),fun x=>absurd x (by decide)⟩ ?_
 conv=>whnf
 repeat intro _
 rename_i j hj e52 hp
 conv at e52=>lhs;whnf
 subst e52
 obtain ⟨p1,p2,p3⟩:=hp
 obtain ⟨b1,b2,b3,b4⟩:=br
 replace b1:qc≠0→R=(zeroT,zeroT,zeroT,qc):=b1
 replace b2:qy≠0→R=(zeroT,zeroT,zeroT,qy):=b2
 replace b3:qn≠0→R=(zeroT,zeroT,zeroT,qn):=b3
 replace b4:qc=0→qy=0→qn=0→R=(Qc,Qy,Qn,0):=b4
 obtain rfl|rfl|rfl|rfl:j=0∨j=1∨j=2∨j=3:=by omega
 ·conv=>whnf
  repeat ((first|refine opsI.step ?_|refine codeI.step ?_);conv=>whnf)
  repeat' first|((first|(show DrawN _ _ _ _ _ _;refine DrawN.own [_,_,_] (by exact List.Sublist.cons _ (List.Sublist.cons _ (List.Sublist.cons _ (List.Sublist.cons _ (List.Sublist.cons_cons _ (List.Sublist.cons_cons _ (List.Sublist.cons_cons _ (List.nil_sublist _)))))))) (by decide +kernel) ?_)|(refine ⟨fun _=>⟨HasLe.of_le (by first|exact Heap.le_refl _|assumption|exact Heap.le_trans (by assumption) (by assumption)),by repeat first|exact List.nil_sublist _|apply List.Sublist.cons_cons|refine List.Sublist.trans ?_ (List.sublist_append_right _ _)|apply List.Sublist.cons⟩,?_⟩)|((first|refine opsI.step ?_|refine codeI.step ?_))|(show LdN _ _ _ _ _;first|refine LdN.own 0 rfl rfl ?_|refine LdN.own 1 rfl rfl ?_|refine LdN.own 2 rfl rfl ?_|refine LdN.own 4 rfl rfl ?_|refine LdN.own 5 rfl rfl ?_|refine LdN.own 6 rfl rfl ?_)|(show IdxA _ _ _ _ _ _ _;refine IdxA.at 0 rfl (by decide) ?_)|refine WrapN.i64 (by omega) (by omega) ?_|(show Sto _ _ _ _;first|refine Sto.lit 4 rfl rfl rfl ?_|refine Sto.lit 5 rfl rfl rfl ?_|refine Sto.lit 6 rfl rfl rfl ?_)) <;> (conv=>whnf))|(show cnd _ _ _;first|(refine cnd_lt (fun _=>?_) (fun _=>?_) <;> first|(exfalso;omega)|(conv=>whnf))|(refine cnd_eq (fun _=>?_) (fun _=>?_) <;> first|(exfalso;omega)|(conv=>whnf))|(refine cnd_not ?_))
  ·exact ⟨rfl,2,by omega,1,rfl,by omega,rfl,⟨fun _=>by omega,fun x=>absurd x (by decide),fun x=>absurd x (by decide)⟩,rfl,rfl⟩
  ·rw [b1 (by omega)];exact RetN.all (Res4.zero _ _)
 ·conv=>whnf
  repeat ((first|refine opsI.step ?_|refine codeI.step ?_);conv=>whnf)
  repeat' first|((first|(show DrawN _ _ _ _ _ _;refine DrawN.own [_,_,_] (by exact List.Sublist.cons _ (List.Sublist.cons _ (List.Sublist.cons _ (List.Sublist.cons _ (List.Sublist.cons_cons _ (List.Sublist.cons_cons _ (List.Sublist.cons_cons _ (List.nil_sublist _)))))))) (by decide +kernel) ?_)|(refine ⟨fun _=>⟨HasLe.of_le (by first|exact Heap.le_refl _|assumption|exact Heap.le_trans (by assumption) (by assumption)),by repeat first|exact List.nil_sublist _|apply List.Sublist.cons_cons|refine List.Sublist.trans ?_ (List.sublist_append_right _ _)|apply List.Sublist.cons⟩,?_⟩)|((first|refine opsI.step ?_|refine codeI.step ?_))|(show LdN _ _ _ _ _;first|refine LdN.own 0 rfl rfl ?_|refine LdN.own 1 rfl rfl ?_|refine LdN.own 2 rfl rfl ?_|refine LdN.own 4 rfl rfl ?_|refine LdN.own 5 rfl rfl ?_|refine LdN.own 6 rfl rfl ?_)|(show IdxA _ _ _ _ _ _ _;refine IdxA.at 1 rfl (by decide) ?_)|refine WrapN.i64 (by omega) (by omega) ?_|(show Sto _ _ _ _;first|refine Sto.lit 4 rfl rfl rfl ?_|refine Sto.lit 5 rfl rfl rfl ?_|refine Sto.lit 6 rfl rfl rfl ?_)) <;> (conv=>whnf))|(show cnd _ _ _;first|(refine cnd_lt (fun _=>?_) (fun _=>?_) <;> first|(exfalso;omega)|(conv=>whnf))|(refine cnd_eq (fun _=>?_) (fun _=>?_) <;> first|(exfalso;omega)|(conv=>whnf))|(refine cnd_not ?_))
  ·exact ⟨rfl,1,by omega,2,rfl,by omega,rfl,⟨fun _=>p1 (by decide),fun _=>by omega,fun x=>absurd x (by decide)⟩,rfl,rfl⟩
  ·rw [b2 (by omega)];exact RetN.all (Res4.zero _ _)
 ·conv=>whnf
  repeat ((first|refine opsI.step ?_|refine codeI.step ?_);conv=>whnf)
  repeat' first|((first|(show DrawN _ _ _ _ _ _;refine DrawN.own [_,_,_] (by exact List.Sublist.cons _ (List.Sublist.cons _ (List.Sublist.cons _ (List.Sublist.cons _ (List.Sublist.cons_cons _ (List.Sublist.cons_cons _ (List.Sublist.cons_cons _ (List.nil_sublist _)))))))) (by decide +kernel) ?_)|(refine ⟨fun _=>⟨HasLe.of_le (by first|exact Heap.le_refl _|assumption|exact Heap.le_trans (by assumption) (by assumption)),by repeat first|exact List.nil_sublist _|apply List.Sublist.cons_cons|refine List.Sublist.trans ?_ (List.sublist_append_right _ _)|apply List.Sublist.cons⟩,?_⟩)|((first|refine opsI.step ?_|refine codeI.step ?_))|(show LdN _ _ _ _ _;first|refine LdN.own 0 rfl rfl ?_|refine LdN.own 1 rfl rfl ?_|refine LdN.own 2 rfl rfl ?_|refine LdN.own 4 rfl rfl ?_|refine LdN.own 5 rfl rfl ?_|refine LdN.own 6 rfl rfl ?_)|(show IdxA _ _ _ _ _ _ _;refine IdxA.at 2 rfl (by decide) ?_)|refine WrapN.i64 (by omega) (by omega) ?_|(show Sto _ _ _ _;first|refine Sto.lit 4 rfl rfl rfl ?_|refine Sto.lit 5 rfl rfl rfl ?_|refine Sto.lit 6 rfl rfl rfl ?_)) <;> (conv=>whnf))|(show cnd _ _ _;first|(refine cnd_lt (fun _=>?_) (fun _=>?_) <;> first|(exfalso;omega)|(conv=>whnf))|(refine cnd_eq (fun _=>?_) (fun _=>?_) <;> first|(exfalso;omega)|(conv=>whnf))|(refine cnd_not ?_))
  ·exact ⟨rfl,0,by omega,3,rfl,by omega,rfl,⟨fun _=>p1 (by decide),fun _=>p2 (by decide),fun _=>by omega⟩,rfl,rfl⟩
  ·rw [b3 (by omega)];exact RetN.all (Res4.zero _ _)
 ·conv=>whnf
  repeat ((first|refine opsI.step ?_|refine codeI.step ?_);conv=>whnf)
  repeat' first|((first|(show DrawN _ _ _ _ _ _;refine DrawN.own [_,_,_] (by exact List.Sublist.cons _ (List.Sublist.cons_cons _ (List.Sublist.cons_cons _ (List.Sublist.cons_cons _ (List.nil_sublist _))))) (by decide +kernel) ?_)|(refine ⟨fun _=>⟨HasLe.of_le (by first|exact Heap.le_refl _|assumption|exact Heap.le_trans (by assumption) (by assumption)),by repeat first|exact List.nil_sublist _|apply List.Sublist.cons_cons|refine List.Sublist.trans ?_ (List.sublist_append_right _ _)|apply List.Sublist.cons⟩,?_⟩)|((first|refine opsI.step ?_|refine codeI.step ?_))|(show LdN _ _ _ _ _;first|refine LdN.own 0 rfl rfl ?_|refine LdN.own 1 rfl rfl ?_|refine LdN.own 2 rfl rfl ?_|refine LdN.own 4 rfl rfl ?_|refine LdN.own 5 rfl rfl ?_|refine LdN.own 6 rfl rfl ?_)|(show Sto _ _ _ _;first|refine Sto.lit 4 rfl rfl rfl ?_|refine Sto.lit 5 rfl rfl rfl ?_|refine Sto.lit 6 rfl rfl rfl ?_)) <;> (conv=>whnf))|(refine cnd_lt (fun _=>?_) (fun _=>?_) <;> first|(exfalso;omega)|(conv=>whnf))
  rw [b4 (p1 (by decide)) (p2 (by decide)) (p3 (by decide))]
  exact RetN.all ⟨_,_,_,rfl,⟨op7,ar7,ng7,nn7,dd7,nm7,ss7,rfl,(by (iterate 30 try first|assumption|refine IsE.mono ?_ (by assumption));first|done|assumption)⟩,⟨op8,ar8,ng8,nn8,dd8,nm8,ss8,rfl,(by (iterate 30 try first|assumption|refine IsE.mono ?_ (by assumption));first|done|assumption)⟩,⟨op9,ar9,ng9,nn9,dd9,nm9,ss9,rfl,(by assumption)⟩⟩
end Go.Proofs.YtmblpmegfmgjgaaGreatDoor