/- The law of values of case distinctions. -/
import Derived.Test.YtmblpmegfmgjgaaGreatDoorE69
import Derived.Test.YtmblpmegfmgjgaaGreatDoorE50
set_option linter.unusedVariables false
set_option linter.unusedSimpArgs false
set_option maxHeartbeats 2000000
set_option maxRecDepth 20000
namespace Go.Proofs.YtmblpmegfmgjgaaGreatDoor
open Go Go.Vc Go.Dig
theorem branch_value {bs:List (List Nat × Option Rat)} {t:Tr} (hv:∀b∈stripV bs,fits b.2) (h0:(brT cloneT t).2.2.2=0) {v:Rat} (h1:valX bs t=(v,true,0)) {w:Rat} {e:Int} (h2:valX bs (brT cloneT t).1=(w,true,e)):
  valX bs (if 0≤w then (brT cloneT t).2.1 else (brT cloneT t).2.2.1)=(v,true,0):=by
 obtain ⟨g1,g2,g3⟩:=valX_inv (bs:=bs) (t:=t) (by rw [h1])
 cases hr:resT t with
 | none=>rw [brT_none g1 hr] at h0;exact absurd h0 (by decide)
 | some x=>
  obtain ⟨c,y,z⟩:=x
  by_cases hx:ValT c∧ValT y∧ValT z
  ·rw [brT_ok g1 hr hx] at h2 ⊢
   have h2:valX bs (cloneT c)=(w,true,e):=h2
   rw [valX_of (val_clone hx.1) g2 g3,clone_val hx.1.1] at h2
   rw [valX_of g1 g2 g3] at h1
   have hw:valT (stripV bs) c=some w:=by
    cases e1:valT (stripV bs) c with
    | none=>rw [e1] at h2;cases h2
    | some q=>rw [e1] at h2;cases h2;rfl
   have hv1:valT (stripV bs) t=some v:=by
    cases e1:valT (stripV bs) t with
    | none=>rw [e1] at h1;cases h1
    | some q=>rw [e1] at h1;cases h1;rfl
   have:=res_val hv t 1 g1.1 c y z v w hr hv1 hw
   show valX bs (if 0≤w then cloneT y else cloneT z)=_
   split at this
   ·rename_i hp
    rw [if_pos hp]
    exact valX_some (val_clone hx.2.1) g2 g3 ((clone_val hx.2.1.1).trans this)
   ·rename_i hp
    rw [if_neg hp]
    exact valX_some (val_clone hx.2.2) g2 g3 ((clone_val hx.2.2.1).trans this)
  ·rw [brT_big g1 hr hx] at h0;exact absurd h0 (by decide)
theorem BranchValue_law (h:Heap) (tb:Tb h) (pw:Pw h) (t:Tr) (vs:List Value) (w:IsE h vs t) (sb:Sl) (bs:List (List Nat × Option Rat)) (wb:IsV h sb bs) (hbl:bs.length≤1099511627776):Fn0 T F.law04_ExprBranchValue [.agg vs.toArray,sb.val] h fun v h'=>v=.bool true:=by
 have hv:=strip_fits wb
 have hf:=valX_fits (t:=t) hv
 have bv:=fun h0 v h1 w e h2=>branch_value (t:=t) (bs:=bs) hv h0 (v:=v) h1 (w:=w) (e:=e) h2
 have c1:=fun h tb wb w=>Value_ct bs hbl sb t h vs tb wb w
 have c2:=fun h tb w=>Branch_ct t h vs tb w
 have c9:=fun h tb pw=>sane_ct h tb pw
 obtain ⟨⟨X1,X2,X3⟩,hX⟩:∃X,X=valX bs t:=⟨_,rfl⟩
 obtain ⟨⟨C,Y,Z,E⟩,hB⟩:∃Y,Y=brT cloneT t:=⟨_,rfl⟩
 have c3:=fun h us tb wb w=>Value_ct bs hbl sb C h us tb wb w
 have c4:=fun h us tb wb w=>Value_ct bs hbl sb Y h us tb wb w
 have c5:=fun h us tb wb w=>Value_ct bs hbl sb Z h us tb wb w
 have hfc:=valX_fits (t:=C) hv
 obtain ⟨⟨W1,W2,W3⟩,hW⟩:∃X,X=valX bs C:=⟨_,rfl⟩
 simp only [← hX] at c1 hf bv
 simp only [← hB] at c2 bv
 simp only [← hW] at c3 hfc
 replace hf:fits X1:=hf
 replace hfc:fits W1:=hfc
 have bv:E=0→(X1,X2,X3)=(X1,true,0)→W2=true→valX bs (if 0≤W1 then Y else Z)=(X1,true,0):=fun x y z=>bv x X1 y W1 W3 (hW.symm.trans (by rw [z]))
 replace c1:∀h,Tb h→IsV h sb bs→IsE h vs t→Fn0 T F.expr_Value [.agg vs.toArray,sb.val] h fun v h'=>∃a b:Sl,v=.tuple #[.agg #[.bool (sg X1),a.val,b.val],.bool X2,.int .i64 X3]∧IsRat h' a b X1:=c1
 replace c2:∀h,Tb h→IsE h vs t→Fn0 T F.expr_Branch [.agg vs.toArray] h fun v h'=>∃a b d,v=.tuple #[a,b,d,.int .i64 E]∧VE h' a C∧VE h' b Y∧VE h' d Z:=c2
 replace c3:∀h us,Tb h→IsV h sb bs→IsE h us C→Fn0 T F.expr_Value [.agg us.toArray,sb.val] h fun v h'=>∃a b:Sl,v=.tuple #[.agg #[.bool (sg W1),a.val,b.val],.bool W2,.int .i64 W3]∧IsRat h' a b W1:=c3
 have sgn:0≤signQ W1↔0≤W1:=by
  constructor
  ·intro x
   have:=le_sign W1
   rw [Vc.le_true' x] at this
   by_cases z:0≤W1
   ·exact z
   ·rw [dec_false z] at this;cases this
  ·intro x
   by_cases z:0≤signQ W1
   ·exact z
   ·have:=le_sign W1;rw [dec_true x,Vc.le_false' (by omega)] at this;cases this
 have c7:=fun h n a b w=>QOf_p h n a b W1 w
 have c8:=fun h a b w=>Sgn_q h a b W1 w ((sr_of hfc).mono (by decide))
 have c6:=fun h a b c d w w'=>SameP h (sg X1) a b X1 (sg X1) c d X1 w w'
 simp only [dec_true] at c6
 cases X2 with
 | false=>
  obtain ⟨⟨op,arg,neg,l,m,name,ks⟩,ht⟩:∃x,x=t:=⟨_,rfl⟩
  obtain ⟨a,b,s,hvs,-⟩:=(ht.symm▸w:IsE h vs (.mk op arg neg l m name ks)).isK
  subst hvs
  refine fn0_of_codeI ok D.law04_ExprBranchValue rfl ?_
  conv=>whnf
  repeat ((first|refine opsI.step ?_|refine codeI.step ?_);conv=>whnf)
  repeat' first|((first|(show LdN _ _ _ _ _;first|refine LdN.ownAt 0 rfl rfl ?_|refine LdN.ownAt 3 rfl rfl ?_)|(show CallN _ _ _ _ _ _;first|(refine CallN.fn rfl (c2 _ (by assumption) (by assumption)) (fun v h' hl2 hr=>?_);obtain ⟨_,_,_,rfl,⟨op4,ar4,ng4,nn4,dd4,nm4,ss4,rfl,hE4⟩,⟨op5,ar5,ng5,nn5,dd5,nm5,ss5,rfl,hE5⟩,op6,ar6,ng6,nn6,dd6,nm6,ss6,rfl,hE6⟩:=hr)|(refine CallN.fn rfl (c1 _ (by (iterate 30 try first|assumption|refine Tb.mono ?_ (by assumption));first|done|assumption) (wb.mono (by assumption)) (by (iterate 30 try first|assumption|refine IsE.mono ?_ (by assumption));first|done|assumption)) (fun v h' hl2 hr=>?_);obtain ⟨a5,b5,rfl,hq5⟩:=hr)|(refine CallN.fn rfl (c9 _ (by (iterate 30 try first|assumption|refine Tb.mono ?_ (by assumption));first|done|assumption) (by iterate 16 (try first|assumption|refine Pw.mono ?_ (by assumption)))) (fun v h' hl2 hr=>?_);subst hr))|((first|refine opsI.step ?_|refine codeI.step ?_))|intro (_:Nat)|(show Sto _ _ _ _;first|refine Sto.lit 0 rfl rfl rfl ?_|refine Sto.lit 1 rfl rfl rfl ?_|refine Sto.lit 2 rfl rfl rfl ?_)) <;> (conv=>whnf))|(show cnd _ _ _;first|(refine cnd_eq (fun _=>?_) (fun _=>?_) <;> first|(exfalso;omega)|(conv=>whnf))|(refine cnd_not ?_))
  all_goals exact RetN.all rfl
 | true=>
  obtain ⟨S1,hS1⟩:∃S,S=sg X1:=⟨_,rfl⟩
  obtain ⟨S2,hS2⟩:∃S,S=sg W1:=⟨_,rfl⟩
  have nn:∀h a b,IsRat h a b X1→IsNum h S1 a b (some X1):=fun h a b w=>hS1▸w.isnum hf
  have nw:∀h a b,IsRat h a b W1→IsNum h S2 a b (some W1):=fun h a b w=>hS2▸w.isnum hfc
  have k1:E=0→X3=0→W2=true→0≤signQ W1→∀h us,Tb h→IsV h sb bs→IsE h us Y→Fn0 T F.expr_Value [.agg us.toArray,sb.val] h fun v h'=>∃a b:Sl,v=.tuple #[.agg #[.bool S1,a.val,b.val],.bool true,.int .i64 0]∧IsRat h' a b X1:=fun x1 x2 x3 x4 h us tb wb w=>by
   have:=bv x1 (by rw [x2]) x3
   rw [if_pos (sgn.1 x4)] at this
   have g:=c4 h us tb wb w
   rw [this] at g
   rw [hS1]
   exact g
  have k2:E=0→X3=0→W2=true→¬0≤signQ W1→∀h us,Tb h→IsV h sb bs→IsE h us Z→Fn0 T F.expr_Value [.agg us.toArray,sb.val] h fun v h'=>∃a b:Sl,v=.tuple #[.agg #[.bool S1,a.val,b.val],.bool true,.int .i64 0]∧IsRat h' a b X1:=fun x1 x2 x3 x4 h us tb wb w=>by
   have:=bv x1 (by rw [x2]) x3
   rw [if_neg fun y=>x4 (sgn.2 y)] at this
   have g:=c5 h us tb wb w
   rw [this] at g
   rw [hS1]
   exact g
  simp only [← hS1] at c1 c6
  simp only [← hS2] at c3 c8
  obtain ⟨SW,hSW⟩:∃S,S=signQ W1:=⟨_,rfl⟩
  simp only [← hSW] at k1 k2 c8
  have c7:∀h n a b,IsNum h n a b (some W1)→Fn0 T F.ref01_Of [.agg #[.bool n,Sl.val a,Sl.val b]] h fun v h'=>∃s t:Sl,v=.agg #[.bool S2,s.val,t.val]∧IsQ h' s t W1:=fun h n a b w=>by rw [hS2];exact c7 h n a b w
  clear c4 c5 sgn bv hS1 hS2 hSW hX hB hW
  obtain ⟨⟨op,arg,neg,l,m,name,ks⟩,ht⟩:∃x,x=t:=⟨_,rfl⟩
  obtain ⟨a,b,s,hvs,-⟩:=(ht.symm▸w:IsE h vs (.mk op arg neg l m name ks)).isK
  subst hvs
  refine fn0_of_codeI ok D.law04_ExprBranchValue rfl ?_
  conv=>whnf
  repeat ((first|refine opsI.step ?_|refine codeI.step ?_);conv=>whnf)
  repeat' first|((first|(show SeqN _ _ _ _ _ _ _;refine SeqN.go ?_)|(show LdN _ _ _ _ _;first|refine LdN.ownAt 0 rfl rfl ?_|refine LdN.ownAt 1 rfl rfl ?_|refine LdN.ownAt 2 rfl rfl ?_|refine LdN.ownAt 3 rfl rfl ?_|refine LdN.ownAt 4 rfl rfl ?_)|(show CallN _ _ _ _ _ _;first|(refine CallN.fn rfl (c2 _ (by assumption) (by assumption)) (fun v h' hl2 hr=>?_);obtain ⟨_,_,_,rfl,⟨op4,ar4,ng4,nn4,dd4,nm4,ss4,rfl,hE4⟩,⟨op5,ar5,ng5,nn5,dd5,nm5,ss5,rfl,hE5⟩,op6,ar6,ng6,nn6,dd6,nm6,ss6,rfl,hE6⟩:=hr)|(refine CallN.fn rfl (c1 _ (by (iterate 30 try first|assumption|refine Tb.mono ?_ (by assumption));first|done|assumption) (wb.mono (by assumption)) (by (iterate 30 try first|assumption|refine IsE.mono ?_ (by assumption));first|done|assumption)) (fun v h' hl2 hr=>?_);obtain ⟨a5,b5,rfl,hq5⟩:=hr;have hn5:=nn _ _ _ hq5)|(refine CallN.fn rfl (c3 _ _ (by (iterate 30 try first|assumption|refine Tb.mono ?_ (by assumption));first|done|assumption) (wb.mono (by (iterate 30 try first|assumption|refine Heap.le_trans ?_ (by assumption));first|done|assumption)) (hE4.mono (by assumption))) (fun v h' hl2 hr=>?_);obtain ⟨a6,b6,rfl,hq6⟩:=hr;have hn6:=nw _ _ _ hq6)|(refine CallN.fn rfl (c7 _ _ _ _ (by assumption)) (fun v h' hl2 hr=>?_);obtain ⟨s8,t8,rfl,hq8⟩:=hr)|refine CallN.quiet rfl (c8 _ _ _ (by assumption)) ?_|((first|refine CallN.fn rfl (k1 (by omega) (by omega) (by first|rfl|assumption) (by omega) _ _ (by (iterate 30 try first|assumption|refine Tb.mono ?_ (by assumption));first|done|assumption) (wb.mono (by (iterate 30 try first|assumption|refine Heap.le_trans ?_ (by assumption));first|done|assumption)) (hE5.mono (by (iterate 30 try first|assumption|refine Heap.le_trans ?_ (by assumption));first|done|assumption))) (fun v h' hl2 hr=>?_)|refine CallN.fn rfl (k2 (by omega) (by omega) (by first|rfl|assumption) (by omega) _ _ (by (iterate 30 try first|assumption|refine Tb.mono ?_ (by assumption));first|done|assumption) (wb.mono (by (iterate 30 try first|assumption|refine Heap.le_trans ?_ (by assumption));first|done|assumption)) (hE6.mono (by (iterate 30 try first|assumption|refine Heap.le_trans ?_ (by assumption));first|done|assumption))) (fun v h' hl2 hr=>?_));obtain ⟨a9,b9,rfl,hq9⟩:=hr;have hn9:=nn _ _ _ hq9)|(refine CallN.fn rfl (c6 _ _ _ _ _ (by (iterate 30 try first|assumption|refine IsNum.mono ?_ (by assumption));first|done|assumption) (by (iterate 30 try first|assumption|refine IsNum.mono ?_ (by assumption));first|done|assumption)) (fun v h' hl2 hr=>?_);subst hr)|(refine CallN.fn rfl (c9 _ (by (iterate 30 try first|assumption|refine Tb.mono ?_ (by assumption));first|done|assumption) (by iterate 16 (try first|assumption|refine Pw.mono ?_ (by assumption)))) (fun v h' hl2 hr=>?_);subst hr))|((first|refine opsI.step ?_|refine codeI.step ?_))|intro (_:Nat)|(show Sto _ _ _ _;first|refine Sto.lit 0 rfl rfl rfl ?_|refine Sto.lit 1 rfl rfl rfl ?_|refine Sto.lit 2 rfl rfl rfl ?_)) <;> (conv=>whnf))|(show cnd _ _ _;first|(refine cnd_le (fun _=>?_) (fun _=>?_) <;> first|(exfalso;omega)|(conv=>whnf))|(refine cnd_eq (fun _=>?_) (fun _=>?_) <;> first|(exfalso;omega)|(conv=>whnf))|(refine cnd_not ?_)|(refine cnd_bool (fun hb=>?_) (fun hb=>?_) <;> (first|cases hb|subst hb) <;> (conv=>whnf)))
  all_goals exact RetN.all rfl
end Go.Proofs.YtmblpmegfmgjgaaGreatDoor