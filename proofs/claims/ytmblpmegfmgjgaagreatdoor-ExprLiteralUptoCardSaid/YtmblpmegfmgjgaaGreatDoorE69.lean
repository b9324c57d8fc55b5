/- The laws of values: Value, literals. -/
import Derived.Test.YtmblpmegfmgjgaaGreatDoorE67
import Derived.Test.YtmblpmegfmgjgaaGreatDoorE66
import Derived.Test.YtmblpmegfmgjgaaGreatDoorE33
import Derived.Test.YtmblpmegfmgjgaaGreatDoorE37
import Derived.Test.YtmblpmegfmgjgaaGreatDoorE29
set_option linter.unusedVariables false
set_option linter.unusedSimpArgs false
namespace Go.Proofs.YtmblpmegfmgjgaaGreatDoor
open Go Go.Vc Go.Dig
theorem SameP (h:Heap) (n:Bool) (a b:Sl) (q:Rat) (m:Bool) (c d:Sl) (r:Rat) (w:IsNum h n a b (some q)) (w':IsNum h m c d (some r)):Fn0 T F.ref01_Same [.agg #[.bool n,a.val,b.val],.agg #[.bool m,c.val,d.val]] h fun v h'=>v=.bool (dec (q=r)):=by
 obtain ⟨l1,m1,v1,k1,rfl⟩:=w.of
 obtain ⟨l2,m2,v2,k2,rfl⟩:=w'.of
 exact RSame_ct h n a b l1 m1 m c d l2 m2 v1 v2 k1.sz k2.sz
mutual
def CanT:Tr→Prop
 | .mk _ _ neg l m _ ks=>(∃q,fits q∧neg=sg q∧l=dg 4294967296 (nu q)∧m=dg 4294967296 (dn q))∧CanTs ks
def CanTs:List Tr→Prop
 | []=>True
 | t::ts=>CanT t∧CanTs ts
end
theorem CanTs.get:∀{ks:List Tr} {j:Nat} {t:Tr},CanTs ks→ks[j]?=some t→CanT t
 | x::xs,0,t,h,e=>by rw [CanTs] at h;cases e;exact h.1
 | x::xs,j+1,t,h,e=>by rw [CanTs] at h;exact CanTs.get h.2 (by simpa using e)
 | [],_,_,_,e=>by simp at e
theorem sg_nil:∃q,fits q∧false=sg q∧[]=dg 4294967296 (nu q)∧[]=dg 4294967296 (dn q):=⟨0,fits_zero,sg_zero.symm,by rw [nu_zero,dg_zero],by rw [show dn 0=0 from rfl,dg_zero]⟩
theorem CanT.num {q:Rat} (h:fits q):CanT (numQ q):=by unfold numQ;rw [CanT,CanTs];exact ⟨⟨q,h,rfl,rfl,rfl⟩,trivial⟩
theorem CanT.lit {q:Rat} (h:fits q):CanT (mkL q):=by
 unfold mkL
 split
 ·unfold nodeT;rw [CanT,CanTs,CanTs];exact ⟨sg_nil,CanT.num (fits_neg h),trivial⟩
 ·exact CanT.num h
set_option maxRecDepth 20000 in
set_option maxHeartbeats 1000000 in
theorem canonical_ct:∀(t:Tr) (d:Nat),okT d t→CanT t→∀(h:Heap) (vs:List Value),IsE h vs t→Fn0 T F.law04_canonical [.agg vs.toArray] h fun v h'=>v=.bool true:=by
 refine tree_ind fun t ih=>?_
 intro d hok hc h vs w
 obtain ⟨op,arg,neg,l,m,name,ks⟩:=t
 obtain ⟨a,b,s,rfl,ho,ha,hv,hb,hk⟩:=w.isK
 rw [okT] at hok
 rw [CanT] at hc
 obtain ⟨⟨q,hf,rfl,rfl,rfl⟩,hcs⟩:=hc
 have hq:IsRat h a b q:=⟨hv.num,hv.den⟩
 have hkl:=hk.len
 have hks:ks.length≤3:=by
  have h1:=hok.2.1.1
  have h2:=kidsN_le op
  omega
 have c1:=fun h hq=>Canonical_ct h a b q hq (fits_sz hf)
 obtain ⟨S,hS⟩:∃S,S=sg q:=⟨_,rfl⟩
 simp only [← hS] at c1 ⊢
 refine fn0_of_codeI ok D.law04_canonical rfl ?_
 conv=>whnf
 repeat ((first | refine opsI.step ?_ | refine codeI.step ?_);conv=>whnf)
 repeat' first | ((first | (show LdN _ _ _ _ _;refine LdN.ownAt 0 rfl rfl ?_) | (show CallN _ _ _ _ _ _;(refine CallN.fn rfl (c1 _ (by assumption)) (fun v h' hl2 hr=>?_);subst hr)) | ((first | refine opsI.step ?_ | refine codeI.step ?_)) | intro (_:Nat)) <;> (conv=>whnf))
 refine LoopN.keepL (fun r ρ hx=>∃j:Nat,r=ks.length-j∧j≤ks.length∧rd ρ 3=.int .i64 j) ks.length ⟨0,rfl,Nat.zero_le _,rfl⟩ ?_
 conv=>whnf
 repeat intro _
 rename_i r hx hle hI
 obtain ⟨j,rfl,hj,e3⟩:=hI
 conv at e3=>lhs;whnf
 subst e3
 by_cases hjl:j=ks.length
 ·subst hjl
  conv=>whnf
  repeat ((first | refine opsI.step ?_ | refine codeI.step ?_);conv=>whnf)
  repeat' first | ((first | ((first | refine opsI.step ?_ | refine codeI.step ?_)) | refine Ld.own 0 rfl rfl ?_) <;> (conv=>whnf)) | (refine cnd_lt (fun _=>?_) (fun _=>?_) <;> first | (exfalso;omega) | (conv=>whnf))
  all_goals exact RetN.all rfl
 ·obtain ⟨t,ht⟩:∃t,ks[j]?=some t:=⟨_,List.getElem?_eq_getElem (by omega)⟩
  have hkx:=hk.mono (Heap.le_trans hl2 hle)
  have c2:=fun h vs w=>ih t (szT_kid ht) (d+1) (okTs_mem hok.2.2 (List.mem_of_getElem? ht)) (CanTs.get hcs ht) h vs w
  conv=>whnf
  repeat ((first | refine opsI.step ?_ | refine codeI.step ?_);conv=>whnf)
  repeat' first | ((first | (show Idx _ _ _ _ _;refine Idx.kid hkx j t (by omega) ht (fun ad op3 arg3 neg3 a3 b3 name3 s3 hE hld=>?_)) | (refine hld _ _ _ (by (iterate 30 (try first | assumption | exact Heap.le_refl _));first | done | assumption) ?_) | ((first | refine opsI.step ?_ | refine codeI.step ?_)) | (show CallN _ _ _ _ _ _;(refine CallN.fn rfl (c2 _ _ (by assumption)) (fun v h' hl2 hr=>?_);subst hr)) | refine WrapN.i64 (by omega) (by omega) ?_ | refine Ld.own 0 rfl rfl ?_) <;> (conv=>whnf)) | (refine cnd_lt (fun _=>?_) (fun _=>?_) <;> first | (exfalso;omega) | (conv=>whnf))
  all_goals exact ⟨rfl,ks.length-(j+1),by omega,(by (iterate 30 (try first | assumption | refine Heap.le_trans ?_ (by assumption)));first | done | assumption),rfl,j+1,rfl,by omega,vi (by omega)⟩
theorem valX_fits {bs:List (List Nat × Option Rat)} {t:Tr} (hv:∀b∈stripV bs,fits b.2):fits (valX bs t).1:=by
 unfold valX
 repeat' split
 all_goals first
  | exact fits_zero
  | (rename_i q e
     have hvt:ValT t:=Classical.byContradiction fun x=>by simp_all
     exact valT_fits hv t 1 hvt.1 q e)
def optX:Option Rat→Rat × Bool × Int
 | none=>(0,false,0)
 | some q=>(q,true,0)
set_option maxRecDepth 20000 in
set_option maxHeartbeats 1000000 in
theorem Value_law (h:Heap) (tb:Tb h) (pw:Pw h) (t:Tr) (vs:List Value) (w:IsE h vs t) (sb:Sl) (bs:List (List Nat × Option Rat)) (wb:IsV h sb bs) (hbl:bs.length≤1099511627776):Fn0 T F.law04_ExprValue [.agg vs.toArray,sb.val] h fun v h'=>v=.bool true:=by
 have c1:=fun h tb wb w=>Value_ct bs hbl sb t h vs tb wb w
 have c2:=fun h wb w=>RValue_ct bs hbl sb t h vs wb w
 have c9:=fun h tb pw=>sane_ct h tb pw
 have hf:=valX_fits (t:=t) (strip_fits wb)
 obtain ⟨⟨X1,X2,X3⟩,hX⟩:∃X,X=valX bs t:=⟨_,rfl⟩
 simp only [← hX] at c1 c2
 rw [← hX] at hf
 replace hf:fits X1:=hf
 replace c1:∀h,Tb h→IsV h sb bs→IsE h vs t→Fn0 T F.expr_Value [.agg vs.toArray,sb.val] h fun v h'=>∃a b:Sl,v=.tuple #[.agg #[.bool (sg X1),a.val,b.val],.bool X2,.int .i64 X3]∧IsRat h' a b X1:=c1
 replace c2:∀h,IsV h sb bs→IsE h vs t→Fn0 T F.ref04_Value [.agg vs.toArray,sb.val] h fun v h'=>∃a b:Sl,v=.tuple #[.agg #[.bool (sg X1),a.val,b.val],.bool X2,.int .i64 X3]∧IsRat h' a b X1:=c2
 have c3:=fun h a b w=>Canonical_ct h a b X1 w (fits_sz hf)
 have c4:=fun h a b c d w w'=>SameP h (sg X1) a b X1 (sg X1) c d X1 w w'
 simp only [dec_true] at c4
 obtain ⟨S,hS⟩:∃S,S=sg X1:=⟨_,rfl⟩
 have nn:∀h a b,IsRat h a b X1→IsNum h S a b (some X1):=fun h a b w=>hS▸w.isnum hf
 simp only [← hS] at c1 c2 c3 c4
 clear hX hS
 obtain ⟨⟨op,arg,neg,l,m,name,ks⟩,ht⟩:∃x,x=t:=⟨_,rfl⟩
 obtain ⟨a,b,s,hvs,-⟩:=(ht.symm▸w:IsE h vs (.mk op arg neg l m name ks)).isK
 subst hvs
 refine fn0_of_codeI ok D.law04_ExprValue rfl ?_
 cases X2
 all_goals
  conv=>whnf
  repeat ((first | refine opsI.step ?_ | refine codeI.step ?_);conv=>whnf)
  repeat' first | ((first | (show LdN _ _ _ _ _;first | refine LdN.ownAt 0 rfl rfl ?_ | refine LdN.ownAt 1 rfl rfl ?_) | (show CallN _ _ _ _ _ _;first | (refine CallN.fn rfl (c1 _ (by assumption) (wb.mono (by (iterate 30 (try first | assumption | exact Heap.le_refl _));first | done | assumption)) (by assumption)) (fun v h' hl2 hr=>?_);obtain ⟨a5,b5,rfl,hq5⟩:=hr;have hn5:=nn _ _ _ hq5) | (refine CallN.fn rfl (c2 _ (wb.mono (by assumption)) (by (iterate 30 (try first | assumption | refine IsE.mono ?_ (by assumption)));first | done | assumption)) (fun v h' hl2 hr=>?_);obtain ⟨a6,b6,rfl,hq6⟩:=hr;have hn6:=nn _ _ _ hq6) | (refine CallN.fn rfl (c3 _ _ _ (by (iterate 30 (try first | assumption | refine IsRat.mono ?_ (by assumption)));first | done | assumption)) (fun v h' hl2 hr=>?_);subst hr) | (refine CallN.fn rfl (c4 _ _ _ _ _ (by (iterate 30 (try first | assumption | refine IsNum.mono ?_ (by assumption)));first | done | assumption) (by (iterate 30 (try first | assumption | refine IsNum.mono ?_ (by assumption)));first | done | assumption)) (fun v h' hl2 hr=>?_);subst hr) | (refine CallN.fn rfl (c9 _ (by (iterate 30 (try first | assumption | refine Tb.mono ?_ (by assumption)));first | done | assumption) (by iterate 12 (try first | assumption | refine Pw.mono ?_ (by assumption)))) (fun v h' hl2 hr=>?_);subst hr)) | ((first | refine opsI.step ?_ | refine codeI.step ?_)) | intro (_:Nat) | refine Sto.lit 0 rfl rfl rfl ?_) <;> (conv=>whnf)) | (show cnd _ _ _;first | (refine cnd_eq (fun _=>?_) (fun _=>?_) <;> first | (exfalso;omega) | (conv=>whnf)) | (refine cnd_beq (fun _=>?_) (fun hne=>?_) <;> first | exact absurd rfl hne | (conv=>whnf)))
  all_goals exact RetN.all rfl
theorem mkL_val1 {q:Rat} (h:fits q):ValT (mkL q):=⟨mkL_ok (by decide) h,Nat.le_trans (mkL_sz q) (by decide)⟩
theorem valX_lit {q:Rat} (h:fits q):valX [] (mkL q)=(q,true,0):=valX_some (mkL_val1 h) NmsB_nil SmlV_nil (mkL_val h)
theorem agree_self {t:Tr} {e:Nat} (h0:e≠0→t=zeroT) (h1:e=0→okT 1 t):Agree (t,e) (t,e):=⟨rfl,h0,fun x=>⟨h1 x,h1 x,sameB_key.2 rfl⟩⟩
set_option maxRecDepth 20000 in
set_option maxHeartbeats 1000000 in
theorem Literal_law (h:Heap) (tb:Tb h) (pw:Pw h) (n:Bool) (a b:Sl) (x:Option Rat) (w:IsNum h n a b x):Fn0 T F.law04_ExprLiteral [.agg #[.bool n,a.val,b.val]] h fun v h'=>v=.bool true:=by
 have c1:=fun h tb w=>Literal_ct h tb n a b x w
 have c2:=fun h w=>RLiteral_ct h n a b x w
 have c9:=fun h tb pw=>sane_ct h tb pw
 cases x with
 | none=>
  have c3:=fun h vs us w w'=>agrees_ct zeroT zeroT 1 1 (agree_self (fun _=>rfl) (fun x=>by cases x)) h vs us w w'
  replace c1:∀h,Tb h→IsNum h n a b none→Fn0 T F.expr_Literal [.agg #[.bool n,a.val,b.val]] h fun v h'=>∃a,v=.tuple #[a,.int .i64 1]∧VE h' a zeroT:=c1
  replace c2:∀h,IsNum h n a b none→Fn0 T F.ref04_Literal [.agg #[.bool n,a.val,b.val]] h fun v h'=>∃a,v=.tuple #[a,.int .i64 1]∧VE h' a zeroT:=c2
  refine fn0_of_codeI ok D.law04_ExprLiteral rfl ?_
  conv=>whnf
  repeat ((first | refine opsI.step ?_ | refine codeI.step ?_);conv=>whnf)
  repeat' first | ((first | (show LdN _ _ _ _ _;first | refine LdN.ownAt 0 rfl rfl ?_ | refine LdN.ownAt 1 rfl rfl ?_) | (show CallN _ _ _ _ _ _;first | (refine CallN.fn rfl (c1 _ (by assumption) (by assumption)) (fun v h' hl2 hr=>?_);obtain ⟨_,rfl,op4,ar4,ng4,nn4,dd4,nm4,ss4,rfl,hE4⟩:=hr) | (refine CallN.fn rfl (c2 _ (by (iterate 30 (try first | assumption | refine IsNum.mono ?_ (by assumption)));first | done | assumption)) (fun v h' hl2 hr=>?_);obtain ⟨_,rfl,op5,ar5,ng5,nn5,dd5,nm5,ss5,rfl,hE5⟩:=hr) | (refine CallN.fn rfl (c3 _ _ _ (by (iterate 30 (try first | assumption | refine IsE.mono ?_ (by assumption)));first | done | assumption) (by assumption)) (fun v h' hl2 hr=>?_);subst hr) | (refine CallN.fn rfl (c9 _ (by (iterate 30 (try first | assumption | refine Tb.mono ?_ (by assumption)));first | done | assumption) (by iterate 12 (try first | assumption | refine Pw.mono ?_ (by assumption)))) (fun v h' hl2 hr=>?_);subst hr)) | ((first | refine opsI.step ?_ | refine codeI.step ?_)) | intro (_:Nat) | refine Sto.lit 0 rfl rfl rfl ?_) <;> (conv=>whnf)) | (show cnd _ _ _;first | (refine cnd_eq (fun _=>?_) (fun _=>?_) <;> first | (exfalso;omega) | (conv=>whnf)) | (refine cnd_not ?_))
  all_goals exact RetN.all rfl
 | some q=>
  have hf:=w.fits
  have hvt:=mkL_val1 hf
  have c3:=fun h vs us w w'=>agrees_ct (mkL q) (mkL q) 0 0 (agree_self (fun x=>absurd rfl x) (fun _=>hvt.1)) h vs us w w'
  have c4:=fun h vs tb w=>Value_ct [] (by decide) ⟨none,0,0⟩ (mkL q) h vs tb (IsV.nil h) w
  rw [valX_lit hf] at c4
  replace c4:∀h vs,Tb h→IsE h vs (mkL q)→Fn0 T F.expr_Value [.agg vs.toArray,.slice none 0 0] h fun v h'=>∃a b:Sl,v=.tuple #[.agg #[.bool (sg q),a.val,b.val],.bool true,.int .i64 0]∧IsRat h' a b q:=c4
  have c5:=fun h vs w=>canonical_ct (mkL q) 1 hvt.1 (CanT.lit hf) h vs w
  have c6:=fun h m c d w' w=>SameP h m c d q n a b q w' w
  simp only [dec_true] at c6
  replace c1:∀h,Tb h→IsNum h n a b (some q)→Fn0 T F.expr_Literal [.agg #[.bool n,a.val,b.val]] h fun v h'=>∃a,v=.tuple #[a,.int .i64 0]∧VE h' a (mkL q):=c1
  replace c2:∀h,IsNum h n a b (some q)→Fn0 T F.ref04_Literal [.agg #[.bool n,a.val,b.val]] h fun v h'=>∃a,v=.tuple #[a,.int .i64 0]∧VE h' a (mkL q):=c2
  obtain ⟨L,hL⟩:∃L,L=mkL q:=⟨_,rfl⟩
  obtain ⟨S,hS⟩:∃S,S=sg q:=⟨_,rfl⟩
  have nn:∀h a b,IsRat h a b q→IsNum h S a b (some q):=fun h a b w=>hS▸w.isnum hf
  simp only [← hL] at c1 c2 c3 c4 c5
  simp only [← hS] at c4
  clear hL hS hvt
  refine fn0_of_codeI ok D.law04_ExprLiteral rfl ?_
  conv=>whnf
  repeat ((first | refine opsI.step ?_ | refine codeI.step ?_);conv=>whnf)
  repeat' first | ((first | (show LdN _ _ _ _ _;first | refine LdN.ownAt 0 rfl rfl ?_ | refine LdN.ownAt 1 rfl rfl ?_ | refine LdN.ownAt 2 rfl rfl ?_ | refine LdN.ownAt 3 rfl rfl ?_) | (show CallN _ _ _ _ _ _;first | (refine CallN.fn rfl (c1 _ (by assumption) (by assumption)) (fun v h' hl2 hr=>?_);obtain ⟨_,rfl,op4,ar4,ng4,nn4,dd4,nm4,ss4,rfl,hE4⟩:=hr) | (refine CallN.fn rfl (c2 _ (by (iterate 30 (try first | assumption | refine IsNum.mono ?_ (by assumption)));first | done | assumption)) (fun v h' hl2 hr=>?_);obtain ⟨_,rfl,op5,ar5,ng5,nn5,dd5,nm5,ss5,rfl,hE5⟩:=hr) | (refine CallN.fn rfl (c3 _ _ _ (by (iterate 30 (try first | assumption | refine IsE.mono ?_ (by assumption)));first | done | assumption) (by assumption)) (fun v h' hl2 hr=>?_);subst hr) | (refine CallN.fn rfl (c4 _ _ (by (iterate 30 (try first | assumption | refine Tb.mono ?_ (by assumption)));first | done | assumption) (by (iterate 30 (try first | assumption | refine IsE.mono ?_ (by assumption)));first | done | assumption)) (fun v h' hl2 hr=>?_);obtain ⟨a6,b6,rfl,hq6⟩:=hr;have hn6:=nn _ _ _ hq6) | (refine CallN.fn rfl (c5 _ _ (by (iterate 30 (try first | assumption | refine IsE.mono ?_ (by assumption)));first | done | assumption)) (fun v h' hl2 hr=>?_);subst hr) | (refine CallN.fn rfl (c6 _ _ _ _ (by (iterate 30 (try first | assumption | refine IsNum.mono ?_ (by assumption)));first | done | assumption) (by (iterate 30 (try first | assumption | refine IsNum.mono ?_ (by assumption)));first | done | assumption)) (fun v h' hl2 hr=>?_);subst hr) | (refine CallN.fn rfl (c9 _ (by (iterate 30 (try first | assumption | refine Tb.mono ?_ (by assumption)));first | done | assumption) (by iterate 12 (try first | assumption | refine Pw.mono ?_ (by assumption)))) (fun v h' hl2 hr=>?_);subst hr)) | ((first | refine opsI.step ?_ | refine codeI.step ?_)) | intro (_:Nat) | refine Sto.lit 0 rfl rfl rfl ?_) <;> (conv=>whnf)) | (show cnd _ _ _;first | (refine cnd_eq (fun _=>?_) (fun _=>?_) <;> first | (exfalso;omega) | (conv=>whnf)) | (refine cnd_not ?_))
  all_goals exact RetN.all rfl
end Go.Proofs.YtmblpmegfmgjgaaGreatDoor