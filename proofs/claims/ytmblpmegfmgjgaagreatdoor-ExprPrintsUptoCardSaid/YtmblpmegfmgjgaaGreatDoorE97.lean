/- ExprNormal: its law. -/
import Derived.Test.YtmblpmegfmgjgaaGreatDoorE93
import Derived.Test.YtmblpmegfmgjgaaGreatDoorE33
import Derived.Test.YtmblpmegfmgjgaaGreatDoorE29
import Derived.Test.YtmblpmegfmgjgaaGreatDoorU2
import Derived.Test.YtmblpmegfmgjgaaGreatDoorE25
import Derived.Test.YtmblpmegfmgjgaaGreatDoorE42
import Derived.Test.YtmblpmegfmgjgaaGreatDoorE62
import Derived.Test.YtmblpmegfmgjgaaGreatDoorVcStop
set_option linter.unusedVariables false
set_option linter.unusedSimpArgs false
set_option maxHeartbeats 4000000
set_option maxRecDepth 20000
namespace Go.Proofs.YtmblpmegfmgjgaaGreatDoor
open Go Go.Vc Go.Dig
attribute [local irreducible] Vc.Fn
theorem longest_ct:∀(t:Tr) (d:Nat),okT d t→∀(h:Heap) (vs:List Value),IsE h vs t→Fn0 T F.law04_longest [.agg vs.toArray] h fun v h'=>∃n:Int,v=.int .i64 n:=by
 refine tree_ind fun t ih=>?_
 intro d hok h vs w
 obtain ⟨op,arg,neg,l,m,name,ks⟩:=t
 obtain ⟨a,b,s,rfl,ho,ha,hv,hb,hk⟩:=w.isK
 rw [okT] at hok
 obtain ⟨hd,hnb,hoks⟩:=hok
 have hkl:=hk.len
 have hks:ks.length≤3:=by
  have h1:=hnb.1
  have h2:=kidsN_le op
  omega
 have c1:=fun h hv=>QOf_ct h neg a b l m hv
 have c2:=fun h (c d:Sl) w=>RText_ct h c d (ratOf neg l m) w (node_sz hnb)
 obtain ⟨q,hq⟩:∃q,q=ratOf neg l m:=⟨_,rfl⟩
 simp only [← hq] at c1 c2
 clear hq hnb
 refine fn0_of_codeI ok D.law04_longest rfl ?_
 conv=>whnf
 repeat ((first|refine opsI.step ?_|refine codeI.step ?_);conv=>whnf)
 repeat' first|((first|(show LdN _ _ _ _ _;refine LdN.ownAt 0 rfl rfl ?_)|(show CallN _ _ _ _ _ _;first|(refine CallN.fn rfl (c1 _ (by assumption)) (fun v h' hl2 hr=>?_);obtain ⟨cc,dd,rfl,hfr⟩:=hr)|(refine CallN.fn rfl (c2 _ _ _ hfr) (fun v h' hl2 hr=>?_);subst hr))|((first|refine opsI.step ?_|refine codeI.step ?_))|intro (_:Nat)) <;> (conv=>whnf))
 refine LoopN.keepL (fun r ρ hx=>∃(j:Nat) (N:Int),r=ks.length-j∧j≤ks.length∧rd ρ 4=.int .i64 j∧rd ρ 3=.int .i64 N) ks.length ⟨0,_,rfl,Nat.zero_le _,rfl,rfl⟩ ?_
 conv=>whnf
 repeat intro _
 rename_i r hx hle hI
 obtain ⟨j,N,rfl,hj,e4,e3⟩:=hI
 conv at e4=>lhs;whnf
 subst e4
 conv at e3=>lhs;whnf
 subst e3
 have hkx:IsK hx s ks:=hk.mono (by (iterate 30 try first|assumption|refine Heap.le_trans ?_ (by assumption));first|done|assumption)
 by_cases hjl:j=ks.length
 ·conv=>whnf
  repeat ((first|refine opsI.step ?_|refine codeI.step ?_);conv=>whnf)
  repeat' first|((first|((first|refine opsI.step ?_|refine codeI.step ?_))|refine Ld.own 0 rfl rfl ?_) <;> (conv=>whnf))|(refine cnd_lt (fun _=>?_) (fun _=>?_) <;> first|(exfalso;omega)|(conv=>whnf))
  all_goals exact RetN.all ⟨_,rfl⟩
 ·obtain ⟨t,het⟩:∃t,ks[j]?=some t:=⟨_,List.getElem?_eq_getElem (by omega)⟩
  have c3:=fun h vs w=>ih t (szT_kid het) (d+1) (okTs_get hoks het) h vs w
  conv=>whnf
  repeat ((first|refine opsI.step ?_|refine codeI.step ?_);conv=>whnf)
  repeat' first|((first|(show Idx _ _ _ _ _;refine Idx.kid hkx j t (by omega) het (fun ad op2 arg2 neg2 a2 b2 name2 s2 hE hld=>?_))|refine hld _ _ _ (Heap.le_refl _) ?_|((first|refine opsI.step ?_|refine codeI.step ?_))|(show CallN _ _ _ _ _ _;(refine CallN.fn rfl (c3 _ _ hE) (fun v h' hl2 hr=>?_);obtain ⟨N3,rfl⟩:=hr))|refine WrapN.i64 (by omega) (by omega) ?_|refine Ld.own 0 rfl rfl ?_) <;> (conv=>whnf))|(refine cnd_lt (fun _=>?_) (fun _=>?_) <;> first|(exfalso;omega)|(conv=>whnf))
  all_goals exact ⟨rfl,ks.length-(j+1),by omega,(by (iterate 30 try first|assumption|refine Heap.le_trans ?_ (by assumption));first|done|assumption),rfl,j+1,_,rfl,by omega,vi (by omega),rfl⟩
theorem Normal_law (h:Heap) (tb:Tb h) (pw:Pw h) (sa:ByteArray) (hsa:sa.size≤maxLen):Fn0 T F.law04_ExprNormal [.string sa] h fun v h'=>v=.bool true:=by
 obtain ⟨na,hla⟩:∃l,l=rl sa:=⟨_,rfl⟩
 have hna:∀y∈na,y<256:=by rw [hla];exact rl_lt sa
 obtain rfl:sa=txt na:=by rw [hla,txt_rl]
 clear hla hsa
 have c1:=fun h tb=>Parse_c h tb na hna
 have pv:=fun x=>parseX_val (l:=na) x
 obtain ⟨⟨X,p,x⟩,hX⟩:∃X,X=parseX na:=⟨_,rfl⟩
 simp only [← hX] at c1 pv
 replace c1:∀h,Tb h→Fn0 T F.expr_Parse [.string (txt na)] h fun v h'=>∃a,v=.tuple #[a,.int .i64 p,.int .i64 x]∧VE h' a X:=c1
 replace pv:x=0→ValT X∧p=0:=pv
 have c9:=fun h tb pw=>sane_ct h tb pw
 clear hX
 by_cases hx:x=0
 ·subst hx
  obtain ⟨hv,rfl⟩:=pv rfl
  have c3:=fun h vs w=>longest_ct X 1 hv.1 h vs w
  have c2:=fun h vs tb pw w=>Print_ct X h vs tb pw w
  by_cases hl:4000<(textT X).length
  ·have e:printX X=([],4):=by unfold printX;rw [if_pos hv,if_pos hl]
   simp only [e] at c2
   refine fn0_of_codeI ok D.law04_ExprNormal rfl ?_
   conv=>whnf
   repeat ((first|refine opsI.step ?_|refine codeI.step ?_);conv=>whnf)
   repeat' first|((first|(show LdN _ _ _ _ _;refine LdN.ownAt 0 rfl rfl ?_)|(show CallN _ _ _ _ _ _;first|(refine CallN.fn rfl (c1 _ (by assumption)) (fun v h' hl2 hr=>?_);obtain ⟨_,rfl,op6,ar6,ng6,nn6,dd6,nm6,ss6,rfl,hE6⟩:=hr)|(refine CallN.fn rfl (c2 _ _ (by (iterate 30 try first|assumption|refine Tb.mono ?_ (by assumption));first|done|assumption) (by iterate 14 (try first|assumption|refine Pw.mono ?_ (by assumption))) (hE6.mono (by first|assumption|exact Heap.le_refl _))) (fun v h' hl2 hr=>?_);subst hr)|(refine CallN.fn rfl (c9 _ (by (iterate 30 try first|assumption|refine Tb.mono ?_ (by assumption));first|done|assumption) (by iterate 14 (try first|assumption|refine Pw.mono ?_ (by assumption)))) (fun v h' hl2 hr=>?_);subst hr))|((first|refine opsI.step ?_|refine codeI.step ?_))|intro (_:Nat)|refine Sto.lit 0 rfl rfl rfl ?_) <;> (conv=>whnf))|(show cnd _ _ _;first|(refine cnd_eq (fun _=>?_) (fun _=>?_) <;> first|(exfalso;omega)|(conv=>whnf))|(refine cnd_not ?_))
   all_goals first
    | exact RetN.all rfl
    | exact RetN.all (congrArg Value.bool (by decide))
    | exact RetN.all (congrArg Value.bool (by unfold Vc.eq;simp))
    | exact RetN.all (congrArg Value.bool (by simp [Vc.eq]))
  ·have e:printX X=(textT X,0):=by unfold printX;rw [if_pos hv,if_neg hl]
   have hv2:ValT (cloneT (reT X)):=val_clone (reT_val hv)
   have e2:printX (cloneT (reT X))=(textT X,0):=by unfold printX;rw [if_pos hv2,textT_key (read_key hv),if_neg hl]
   have e3:sameB (cloneT (reT X)) X=true:=sameB_key.2 (read_key hv)
   have c4:=fun h tb hb=>Parse_c h tb (textT X) hb
   simp only [parse_text hv (by omega)] at c4
   replace c4:∀h,Tb h→(∀y∈textT X,y<256)→Fn0 T F.expr_Parse [.string (txt (textT X))] h fun v h'=>∃a,v=.tuple #[a,.int .i64 (0:Nat),.int .i64 (0:Nat)]∧VE h' a (cloneT (reT X)):=c4
   have c5:=fun h vs tb pw w=>Print_ct (cloneT (reT X)) h vs tb pw w
   have c6:=fun h us vs w w'=>Same_ct (cloneT (reT X)) X h us vs 1 1 w w' hv2.1 hv.1
   simp only [e] at c2
   simp only [e2] at c5
   simp only [e3] at c6
   clear e e2 e3 hv2
   obtain ⟨C,hC⟩:∃C,C=cloneT (reT X):=⟨_,rfl⟩
   simp only [← hC] at c4 c5 c6
   clear hC
   refine fn0_of_codeI ok D.law04_ExprNormal rfl ?_
   conv=>whnf
   repeat ((first|refine opsI.step ?_|refine codeI.step ?_);conv=>whnf)
   repeat' first|((first|(show LdN _ _ _ _ _;first|refine LdN.ownAt 0 rfl rfl ?_|refine LdN.ownAt 1 rfl rfl ?_)|(show CallN _ _ _ _ _ _;first|(refine CallN.fn rfl (c1 _ (by assumption)) (fun v h' hl2 hr=>?_);obtain ⟨_,rfl,op6,ar6,ng6,nn6,dd6,nm6,ss6,rfl,hE6⟩:=hr)|(refine CallN.fn rfl (c2 _ _ (by (iterate 30 try first|assumption|refine Tb.mono ?_ (by assumption));first|done|assumption) (by iterate 14 (try first|assumption|refine Pw.mono ?_ (by assumption))) (hE6.mono (by first|assumption|exact Heap.le_refl _))) (fun v h' hl2 hr=>?_);subst hr)|(refine CallN.fn rfl (c3 _ _ (hE6.mono (by assumption))) (fun v h' hl2 hr=>?_);obtain ⟨N3,rfl⟩:=hr)|(refine CallN.fn rfl (c4 _ (by (iterate 30 try first|assumption|refine Tb.mono ?_ (by assumption));first|done|assumption) (textT_byte _ _ _ _ hv.1 hE6)) (fun v h' hl2 hr=>?_);obtain ⟨_,rfl,op7,ar7,ng7,nn7,dd7,nm7,ss7,rfl,hE7⟩:=hr)|(refine CallN.fn rfl (c5 _ _ (by (iterate 30 try first|assumption|refine Tb.mono ?_ (by assumption));first|done|assumption) (by iterate 14 (try first|assumption|refine Pw.mono ?_ (by assumption))) (hE7.mono (by first|assumption|exact Heap.le_refl _))) (fun v h' hl2 hr=>?_);subst hr)|(refine CallN.fn rfl (c6 _ _ _ (hE7.mono (by (iterate 30 try first|assumption|refine Heap.le_trans ?_ (by assumption));first|done|assumption)) (hE6.mono (by (iterate 30 try first|assumption|refine Heap.le_trans ?_ (by assumption));first|done|assumption))) (fun v h' hl2 hr=>?_);subst hr)|(refine CallN.fn rfl (c9 _ (by (iterate 30 try first|assumption|refine Tb.mono ?_ (by assumption));first|done|assumption) (by iterate 14 (try first|assumption|refine Pw.mono ?_ (by assumption)))) (fun v h' hl2 hr=>?_);subst hr))|((first|refine opsI.step ?_|refine codeI.step ?_))|intro (_:Nat)|refine Sto.lit 0 rfl rfl rfl ?_) <;> (conv=>whnf))|(show cnd _ _ _;first|(refine cnd_txt (textT_byte _ _ _ _ hv.1 hE6) (textT_byte _ _ _ _ hv.1 hE6) (fun _=>?_) (fun hne=>absurd rfl hne);conv=>whnf)|(refine cnd_lt (fun _=>?_) (fun _=>?_) <;> first|(exfalso;omega)|(conv=>whnf))|(refine cnd_eq (fun _=>?_) (fun _=>?_) <;> first|(exfalso;omega)|(conv=>whnf))|(refine cnd_not ?_))
   all_goals exact RetN.all rfl
 ·clear pv
  refine fn0_of_codeI ok D.law04_ExprNormal rfl ?_
  conv=>whnf
  repeat ((first|refine opsI.step ?_|refine codeI.step ?_);conv=>whnf)
  repeat' first|((first|(show CallN _ _ _ _ _ _;first|(refine CallN.fn rfl (c1 _ (by assumption)) (fun v h' hl2 hr=>?_);obtain ⟨_,rfl,op6,ar6,ng6,nn6,dd6,nm6,ss6,rfl,hE6⟩:=hr)|(refine CallN.fn rfl (c9 _ (by (iterate 30 try first|assumption|refine Tb.mono ?_ (by assumption));first|done|assumption) (by iterate 14 (try first|assumption|refine Pw.mono ?_ (by assumption)))) (fun v h' hl2 hr=>?_);subst hr))|((first|refine opsI.step ?_|refine codeI.step ?_))|intro (_:Nat)|refine Sto.lit 0 rfl rfl rfl ?_) <;> (conv=>whnf))|(show cnd _ _ _;first|(refine cnd_eq (fun _=>?_) (fun _=>?_) <;> first|(exfalso;omega)|(conv=>whnf))|(refine cnd_not ?_))
  all_goals exact RetN.all rfl
end Go.Proofs.YtmblpmegfmgjgaaGreatDoor
/- The document's text of a tree. -/
namespace Go.Proofs.YtmblpmegfmgjgaaGreatDoor
open Go Go.Vc Go.Dig
theorem fmtL_int (n:Int):fmtL (n:Rat)=itT n:=by
 unfold fmtL itT
 rw [sg_int,nu_int,den_int,if_pos rfl,List.append_nil]
 by_cases h:n<0
 ·rw [if_pos (decide_eq_true h),if_pos h];rfl
 ·rw [if_neg (by rw [decide_eq_false h];exact Bool.noConfusion),if_neg h]
attribute [local irreducible] Vc.Fn
theorem rlevel_ct (t:Tr) (h:Heap) (vs:List Value) (w:IsE h vs t):Fn0 T F.ref04_level [.agg vs.toArray] h fun v h'=>v=.int .i64 (levT t.op):=by
 obtain ⟨op,arg,neg,l,m,name,ks⟩:=t
 obtain ⟨a,b,s,rfl,ho,ha,hv,hb,hk⟩:=w.isK
 show Fn0 T _ _ _ fun v h'=>v=.int .i64 (levT op)
 have k0:op=5∨op=6→levT op=1:=fun x=>if_pos x
 have k1:op=7∨op=8→levT op=2:=fun x=>by unfold levT;rw [if_neg (by omega),if_pos x]
 have k2:op=4→levT op=3:=fun x=>by unfold levT;rw [if_neg (by omega),if_neg (by omega),if_pos x]
 have k3:op=9→levT op=4:=fun x=>by unfold levT;rw [if_neg (by omega),if_neg (by omega),if_neg (by omega),if_pos x]
 have k4:¬(op=5∨op=6)→¬(op=7∨op=8)→op≠4→op≠9→levT op=5:=fun x y z u=>by unfold levT;rw [if_neg x,if_neg y,if_neg z,if_neg u]
 obtain ⟨R,hR⟩:∃R,R=levT op:=⟨_,rfl⟩
 rw [← hR] at k0 k1 k2 k3 k4 ⊢
 replace k0:=Hq.mk k0
 replace k1:=Hq.mk k1
 replace k2:=Hq.mk k2
 replace k3:=Hq.mk k3
 replace k4:=Hq.mk k4
 clear hR
 refine fn0_of_codeI ok D.ref04_level rfl ?_
 conv=>whnf
 repeat ((first|refine opsI.step ?_|refine codeI.step ?_);conv=>whnf)
 repeat' first|((first|(show SeqN _ _ _ _ _ _ _;refine SeqN.go ?_)|((first|refine opsI.step ?_|refine codeI.step ?_))|intro (_:Nat)|refine Ld.own 0 rfl rfl ?_) <;> (conv=>whnf))|(refine cnd_eq (fun _=>?_) (fun _=>?_) <;> first|(exfalso;omega)|(conv=>whnf))
 all_goals first
  | (rw [k0.out (by omega)];exact RetN.all rfl)
  | (rw [k1.out (by omega)];exact RetN.all rfl)
  | (rw [k2.out (by omega)];exact RetN.all rfl)
  | (rw [k3.out (by omega)];exact RetN.all rfl)
  | (rw [k4.out (by omega) (by omega) (by omega) (by omega)];exact RetN.all rfl)
def Txs (t:Tr):Prop:=∀(h:Heap) (vs:List Value),IsE h vs t→Fn0 T F.ref04_Text [.agg vs.toArray] h fun v h'=>v=.string (txt (textT t))
theorem rplaced_ct (t:Tr) (c:Txs t) (hl:(textT t).length≤900000) (low:Int) (h:Heap) (vs:List Value) (w:IsE h vs t):Fn0 T F.ref04_placed [.agg vs.toArray,.int .i64 low] h fun v h'=>v=.string (txt (placeX (textT t,levT t.op) low)):=by
 have c1:=fun h vs w=>c h vs w
 have c2:=fun h vs w=>rlevel_ct t h vs w
 have k0:low≤levT t.op→placeX (textT t,levT t.op) low=textT t:=fun x=>if_pos x
 have k1:¬low≤levT t.op→placeX (textT t,levT t.op) low=[40]++textT t++[41]:=fun x=>if_neg x
 obtain ⟨R,hR⟩:∃R,R=placeX (textT t,levT t.op) low:=⟨_,rfl⟩
 obtain ⟨X,hX⟩:∃X,X=textT t:=⟨_,rfl⟩
 obtain ⟨V,hV⟩:∃V,V=levT t.op:=⟨_,rfl⟩
 rw [← hR]
 rw [← hR,← hX,← hV] at k0 k1
 rw [← hX] at hl
 simp only [← hX] at c1
 simp only [← hV] at c2
 clear hR hX hV c
 replace k0:=Hq.mk k0
 replace k1:=Hq.mk k1
 obtain ⟨⟨op,arg,neg,l,m,name,ks⟩,ht⟩:∃x,x=t:=⟨_,rfl⟩
 obtain ⟨a,b,s,hvs,-⟩:=(ht.symm▸w:IsE h vs (.mk op arg neg l m name ks)).isK
 subst hvs
 refine fn0_of_codeI ok D.ref04_placed rfl ?_
 conv=>whnf
 repeat ((first|refine opsI.step ?_|refine codeI.step ?_);conv=>whnf)
 repeat' first|((first|(show LdN _ _ _ _ _;refine LdN.ownAt 0 rfl rfl ?_)|(show CallN _ _ _ _ _ _;first|(refine CallN.fn rfl (c1 _ _ (by assumption)) (fun v h' hl2 hr=>?_);subst hr)|(refine CallN.fn rfl (c2 _ _ (by (iterate 30 try first|assumption|refine IsE.mono ?_ (by assumption));first|done|assumption)) (fun v h' hl2 hr=>?_);subst hr))|(show Cat _ _ _;first|(refine Cat.txt (a:=[40]) rfl rfl (by simp;omega) ?_)|(refine Cat.txt (b:=[41]) rfl rfl (by simp;omega) ?_))|((first|refine opsI.step ?_|refine codeI.step ?_))|intro (_:Nat)) <;> (conv=>whnf))|(refine cnd_lt (fun _=>?_) (fun _=>?_) <;> first|(exfalso;omega)|(conv=>whnf))
 all_goals first
  | (rw [k0.out (by omega)];exact RetN.all rfl)
  | (rw [k1.out (by omega)];exact RetN.all rfl)
theorem DigitsX_ct (h:Heap) (n:Int) (h1:-100≤n) (h2:n≤100):Fn0 T F.ref04_Digits [.int .i64 n] h fun v h'=>v=.string (txt (itT n)):=by
 have hf:=fits_int n (by omega) (by omega)
 have c1:=fun h=>IntQ_ct h n (by omega) (by omega)
 have c2:=fun h (a b:Sl) w=>RText_ct h a b (n:Rat) w ⟨hf.1,hf.2⟩
 simp only [fmtL_int] at c2
 obtain ⟨Q,hQ⟩:∃Q,Q=(n:Rat):=⟨_,rfl⟩
 simp only [← hQ] at c1 c2
 clear hQ hf
 refine fn0_of_codeI ok D.ref04_Digits rfl ?_
 conv=>whnf
 repeat ((first|refine opsI.step ?_|refine codeI.step ?_);conv=>whnf)
 repeat' first|((first|(show CallN _ _ _ _ _ _;first|(refine CallN.fn rfl (c1 _) (fun v h' hl2 hr=>?_);obtain ⟨s5,t5,rfl,hq5⟩:=hr)|(refine CallN.fn rfl (c2 _ _ _ hq5) (fun v h' hl2 hr=>?_);subst hr))|((first|refine opsI.step ?_|refine codeI.step ?_))) <;> (conv=>whnf))
 all_goals exact RetN.all rfl
end Go.Proofs.YtmblpmegfmgjgaaGreatDoor
/- The document's text of a tree: words with operands, the whole, what Print answers. -/
namespace Go.Proofs.YtmblpmegfmgjgaaGreatDoor
open Go Go.Vc Go.Dig
attribute [local irreducible] Vc.Fn
theorem RName_ct (h:Heap) (n:Nat) (h1:1≤n) (h8:n≤8):Fn0 T F.ref02_Name [.int .i64 n] h fun v h'=>v=.string (txt (fnames.getD (n-1) [])):=by
 have hk:n=1∨n=2∨n=3∨n=4∨n=5∨n=6∨n=7∨n=8:=by omega
 rcases hk with rfl|rfl|rfl|rfl|rfl|rfl|rfl|rfl
 ·refine fn0_of_codeI ok D.ref02_Name rfl ?_
  conv=>whnf
  repeat ((first|refine opsI.step ?_|refine codeI.step ?_);conv=>whnf)
  repeat' first|((first|(show Idx _ _ _ _ _;refine Idx.one 0 rfl rfl (by decide) ?_)|((first|refine opsI.step ?_|refine codeI.step ?_))|intro (_:Nat)|refine WrapN.i64 (by omega) (by omega) ?_|refine Ld.own 0 rfl rfl ?_) <;> (conv=>whnf))|(refine cnd_lt (fun _=>?_) (fun _=>?_) <;> first|(exfalso;omega)|(conv=>whnf))
  all_goals exact RetN.all rfl
 ·refine fn0_of_codeI ok D.ref02_Name rfl ?_
  conv=>whnf
  repeat ((first|refine opsI.step ?_|refine codeI.step ?_);conv=>whnf)
  repeat' first|((first|(show Idx _ _ _ _ _;refine Idx.one 1 rfl rfl (by decide) ?_)|((first|refine opsI.step ?_|refine codeI.step ?_))|intro (_:Nat)|refine WrapN.i64 (by omega) (by omega) ?_|refine Ld.own 0 rfl rfl ?_) <;> (conv=>whnf))|(refine cnd_lt (fun _=>?_) (fun _=>?_) <;> first|(exfalso;omega)|(conv=>whnf))
  all_goals exact RetN.all rfl
 ·refine fn0_of_codeI ok D.ref02_Name rfl ?_
  conv=>whnf
  repeat ((first|refine opsI.step ?_|refine codeI.step ?_);conv=>whnf)
  repeat' first|((first|(show Idx _ _ _ _ _;refine Idx.one 2 rfl rfl (by decide) ?_)|((first|refine opsI.step ?_|refine codeI.step ?_))|intro (_:Nat)|refine WrapN.i64 (by omega) (by omega) ?_|refine Ld.own 0 rfl rfl ?_) <;> (conv=>whnf))|(refine cnd_lt (fun _=>?_) (fun _=>?_) <;> first|(exfalso;omega)|(conv=>whnf))
  all_goals exact RetN.all rfl
 ·refine fn0_of_codeI ok D.ref02_Name rfl ?_
  conv=>whnf
  repeat ((first|refine opsI.step ?_|refine codeI.step ?_);conv=>whnf)
  repeat' first|((first|(show Idx _ _ _ _ _;refine Idx.one 3 rfl rfl (by decide) ?_)|((first|refine opsI.step ?_|refine codeI.step ?_))|intro (_:Nat)|refine WrapN.i64 (by omega) (by omega) ?_|refine Ld.own 0 rfl rfl ?_) <;> (conv=>whnf))|(refine cnd_lt (fun _=>?_) (fun _=>?_) <;> first|(exfalso;omega)|(conv=>whnf))
  all_goals exact RetN.all rfl
 ·refine fn0_of_codeI ok D.ref02_Name rfl ?_
  conv=>whnf
  repeat ((first|refine opsI.step ?_|refine codeI.step ?_);conv=>whnf)
  repeat' first|((first|(show Idx _ _ _ _ _;refine Idx.one 4 rfl rfl (by decide) ?_)|((first|refine opsI.step ?_|refine codeI.step ?_))|intro (_:Nat)|refine WrapN.i64 (by omega) (by omega) ?_|refine Ld.own 0 rfl rfl ?_) <;> (conv=>whnf))|(refine cnd_lt (fun _=>?_) (fun _=>?_) <;> first|(exfalso;omega)|(conv=>whnf))
  all_goals exact RetN.all rfl
 ·refine fn0_of_codeI ok D.ref02_Name rfl ?_
  conv=>whnf
  repeat ((first|refine opsI.step ?_|refine codeI.step ?_);conv=>whnf)
  repeat' first|((first|(show Idx _ _ _ _ _;refine Idx.one 5 rfl rfl (by decide) ?_)|((first|refine opsI.step ?_|refine codeI.step ?_))|intro (_:Nat)|refine WrapN.i64 (by omega) (by omega) ?_|refine Ld.own 0 rfl rfl ?_) <;> (conv=>whnf))|(refine cnd_lt (fun _=>?_) (fun _=>?_) <;> first|(exfalso;omega)|(conv=>whnf))
  all_goals exact RetN.all rfl
 ·refine fn0_of_codeI ok D.ref02_Name rfl ?_
  conv=>whnf
  repeat ((first|refine opsI.step ?_|refine codeI.step ?_);conv=>whnf)
  repeat' first|((first|(show Idx _ _ _ _ _;refine Idx.one 6 rfl rfl (by decide) ?_)|((first|refine opsI.step ?_|refine codeI.step ?_))|intro (_:Nat)|refine WrapN.i64 (by omega) (by omega) ?_|refine Ld.own 0 rfl rfl ?_) <;> (conv=>whnf))|(refine cnd_lt (fun _=>?_) (fun _=>?_) <;> first|(exfalso;omega)|(conv=>whnf))
  all_goals exact RetN.all rfl
 ·refine fn0_of_codeI ok D.ref02_Name rfl ?_
  conv=>whnf
  repeat ((first|refine opsI.step ?_|refine codeI.step ?_);conv=>whnf)
  repeat' first|((first|(show Idx _ _ _ _ _;refine Idx.one 7 rfl rfl (by decide) ?_)|((first|refine opsI.step ?_|refine codeI.step ?_))|intro (_:Nat)|refine WrapN.i64 (by omega) (by omega) ?_|refine Ld.own 0 rfl rfl ?_) <;> (conv=>whnf))|(refine cnd_lt (fun _=>?_) (fun _=>?_) <;> first|(exfalso;omega)|(conv=>whnf))
  all_goals exact RetN.all rfl
theorem called_ct {ks:List Tr} (hw:∀t∈ks,Txs t) (hks:ks.length≤3) (h:Heap) (op arg:Int) (hop:10≤op∧op≤15) (harg:-100≤arg∧arg≤100) (harg11:op=11→1≤arg∧arg≤8) (neg:Bool) (a b':Sl) (name:List Nat) (s:Sl)
  (hk:IsK h s ks) (hl:(headX op arg).length+(joinF true (textsT ks)).length+1≤900000):
  Fn0 T F.ref04_called [.agg #[.int .i64 op,.int .i64 arg,.bool neg,a.val,b'.val,.string (txt name),s.val]] h fun v h'=>v=.string (txt (headX op arg++joinF true (textsT ks)++[41])):=by
 have hkl:=hk.len
 have c1:=fun h=>DigitsX_ct h arg (by omega) (by omega)
 have hil:=itT_len harg.1 harg.2
 have hhl:=headX_len (op:=op) harg.1 harg.2
 have k1:op=10→arg=2→headX op arg=[115,113,114,116,40]:=fun e f=>by rw [headX,if_pos e,if_pos f]
 have k2:op=10→arg≠2→headX op arg=[114,111,111,116,40]++itT arg++[44,32]:=fun e f=>by rw [headX,if_pos e,if_neg f]
 have k3:op=11→headX op arg=fnames.getD (arg.toNat-1) []++[40]:=fun e=>by subst e;rfl
 have k4:op=12→headX op arg=[97,98,115,40]:=fun e=>by subst e;rfl
 have k5:op=13→headX op arg=[109,105,110,40]:=fun e=>by subst e;rfl
 have k6:op=14→headX op arg=[109,97,120,40]:=fun e=>by subst e;rfl
 have k7:op=15→headX op arg=[105,102,40]:=fun e=>by subst e;rfl
 obtain ⟨HD,hHD⟩:∃x,x=headX op arg:=⟨_,rfl⟩
 rw [← hHD] at hl hhl k1 k2 k3 k4 k5 k6 k7 ⊢
 clear hHD
 have c3:op=11→∀h,Fn0 T F.ref02_Name [.int .i64 arg] h fun v h'=>v=.string (txt (fnames.getD (arg.toNat-1) [])):=fun e h=>by
  have:=RName_ct h arg.toNat (by have:=(harg11 e).1;omega) (by have:=(harg11 e).2;omega)
  rw [Int.toNat_of_nonneg (by have:=(harg11 e).1;omega)] at this;exact this
 have hfl:=fname_len (arg.toNat-1)
 obtain ⟨FN,hFN⟩:∃x,x=fnames.getD (arg.toNat-1) []:=⟨_,rfl⟩
 rw [← hFN] at c3 k3 hfl
 clear hFN
 refine fn0_of_codeI ok D.ref04_called rfl ?_
 conv=>whnf
 repeat ((first|refine opsI.step ?_|refine codeI.step ?_);conv=>whnf)
 repeat' first|(refine codeI.stopS 2 ?_)|((first|refine opsI.step ?_|refine codeI.step ?_);conv=>whnf)|(intro (_:Nat);conv=>whnf)
 rename_i bE
 refine ⟨SeqN.cut (fun ρ hx Lx=>rd ρ 3=.string (txt HD)∧h.le hx∧Lx=[(bE,.cells [.int .i64 op,.int .i64 arg,.bool neg,a.val,b'.val,.string (txt name),s.val].toArray Ty.api_Expr (0,0))]) ?_ ?_⟩
 ·conv=>whnf
  repeat ((first|refine opsI.step ?_|refine codeI.step ?_);conv=>whnf)
  repeat' first|((first|(show CallN _ _ _ _ _ _;first|(refine CallN.fn rfl (c1 _) (fun v h' hl2 hr=>?_);subst hr)|(refine CallN.fn rfl (c3 (by omega) _) (fun v h' hl2 hr=>?_);subst hr))|(show Cat _ _ _;first|(refine Cat.txt (a:=[114,111,111,116,40]) (b:=itT arg) rfl rfl (by first|omega|(simp only [List.length_append,List.length_cons,List.length_nil];omega)) ?_)|(refine Cat.txt (a:=[114,111,111,116,40]++itT arg) (b:=[44,32]) rfl rfl (by first|omega|(simp only [List.length_append,List.length_cons,List.length_nil];omega)) ?_)|(refine Cat.txt (a:=FN) (b:=[40]) rfl rfl (by first|omega|(simp only [List.length_append,List.length_cons,List.length_nil];omega)) ?_))|((first|refine opsI.step ?_|refine codeI.step ?_))|refine Ld.own 0 rfl rfl ?_) <;> (conv=>whnf))|(show cnd _ _ _;first|(refine cnd_eq (fun _=>?_) (fun _=>?_) <;> first|(exfalso;omega)|(conv=>whnf))|(refine cnd_not ?_))
  all_goals first
   | exact ⟨rfl,by rw [k1 (by omega) (by omega)];rfl,by first|exact Heap.le_refl _|assumption,rfl⟩
   | exact ⟨rfl,by rw [k2 (by omega) (by omega)];rfl,by first|exact Heap.le_refl _|assumption,rfl⟩
   | exact ⟨rfl,by rw [k3 (by omega)];rfl,by assumption,rfl⟩
   | exact ⟨rfl,by rw [k4 (by omega)];rfl,Heap.le_refl _,rfl⟩
   | exact ⟨rfl,by rw [k5 (by omega)];rfl,Heap.le_refl _,rfl⟩
   | exact ⟨rfl,by rw [k6 (by omega)];rfl,Heap.le_refl _,rfl⟩
   | exact ⟨rfl,by rw [k7 (by omega)];rfl,Heap.le_refl _,rfl⟩
 conv=>whnf
 repeat intro _
 rename_i h1 L1 hJ
 obtain ⟨e4,hle1,rfl⟩:=hJ
 conv at e4=>lhs;whnf
 subst e4
 have hk1:=hk.mono hle1
 have htl:=textsT_len ks
 have hjl:=joinF_len true (textsT ks)
 clear k1 k2 k3 k4 k5 k6 k7 c1 c3
 conv=>whnf
 repeat ((first|refine opsI.step ?_|refine codeI.step ?_);conv=>whnf)
 skip
 refine LoopN.keepL (fun r ρ hx=>∃j:Nat,r=ks.length-j∧j≤ks.length∧rd ρ 4=.int .i64 j∧rd ρ 3=.string (txt (HD++joinF true ((textsT ks).take j)))) ks.length
  ⟨0,rfl,Nat.zero_le _,vi rfl,by rw [List.take_zero,joinF,List.append_nil];rfl⟩ ?_
 conv=>whnf
 repeat intro _
 rename_i r hx hle hI
 obtain ⟨j,rfl,hj,e5,e4⟩:=hI
 conv at e5=>lhs;whnf
 subst e5
 obtain ⟨Y,hY⟩:∃Y,Y=HD++joinF true ((textsT ks).take j):=⟨_,rfl⟩
 rw [← hY] at e4
 conv at e4=>lhs;whnf
 subst e4
 have hkx:=hk1.mono hle
 have hYl:=congrArg List.length hY
 rw [List.length_append] at hYl
 by_cases hjk:j=ks.length
 ·subst hjk
  rw [← htl,List.take_length] at hY hYl
  conv=>whnf
  repeat ((first|refine opsI.step ?_|refine codeI.step ?_);conv=>whnf)
  repeat' first|((first|(show Cat _ _ _;(refine Cat.txt (a:=Y) (b:=[41]) rfl rfl (by first|omega|(simp only [List.length_append,List.length_cons,List.length_nil];omega)) ?_))|((first|refine opsI.step ?_|refine codeI.step ?_))|refine Ld.own 0 rfl rfl ?_) <;> (conv=>whnf))|(refine cnd_lt (fun _=>?_) (fun _=>?_) <;> first|(exfalso;omega)|(conv=>whnf))
  all_goals exact RetN.all (by rw [hY])
 ·obtain ⟨t,ht⟩:∃t,ks[j]?=some t:=⟨_,List.getElem?_eq_getElem (by omega)⟩
  have hgt:=textsT_get ht
  have hsp:=sum_split hgt
  have hjj:=joinF_take_le true (j+1) (textsT ks)
  have hj0:=joinF_take_le true j (textsT ks)
  have htk:(textsT ks).take (j+1)=(textsT ks).take j++[(textT t,levT t.op)]:=take_snoc hgt
  have hjs:joinF true ((textsT ks).take j++[(textT t,levT t.op)])=joinF true ((textsT ks).take j)++(if true=true∧(textsT ks).take j=[] then [] else [44,32])++textT t:=joinF_snoc true ((textsT ks).take j) (textT t,levT t.op)
  rw [← htk] at hjs
  have hlt:((textsT ks).take j).length=j:=by rw [List.length_take,htl];omega
  have hne:(textsT ks).take j=[]↔j=0:=by rw [← List.length_eq_zero_iff,hlt]
  have c2:=fun h vs w=>hw t (List.mem_of_getElem? ht) h vs w
  have h1s:j=0→Y++textT t=HD++joinF true ((textsT ks).take (j+1)):=fun e=>by rw [hjs,if_pos ⟨rfl,hne.2 e⟩,hY,List.append_nil,List.append_assoc]
  have h2s:j≠0→Y++[44,32]++textT t=HD++joinF true ((textsT ks).take (j+1)):=fun e=>by rw [hjs,if_neg (fun y=>e (hne.1 y.2)),hY];simp only [List.append_assoc]
  obtain ⟨X,hX⟩:∃X,X=textT t:=⟨_,rfl⟩
  simp only [← hX] at c2 h1s h2s hsp
  have hl2:=congrArg List.length hjs
  rw [← hX,List.length_append,List.length_append] at hl2
  clear hjs htk hX hgt hne
  replace h1s:=Hq.mk h1s
  replace h2s:=Hq.mk h2s
  conv=>whnf
  repeat ((first|refine opsI.step ?_|refine codeI.step ?_);conv=>whnf)
  repeat' first|((first|(show SeqN _ _ _ _ _ _ _;refine SeqN.go ?_)|(show Idx _ _ _ _ _;refine Idx.kid hkx j t (by omega) ht (fun ad op2 arg2 neg2 a2 b2 name2 s2 hE hld=>?_))|refine hld _ _ _ (Heap.le_refl _) ?_|((first|refine opsI.step ?_|refine codeI.step ?_))|(show CallN _ _ _ _ _ _;(refine CallN.fn rfl (c2 _ _ (hE.mono (by first|assumption|exact Heap.le_refl _))) (fun v h' hl2 hr=>?_);subst hr))|(show Cat _ _ _;first|(refine Cat.txt (a:=Y) (b:=[44,32]) rfl rfl (by first|omega|(simp only [List.length_append,List.length_cons,List.length_nil];omega)) ?_)|(refine Cat.txt (a:=Y) (b:=X) rfl rfl (by first|omega|(simp only [List.length_append,List.length_cons,List.length_nil];omega)) ?_)|(refine Cat.txt (a:=Y++[44,32]) (b:=X) rfl rfl (by first|omega|(simp only [List.length_append,List.length_cons,List.length_nil];omega)) ?_))|refine WrapN.i64 (by omega) (by omega) ?_|refine Ld.own 0 rfl rfl ?_) <;> (conv=>whnf))|(refine cnd_lt (fun _=>?_) (fun _=>?_) <;> first|(exfalso;omega)|(conv=>whnf))
  all_goals first
   | exact ⟨rfl,ks.length-(j+1),by omega,(by (iterate 30 try first|assumption|refine Heap.le_trans ?_ (by assumption));first|done|assumption),rfl,j+1,rfl,by omega,vi (by omega),by rw [← h1s.out (by omega)];rfl⟩
   | exact ⟨rfl,ks.length-(j+1),by omega,(by (iterate 30 try first|assumption|refine Heap.le_trans ?_ (by assumption));first|done|assumption),rfl,j+1,rfl,by omega,vi (by omega),by rw [← h2s.out (by omega)];rfl⟩
theorem kinds_of {op arg:Int} {neg:Bool} {l m name:List Nat} {n:Nat} (h:nodeB op arg neg l m name n):op=1∨op=2∨op=3∨op=4∨op=5∨op=6∨op=7∨op=8∨op=9∨(10≤op∧op≤15):=by
 have h1:=h.1
 unfold kidsN at h1
 repeat' split at h1
 all_goals omega
theorem RTextT_ct:∀(t:Tr) (d:Nat),okT d t→szT t≤300→Txs t:=by
 refine tree_ind fun t ih=>?_
 intro d hok hsz h vs w
 have hlen:=textT_len t d hok
 obtain ⟨op,arg,neg,l,m,name,ks⟩:=t
 obtain ⟨a,b,s,rfl,ho,ha,hv,hb,hk⟩:=w.isK
 rw [okT] at hok
 obtain ⟨hd,hnb,hoks⟩:=hok
 have hx1:∀k,szT k<szT (.mk op arg neg l m name ks)→k∈ks→Txs k∧(textT k).length≤450000:=fun k hz hm=>by
  have ok1:okT (d+1) k:=okTs_mem hoks hm
  have:=textT_len k (d+1) ok1
  exact ⟨ih k hz (d+1) ok1 (by omega),by omega⟩
 have kn:=kinds_of hnb
 rcases kn with rfl|rfl|rfl|rfl|rfl|rfl|rfl|rfl|rfl|hop
 ·rw [textT]
  show Fn0 T _ _ _ fun v h'=>v=.string (txt (fmtL (ratOf neg l m)))
  have c1:=fun h hv=>QOf_ct h neg a b l m hv
  have c2:=fun h (c d:Sl) w=>RText_ct h c d (ratOf neg l m) w (node_sz hnb)
  obtain ⟨q,hq⟩:∃q,q=ratOf neg l m:=⟨_,rfl⟩
  simp only [← hq] at c1 c2 ⊢
  clear hq
  refine fn0_of_codeI ok D.ref04_Text rfl ?_
  conv=>whnf
  repeat ((first|refine opsI.step ?_|refine codeI.step ?_);conv=>whnf)
  repeat' first|((first|(show LdN _ _ _ _ _;refine LdN.ownAt 0 rfl rfl ?_)|(show CallN _ _ _ _ _ _;first|(refine CallN.fn rfl (c1 _ (by assumption)) (fun v h' hl2 hr=>?_);obtain ⟨cc,dd,rfl,hfr⟩:=hr)|(refine CallN.fn rfl (c2 _ _ _ hfr) (fun v h' hl2 hr=>?_);subst hr))|((first|refine opsI.step ?_|refine codeI.step ?_))|intro (_:Nat)|refine Ld.own 0 rfl rfl ?_) <;> (conv=>whnf))|(refine cnd_eq (fun _=>?_) (fun _=>?_) <;> first|(exfalso;omega)|(conv=>whnf))
  all_goals exact RetN.all rfl
 ·rw [textT]
  show Fn0 T _ _ _ fun v h'=>v=.string (txt name)
  refine fn0_of_codeI ok D.ref04_Text rfl ?_
  conv=>whnf
  repeat ((first|refine opsI.step ?_|refine codeI.step ?_);conv=>whnf)
  repeat' first|((first|((first|refine opsI.step ?_|refine codeI.step ?_))|intro (_:Nat)|refine Ld.own 0 rfl rfl ?_) <;> (conv=>whnf))|(refine cnd_eq (fun _=>?_) (fun _=>?_) <;> first|(exfalso;omega)|(conv=>whnf))
  all_goals exact RetN.all rfl
 ·rw [textT]
  show Fn0 T _ _ _ fun v h'=>v=.string (txt [112,105])
  refine fn0_of_codeI ok D.ref04_Text rfl ?_
  conv=>whnf
  repeat ((first|refine opsI.step ?_|refine codeI.step ?_);conv=>whnf)
  repeat' first|((first|((first|refine opsI.step ?_|refine codeI.step ?_))|intro (_:Nat)|refine Ld.own 0 rfl rfl ?_) <;> (conv=>whnf))|(refine cnd_eq (fun _=>?_) (fun _=>?_) <;> first|(exfalso;omega)|(conv=>whnf))
  all_goals exact RetN.all rfl
 ·obtain ⟨k,rfl⟩:=one_kid hnb.1 (by decide)
  obtain ⟨bl1,off1,op1,ar1,ng1,nn1,dd1,nm1,ss1,hE1,hld1,hln1,hix1⟩:=hk.kidP 0 _ rfl
  have hk1:=hx1 k (szT_kid (j:=0) rfl) (List.mem_cons_self ..)
  have q1:=fun h vs low w=>rplaced_ct k hk1.1 (by have:=hk1.2;omega) low h vs w
  have l1:=placeX_len (textT k,levT k.op) 3
  rw [textT,textsT,textsT]
  show Fn0 T _ _ _ fun v h'=>v=.string (txt ([45]++placeX (textT k,levT k.op) 3))
  have hl1:=hk1.2
  clear hk1
  replace q1:=fun h vs w=>q1 h vs 3 w
  obtain ⟨P1,hP1⟩:∃P,P=placeX (textT k,levT k.op) 3:=⟨_,rfl⟩
  simp only [← hP1] at q1 l1 ⊢
  clear hP1
  have hkl:s.l=1:=hk.len
  refine fn0_of_codeI ok D.ref04_Text rfl ?_
  conv=>whnf
  repeat ((first|refine opsI.step ?_|refine codeI.step ?_);conv=>whnf)
  repeat' first|((first|refine hix1 _ _ rfl ?_|((first|refine opsI.step ?_|refine codeI.step ?_))|intro (_:Nat)|(show LdN _ _ _ _ _;(refine LdN.hasN [.int .i64 op1,.int .i64 ar1,.bool ng1,nn1.val,dd1.val,.string (txt nm1),ss1.val] rfl (fun i v hv=>hld1 _ _ i v (by first|assumption|exact Heap.le_refl _) hv) ?_))|(show CallN _ _ _ _ _ _;(refine CallN.fn rfl (q1 _ _ (hE1.mono (by first|assumption|exact Heap.le_refl _))) (fun v h' hl2 hr=>?_);subst hr))|(show Cat _ _ _;(refine Cat.txt (a:=[45]) (b:=P1) rfl rfl (by first|omega|(simp only [List.length_append,List.length_cons,List.length_nil];omega)) ?_))|refine Ld.own 0 rfl rfl ?_) <;> (conv=>whnf))|(refine cnd_eq (fun _=>?_) (fun _=>?_) <;> first|(exfalso;omega)|(conv=>whnf))
  all_goals exact RetN.all rfl
 ·obtain ⟨k,k',rfl⟩:=two_kids hnb.1 (by decide)
  obtain ⟨bl1,off1,op1,ar1,ng1,nn1,dd1,nm1,ss1,hE1,hld1,hln1,hix1⟩:=hk.kidP 0 _ rfl
  obtain ⟨bl2,off2,op2,ar2,ng2,nn2,dd2,nm2,ss2,hE2,hld2,hln2,hix2⟩:=hk.kidP 1 _ rfl
  have hk1:=hx1 k (szT_kid (j:=0) rfl) (List.mem_cons_self ..)
  have hk2:=hx1 k' (szT_kid (j:=1) rfl) (List.mem_cons_of_mem _ (List.mem_cons_self ..))
  have q1:=fun h vs w=>rplaced_ct k hk1.1 (by have:=hk1.2;omega) 1 h vs w
  have q2:=fun h vs w=>rplaced_ct k' hk2.1 (by have:=hk2.2;omega) 2 h vs w
  have l1:=placeX_len (textT k,levT k.op) 1
  have l2:=placeX_len (textT k',levT k'.op) 2
  have hl1:=hk1.2
  have hl2:=hk2.2
  rw [textT,textsT,textsT,textsT]
  show Fn0 T _ _ _ fun v h'=>v=.string (txt (placeX (textT k,levT k.op) 1++[32,43,32]++placeX (textT k',levT k'.op) 2))
  clear hk1 hk2
  obtain ⟨P1,hP1⟩:∃P,P=placeX (textT k,levT k.op) 1:=⟨_,rfl⟩
  obtain ⟨P2,hP2⟩:∃P,P=placeX (textT k',levT k'.op) 2:=⟨_,rfl⟩
  simp only [← hP1] at q1 l1 ⊢
  simp only [← hP2] at q2 l2 ⊢
  clear hP1 hP2
  have hkl:s.l=2:=hk.len
  refine fn0_of_codeI ok D.ref04_Text rfl ?_
  conv=>whnf
  repeat ((first|refine opsI.step ?_|refine codeI.step ?_);conv=>whnf)
  repeat' first|((first|refine hix1 _ _ rfl ?_|refine hix2 _ _ rfl ?_|((first|refine opsI.step ?_|refine codeI.step ?_))|refine ⟨fun _=>HasLe.of_le (by assumption),?_⟩|intro (_:Nat)|(show LdN _ _ _ _ _;first|(refine LdN.hasN [.int .i64 op1,.int .i64 ar1,.bool ng1,nn1.val,dd1.val,.string (txt nm1),ss1.val] rfl (fun i v hv=>hld1 _ _ i v (by first|assumption|exact Heap.le_refl _) hv) ?_)|(refine LdN.hasN [.int .i64 op2,.int .i64 ar2,.bool ng2,nn2.val,dd2.val,.string (txt nm2),ss2.val] rfl (fun i v hv=>hld2 _ _ i v (by first|assumption|exact Heap.le_refl _) hv) ?_))|(show CallN _ _ _ _ _ _;first|(refine CallN.fn rfl (q1 _ _ (hE1.mono (by first|assumption|exact Heap.le_refl _))) (fun v h' hl2 hr=>?_);subst hr)|(refine CallN.fn rfl (q2 _ _ (hE2.mono (by assumption))) (fun v h' hl2 hr=>?_);subst hr))|(show Cat _ _ _;first|(refine Cat.txt (a:=P1) (b:=[32,43,32]) rfl rfl (by first|omega|(simp only [List.length_append,List.length_cons,List.length_nil];omega)) ?_)|(refine Cat.txt (a:=P1++[32,43,32]) (b:=P2) rfl rfl (by first|omega|(simp only [List.length_append,List.length_cons,List.length_nil];omega)) ?_))|refine Ld.own 0 rfl rfl ?_|refine DrawN.run (by decide +kernel) ?_) <;> (conv=>whnf))|(refine cnd_eq (fun _=>?_) (fun _=>?_) <;> first|(exfalso;omega)|(conv=>whnf))
  all_goals exact RetN.all rfl
 ·obtain ⟨k,k',rfl⟩:=two_kids hnb.1 (by decide)
  obtain ⟨bl1,off1,op1,ar1,ng1,nn1,dd1,nm1,ss1,hE1,hld1,hln1,hix1⟩:=hk.kidP 0 _ rfl
  obtain ⟨bl2,off2,op2,ar2,ng2,nn2,dd2,nm2,ss2,hE2,hld2,hln2,hix2⟩:=hk.kidP 1 _ rfl
  have hk1:=hx1 k (szT_kid (j:=0) rfl) (List.mem_cons_self ..)
  have hk2:=hx1 k' (szT_kid (j:=1) rfl) (List.mem_cons_of_mem _ (List.mem_cons_self ..))
  have q1:=fun h vs w=>rplaced_ct k hk1.1 (by have:=hk1.2;omega) 1 h vs w
  have q2:=fun h vs w=>rplaced_ct k' hk2.1 (by have:=hk2.2;omega) 2 h vs w
  have l1:=placeX_len (textT k,levT k.op) 1
  have l2:=placeX_len (textT k',levT k'.op) 2
  have hl1:=hk1.2
  have hl2:=hk2.2
  rw [textT,textsT,textsT,textsT]
  show Fn0 T _ _ _ fun v h'=>v=.string (txt (placeX (textT k,levT k.op) 1++[32,45,32]++placeX (textT k',levT k'.op) 2))
  clear hk1 hk2
  obtain ⟨P1,hP1⟩:∃P,P=placeX (textT k,levT k.op) 1:=⟨_,rfl⟩
  obtain ⟨P2,hP2⟩:∃P,P=placeX (textT k',levT k'.op) 2:=⟨_,rfl⟩
  simp only [← hP1] at q1 l1 ⊢
  simp only [← hP2] at q2 l2 ⊢
  clear hP1 hP2
  have hkl:s.l=2:=hk.len
  refine fn0_of_codeI ok D.ref04_Text rfl ?_
  conv=>whnf
  repeat ((first|refine opsI.step ?_|refine codeI.step ?_);conv=>whnf)
  repeat' first|((first|refine hix1 _ _ rfl ?_|refine hix2 _ _ rfl ?_|((first|refine opsI.step ?_|refine codeI.step ?_))|refine ⟨fun _=>HasLe.of_le (by assumption),?_⟩|intro (_:Nat)|(show LdN _ _ _ _ _;first|(refine LdN.hasN [.int .i64 op1,.int .i64 ar1,.bool ng1,nn1.val,dd1.val,.string (txt nm1),ss1.val] rfl (fun i v hv=>hld1 _ _ i v (by first|assumption|exact Heap.le_refl _) hv) ?_)|(refine LdN.hasN [.int .i64 op2,.int .i64 ar2,.bool ng2,nn2.val,dd2.val,.string (txt nm2),ss2.val] rfl (fun i v hv=>hld2 _ _ i v (by first|assumption|exact Heap.le_refl _) hv) ?_))|(show CallN _ _ _ _ _ _;first|(refine CallN.fn rfl (q1 _ _ (hE1.mono (by first|assumption|exact Heap.le_refl _))) (fun v h' hl2 hr=>?_);subst hr)|(refine CallN.fn rfl (q2 _ _ (hE2.mono (by assumption))) (fun v h' hl2 hr=>?_);subst hr))|(show Cat _ _ _;first|(refine Cat.txt (a:=P1) (b:=[32,45,32]) rfl rfl (by first|omega|(simp only [List.length_append,List.length_cons,List.length_nil];omega)) ?_)|(refine Cat.txt (a:=P1++[32,45,32]) (b:=P2) rfl rfl (by first|omega|(simp only [List.length_append,List.length_cons,List.length_nil];omega)) ?_))|refine Ld.own 0 rfl rfl ?_|refine DrawN.run (by decide +kernel) ?_) <;> (conv=>whnf))|(refine cnd_eq (fun _=>?_) (fun _=>?_) <;> first|(exfalso;omega)|(conv=>whnf))
  all_goals exact RetN.all rfl
 ·obtain ⟨k,k',rfl⟩:=two_kids hnb.1 (by decide)
  obtain ⟨bl1,off1,op1,ar1,ng1,nn1,dd1,nm1,ss1,hE1,hld1,hln1,hix1⟩:=hk.kidP 0 _ rfl
  obtain ⟨bl2,off2,op2,ar2,ng2,nn2,dd2,nm2,ss2,hE2,hld2,hln2,hix2⟩:=hk.kidP 1 _ rfl
  have hk1:=hx1 k (szT_kid (j:=0) rfl) (List.mem_cons_self ..)
  have hk2:=hx1 k' (szT_kid (j:=1) rfl) (List.mem_cons_of_mem _ (List.mem_cons_self ..))
  have q1:=fun h vs w=>rplaced_ct k hk1.1 (by have:=hk1.2;omega) 2 h vs w
  have q2:=fun h vs w=>rplaced_ct k' hk2.1 (by have:=hk2.2;omega) 3 h vs w
  have l1:=placeX_len (textT k,levT k.op) 2
  have l2:=placeX_len (textT k',levT k'.op) 3
  have hl1:=hk1.2
  have hl2:=hk2.2
  rw [textT,textsT,textsT,textsT]
  show Fn0 T _ _ _ fun v h'=>v=.string (txt (placeX (textT k,levT k.op) 2++[32,42,32]++placeX (textT k',levT k'.op) 3))
  clear hk1 hk2
  obtain ⟨P1,hP1⟩:∃P,P=placeX (textT k,levT k.op) 2:=⟨_,rfl⟩
  obtain ⟨P2,hP2⟩:∃P,P=placeX (textT k',levT k'.op) 3:=⟨_,rfl⟩
  simp only [← hP1] at q1 l1 ⊢
  simp only [← hP2] at q2 l2 ⊢
  clear hP1 hP2
  have hkl:s.l=2:=hk.len
  refine fn0_of_codeI ok D.ref04_Text rfl ?_
  conv=>whnf
  repeat ((first|refine opsI.step ?_|refine codeI.step ?_);conv=>whnf)
  repeat' first|((first|refine hix1 _ _ rfl ?_|refine hix2 _ _ rfl ?_|((first|refine opsI.step ?_|refine codeI.step ?_))|refine ⟨fun _=>HasLe.of_le (by assumption),?_⟩|intro (_:Nat)|(show LdN _ _ _ _ _;first|(refine LdN.hasN [.int .i64 op1,.int .i64 ar1,.bool ng1,nn1.val,dd1.val,.string (txt nm1),ss1.val] rfl (fun i v hv=>hld1 _ _ i v (by first|assumption|exact Heap.le_refl _) hv) ?_)|(refine LdN.hasN [.int .i64 op2,.int .i64 ar2,.bool ng2,nn2.val,dd2.val,.string (txt nm2),ss2.val] rfl (fun i v hv=>hld2 _ _ i v (by first|assumption|exact Heap.le_refl _) hv) ?_))|(show CallN _ _ _ _ _ _;first|(refine CallN.fn rfl (q1 _ _ (hE1.mono (by first|assumption|exact Heap.le_refl _))) (fun v h' hl2 hr=>?_);subst hr)|(refine CallN.fn rfl (q2 _ _ (hE2.mono (by assumption))) (fun v h' hl2 hr=>?_);subst hr))|(show Cat _ _ _;first|(refine Cat.txt (a:=P1) (b:=[32,42,32]) rfl rfl (by first|omega|(simp only [List.length_append,List.length_cons,List.length_nil];omega)) ?_)|(refine Cat.txt (a:=P1++[32,42,32]) (b:=P2) rfl rfl (by first|omega|(simp only [List.length_append,List.length_cons,List.length_nil];omega)) ?_))|refine Ld.own 0 rfl rfl ?_|refine DrawN.run (by decide +kernel) ?_) <;> (conv=>whnf))|(refine cnd_eq (fun _=>?_) (fun _=>?_) <;> first|(exfalso;omega)|(conv=>whnf))
  all_goals exact RetN.all rfl
 ·obtain ⟨k,k',rfl⟩:=two_kids hnb.1 (by decide)
  obtain ⟨bl1,off1,op1,ar1,ng1,nn1,dd1,nm1,ss1,hE1,hld1,hln1,hix1⟩:=hk.kidP 0 _ rfl
  obtain ⟨bl2,off2,op2,ar2,ng2,nn2,dd2,nm2,ss2,hE2,hld2,hln2,hix2⟩:=hk.kidP 1 _ rfl
  have hk1:=hx1 k (szT_kid (j:=0) rfl) (List.mem_cons_self ..)
  have hk2:=hx1 k' (szT_kid (j:=1) rfl) (List.mem_cons_of_mem _ (List.mem_cons_self ..))
  have q1:=fun h vs w=>rplaced_ct k hk1.1 (by have:=hk1.2;omega) 2 h vs w
  have q2:=fun h vs w=>rplaced_ct k' hk2.1 (by have:=hk2.2;omega) 3 h vs w
  have l1:=placeX_len (textT k,levT k.op) 2
  have l2:=placeX_len (textT k',levT k'.op) 3
  have hl1:=hk1.2
  have hl2:=hk2.2
  rw [textT,textsT,textsT,textsT]
  show Fn0 T _ _ _ fun v h'=>v=.string (txt (placeX (textT k,levT k.op) 2++[32,47,32]++placeX (textT k',levT k'.op) 3))
  clear hk1 hk2
  obtain ⟨P1,hP1⟩:∃P,P=placeX (textT k,levT k.op) 2:=⟨_,rfl⟩
  obtain ⟨P2,hP2⟩:∃P,P=placeX (textT k',levT k'.op) 3:=⟨_,rfl⟩
  simp only [← hP1] at q1 l1 ⊢
  simp only [← hP2] at q2 l2 ⊢
  clear hP1 hP2
  have hkl:s.l=2:=hk.len
  refine fn0_of_codeI ok D.ref04_Text rfl ?_
  conv=>whnf
  repeat ((first|refine opsI.step ?_|refine codeI.step ?_);conv=>whnf)
  repeat' first|((first|refine hix1 _ _ rfl ?_|refine hix2 _ _ rfl ?_|((first|refine opsI.step ?_|refine codeI.step ?_))|refine ⟨fun _=>HasLe.of_le (by assumption),?_⟩|intro (_:Nat)|(show LdN _ _ _ _ _;first|(refine LdN.hasN [.int .i64 op1,.int .i64 ar1,.bool ng1,nn1.val,dd1.val,.string (txt nm1),ss1.val] rfl (fun i v hv=>hld1 _ _ i v (by first|assumption|exact Heap.le_refl _) hv) ?_)|(refine LdN.hasN [.int .i64 op2,.int .i64 ar2,.bool ng2,nn2.val,dd2.val,.string (txt nm2),ss2.val] rfl (fun i v hv=>hld2 _ _ i v (by first|assumption|exact Heap.le_refl _) hv) ?_))|(show CallN _ _ _ _ _ _;first|(refine CallN.fn rfl (q1 _ _ (hE1.mono (by first|assumption|exact Heap.le_refl _))) (fun v h' hl2 hr=>?_);subst hr)|(refine CallN.fn rfl (q2 _ _ (hE2.mono (by assumption))) (fun v h' hl2 hr=>?_);subst hr))|(show Cat _ _ _;first|(refine Cat.txt (a:=P1) (b:=[32,47,32]) rfl rfl (by first|omega|(simp only [List.length_append,List.length_cons,List.length_nil];omega)) ?_)|(refine Cat.txt (a:=P1++[32,47,32]) (b:=P2) rfl rfl (by first|omega|(simp only [List.length_append,List.length_cons,List.length_nil];omega)) ?_))|refine Ld.own 0 rfl rfl ?_|refine DrawN.run (by decide +kernel) ?_) <;> (conv=>whnf))|(refine cnd_eq (fun _=>?_) (fun _=>?_) <;> first|(exfalso;omega)|(conv=>whnf))
  all_goals exact RetN.all rfl
 ·obtain ⟨k,rfl⟩:=one_kid hnb.1 (by decide)
  obtain ⟨bl1,off1,op1,ar1,ng1,nn1,dd1,nm1,ss1,hE1,hld1,hln1,hix1⟩:=hk.kidP 0 _ rfl
  have hk1:=hx1 k (szT_kid (j:=0) rfl) (List.mem_cons_self ..)
  have q1:=fun h vs low w=>rplaced_ct k hk1.1 (by have:=hk1.2;omega) low h vs w
  have l1:=placeX_len (textT k,levT k.op) 5
  rw [textT,textsT,textsT]
  show Fn0 T _ _ _ fun v h'=>v=.string (txt ( placeX (textT k,levT k.op) 5++([94]++itT arg)))
  have hl1:=hk1.2
  clear hk1
  replace q1:=fun h vs w=>q1 h vs 5 w
  obtain ⟨P1,hP1⟩:∃P,P=placeX (textT k,levT k.op) 5:=⟨_,rfl⟩
  simp only [← hP1] at q1 l1 ⊢
  clear hP1
  have hkl:s.l=1:=hk.len
  have n2:=hnb.2.1
  have n3:=hnb.2.2.1
  rw [show lowA 9=-32 by decide] at n2
  rw [show highA 9=32 by decide] at n3
  have hil:=itT_len (n:=arg) (by omega) (by omega)
  have dg:=fun h=>DigitsX_ct h arg (by omega) (by omega)
  rw [← List.append_assoc]
  refine fn0_of_codeI ok D.ref04_Text rfl ?_
  conv=>whnf
  repeat ((first|refine opsI.step ?_|refine codeI.step ?_);conv=>whnf)
  repeat' first|((first|refine hix1 _ _ rfl ?_|((first|refine opsI.step ?_|refine codeI.step ?_))|refine ⟨fun _=>HasLe.of_le (by assumption),?_⟩|intro (_:Nat)|(show LdN _ _ _ _ _;(refine LdN.hasN [.int .i64 op1,.int .i64 ar1,.bool ng1,nn1.val,dd1.val,.string (txt nm1),ss1.val] rfl (fun i v hv=>hld1 _ _ i v (by first|assumption|exact Heap.le_refl _) hv) ?_))|(show CallN _ _ _ _ _ _;first|(refine CallN.fn rfl (q1 _ _ (hE1.mono (by first|assumption|exact Heap.le_refl _))) (fun v h' hl2 hr=>?_);subst hr)|(refine CallN.fn rfl (dg _) (fun v h' hl2 hr=>?_);subst hr))|(show Cat _ _ _;first|(refine Cat.txt (a:=P1) (b:=[94]) rfl rfl (by first|omega|(simp only [List.length_append,List.length_cons,List.length_nil];omega)) ?_)|(refine Cat.txt (a:=P1++[94]) (b:=itT arg) rfl rfl (by first|omega|(simp only [List.length_append,List.length_cons,List.length_nil];omega)) ?_))|refine Ld.own 0 rfl rfl ?_|refine DrawN.run (by decide +kernel) ?_) <;> (conv=>whnf))|(refine cnd_eq (fun _=>?_) (fun _=>?_) <;> first|(exfalso;omega)|(conv=>whnf))
  all_goals exact RetN.all rfl
 ·have hks:ks.length≤3:=by
   have h1:=hnb.1
   have h2:=kidsN_le op
   omega
  have harg:-100≤arg∧arg≤100:=by
   have n2:=hnb.2.1
   have n3:=hnb.2.2.1
   unfold lowA at n2
   unfold highA at n3
   repeat' split at n2
   all_goals (repeat' split at n3)
   all_goals omega
  have h11:op=11→1≤arg∧arg≤8:=fun e=>by
   have n2:=hnb.2.1
   have n3:=hnb.2.2.1
   rw [e] at n2 n3
   rw [show lowA 11=1 by decide] at n2
   rw [show highA 11=8 by decide] at n3
   exact ⟨n2,n3⟩
  have e:textT (.mk op arg neg l m name ks)=headX op arg++joinF true (textsT ks)++[41]:=by
   rw [textT,nodeX,if_neg (by omega),if_neg (by omega),if_neg (by omega),if_neg (by omega),if_neg (by omega),if_neg (by omega),if_neg (by omega)]
  rw [e] at hlen ⊢
  rw [List.length_append,List.length_append] at hlen
  have cc:=fun h hk=>called_ct (fun k hm=>(hx1 k (by obtain ⟨i,hi,rfl⟩:=List.mem_iff_getElem.1 hm;exact szT_kid (List.getElem?_eq_getElem hi)) hm).1) hks h op arg hop harg h11 neg a b name s hk (by simp only [List.length_cons,List.length_nil] at hlen;omega)
  obtain ⟨X,hX⟩:∃X,X=headX op arg++joinF true (textsT ks)++[41]:=⟨_,rfl⟩
  simp only [← hX] at cc ⊢
  clear hX hx1 hlen e
  refine fn0_of_codeI ok D.ref04_Text rfl ?_
  conv=>whnf
  repeat ((first|refine opsI.step ?_|refine codeI.step ?_);conv=>whnf)
  repeat' first|((first|(show LdN _ _ _ _ _;refine LdN.ownAt 0 rfl rfl ?_)|(show CallN _ _ _ _ _ _;(refine CallN.fn rfl (cc _ (hk.mono (by first|assumption|exact Heap.le_refl _))) (fun v h' hl2 hr=>?_);subst hr))|((first|refine opsI.step ?_|refine codeI.step ?_))|intro (_:Nat)|refine Ld.own 0 rfl rfl ?_) <;> (conv=>whnf))|(refine cnd_eq (fun _=>?_) (fun _=>?_) <;> first|(exfalso;omega)|(conv=>whnf))
  all_goals exact RetN.all rfl
theorem RPrint_ct (t:Tr) (h:Heap) (vs:List Value) (w:IsE h vs t):Fn0 T F.ref04_Print [.agg vs.toArray] h fun v h'=>v=.tuple #[.string (txt (printX t).1),.int .i64 (printX t).2]:=by
 have c1:=fun h w=>RValid_ct t h vs w
 have c2:=fun h w (x:ValT t)=>RTextT_ct t 1 x.1 x.2 h vs w
 have hz:=txt_size (textT t)
 have r1:¬ValT t→printX t=([],40):=fun x=>if_neg x
 have r2:ValT t→4000<(textT t).length→printX t=([],4):=fun x y=>by unfold printX;rw [if_pos x,if_pos y]
 have r3:ValT t→¬4000<(textT t).length→printX t=(textT t,0):=fun x y=>by unfold printX;rw [if_pos x,if_neg y]
 obtain ⟨R,hR⟩:∃R,R=printX t:=⟨_,rfl⟩
 obtain ⟨X,hX⟩:∃X,X=textT t:=⟨_,rfl⟩
 rw [← hR] at r1 r2 r3 ⊢
 rw [← hX] at r2 r3 hz
 simp only [← hX] at c2
 clear hR hX
 obtain ⟨⟨op,arg,neg,l,m,name,ks⟩,ht⟩:∃u,u=t:=⟨_,rfl⟩
 obtain ⟨a,b,s,hvs,-⟩:=(ht.symm▸w:IsE h vs (.mk op arg neg l m name ks)).isK
 subst hvs
 refine fn0_of_codeI ok D.ref04_Print rfl ?_
 conv=>whnf
 repeat ((first|refine opsI.step ?_|refine codeI.step ?_);conv=>whnf)
 repeat' first|((first|(show CallN _ _ _ _ _ _;first|(refine CallN.fn rfl (c1 _ (by assumption)) (fun v h' hl2 hr=>?_);subst hr)|(refine CallN.fn rfl (c2 _ (by (iterate 30 try first|assumption|refine IsE.mono ?_ (by assumption));first|done|assumption) (by assumption)) (fun v h' hl3 hr=>?_);subst hr))|((first|refine opsI.step ?_|refine codeI.step ?_))|intro (_:Nat)|refine LdN.own 0 rfl rfl ?_) <;> (conv=>whnf))|(show cnd _ _ _;first|(refine cnd_lt (fun _=>?_) (fun _=>?_) <;> first|(exfalso;omega)|(conv=>whnf))|(refine cnd_not ?_)|(refine cnd_dec (fun _=>?_) (fun _=>?_) <;> first|(exfalso;omega)|(conv=>whnf)))
 all_goals first
  | (rw [r1 (by assumption)];exact RetN.all rfl)
  | (rw [r2 (by assumption) (by omega)];exact RetN.all rfl)
  | (rw [r3 (by assumption) (by omega)];exact RetN.all rfl)
end Go.Proofs.YtmblpmegfmgjgaaGreatDoor
/- ExprPrints: its law. -/
namespace Go.Proofs.YtmblpmegfmgjgaaGreatDoor
open Go Go.Vc Go.Dig
theorem printX_byte {h:Heap} {vs:List Value} {t:Tr} (w:IsE h vs t):∀y∈(printX t).1,y<256:=by
 unfold printX
 split
 ·rename_i hv
  split
  ·intro y hy;cases hy
  ·exact textT_byte t 1 h vs hv.1 w
 ·intro y hy;cases hy
theorem printX_ok {t:Tr} (h:(printX t).2=0):ValT t∧(textT t).length≤4000∧(printX t).1=textT t:=by
 unfold printX at h ⊢
 split at h
 ·rename_i hv
  split at h
  ·cases h
  ·rename_i hl
   rw [if_pos hv,if_neg hl]
   exact ⟨hv,by omega,rfl⟩
 ·cases h
attribute [local irreducible] Vc.Fn
theorem Prints_law (h:Heap) (tb:Tb h) (pw:Pw h) (t:Tr) (vs:List Value) (w:IsE h vs t):Fn0 T F.law04_ExprPrints [.agg vs.toArray] h fun v h'=>v=.bool true:=by
 have hb:=printX_byte w
 have c2:=fun h tb pw w=>Print_ct t h vs tb pw w
 have c4:=fun h w=>RPrint_ct t h vs w
 have pk:=fun x=>printX_ok (t:=t) x
 have c9:=fun h tb pw=>sane_ct h tb pw
 obtain ⟨⟨X,x⟩,hX⟩:∃X,X=printX t:=⟨_,rfl⟩
 rw [← hX] at hb
 simp only [← hX] at c2 c4 pk
 replace hb:∀y∈X,y<256:=hb
 replace pk:x=0→ValT t∧(textT t).length≤4000∧X=textT t:=pk
 replace c2:∀h,Tb h→Pw h→IsE h vs t→Fn0 T F.expr_Print [.agg vs.toArray] h fun v h'=>v=.tuple #[.string (txt X),.int .i64 x]:=c2
 replace c4:∀h,IsE h vs t→Fn0 T F.ref04_Print [.agg vs.toArray] h fun v h'=>v=.tuple #[.string (txt X),.int .i64 x]:=c4
 clear hX
 by_cases hx:x=0
 ·subst hx
  obtain ⟨hv,hl,e⟩:=pk rfl
  clear pk
  have c3:=fun h w=>longest_ct t 1 hv.1 h vs w
  have e5:parseX X=(cloneT (reT t),0,0):=by rw [e];exact parse_text hv hl
  have c5:=fun h tb=>Parse_c h tb X hb
  simp only [e5] at c5
  replace c5:∀h,Tb h→Fn0 T F.expr_Parse [.string (txt X)] h fun v h'=>∃a,v=.tuple #[a,.int .i64 (0:Nat),.int .i64 (0:Nat)]∧VE h' a (cloneT (reT t)):=c5
  have hv2:ValT (cloneT (reT t)):=val_clone (reT_val hv)
  have e3:sameB (cloneT (reT t)) t=true:=sameB_key.2 (read_key hv)
  have c6:=fun h us w w'=>Same_ct (cloneT (reT t)) t h us vs 1 1 w w' hv2.1 hv.1
  simp only [e3] at c6
  clear e3 hv2 e e5 hl
  obtain ⟨C,hC⟩:∃C,C=cloneT (reT t):=⟨_,rfl⟩
  simp only [← hC] at c5 c6
  clear hC
  obtain ⟨⟨op,arg,neg,l,m,name,ks⟩,ht⟩:∃x,x=t:=⟨_,rfl⟩
  obtain ⟨a,b,s,hvs,-⟩:=(ht.symm▸w:IsE h vs (.mk op arg neg l m name ks)).isK
  subst hvs
  refine fn0_of_codeI ok D.law04_ExprPrints rfl ?_
  conv=>whnf
  repeat ((first|refine opsI.step ?_|refine codeI.step ?_);conv=>whnf)
  repeat' first|((first|(show LdN _ _ _ _ _;first|refine LdN.ownAt 0 rfl rfl ?_|refine LdN.ownAt 1 rfl rfl ?_)|(show CallN _ _ _ _ _ _;first|(refine CallN.fn rfl (c2 _ (by assumption) (by iterate 14 (try first|assumption|refine Pw.mono ?_ (by assumption))) (by assumption)) (fun v h' hl2 hr=>?_);subst hr)|(refine CallN.fn rfl (c4 _ (by (iterate 30 try first|assumption|refine IsE.mono ?_ (by assumption));first|done|assumption)) (fun v h' hl2 hr=>?_);subst hr)|(refine CallN.fn rfl (c3 _ (by (iterate 30 try first|assumption|refine IsE.mono ?_ (by assumption));first|done|assumption)) (fun v h' hl2 hr=>?_);obtain ⟨N3,rfl⟩:=hr)|(refine CallN.fn rfl (c5 _ (by (iterate 30 try first|assumption|refine Tb.mono ?_ (by assumption));first|done|assumption)) (fun v h' hl2 hr=>?_);obtain ⟨_,rfl,op7,ar7,ng7,nn7,dd7,nm7,ss7,rfl,hE7⟩:=hr)|(refine CallN.fn rfl (c6 _ _ (hE7.mono (by first|assumption|exact Heap.le_refl _)) (by (iterate 30 try first|assumption|refine IsE.mono ?_ (by assumption));first|done|assumption)) (fun v h' hl2 hr=>?_);subst hr)|(refine CallN.fn rfl (c9 _ (by (iterate 30 try first|assumption|refine Tb.mono ?_ (by assumption));first|done|assumption) (by iterate 14 (try first|assumption|refine Pw.mono ?_ (by assumption)))) (fun v h' hl2 hr=>?_);subst hr))|((first|refine opsI.step ?_|refine codeI.step ?_))|intro (_:Nat)|refine Sto.lit 0 rfl rfl rfl ?_) <;> (conv=>whnf))|(show cnd _ _ _;first|(refine cnd_txt hb hb (fun _=>?_) (fun hne=>absurd rfl hne);conv=>whnf)|(refine cnd_lt (fun _=>?_) (fun _=>?_) <;> first|(exfalso;omega)|(conv=>whnf))|(refine cnd_eq (fun _=>?_) (fun _=>?_) <;> first|(exfalso;omega)|(conv=>whnf))|(refine cnd_not ?_))
  all_goals exact RetN.all rfl
 ·clear pk
  obtain ⟨⟨op,arg,neg,l,m,name,ks⟩,ht⟩:∃x,x=t:=⟨_,rfl⟩
  obtain ⟨a,b,s,hvs,-⟩:=(ht.symm▸w:IsE h vs (.mk op arg neg l m name ks)).isK
  subst hvs
  refine fn0_of_codeI ok D.law04_ExprPrints rfl ?_
  conv=>whnf
  repeat ((first|refine opsI.step ?_|refine codeI.step ?_);conv=>whnf)
  repeat' first|((first|(show LdN _ _ _ _ _;refine LdN.ownAt 0 rfl rfl ?_)|(show CallN _ _ _ _ _ _;first|(refine CallN.fn rfl (c2 _ (by assumption) (by iterate 14 (try first|assumption|refine Pw.mono ?_ (by assumption))) (by assumption)) (fun v h' hl2 hr=>?_);subst hr)|(refine CallN.fn rfl (c4 _ (by (iterate 30 try first|assumption|refine IsE.mono ?_ (by assumption));first|done|assumption)) (fun v h' hl2 hr=>?_);subst hr)|(refine CallN.fn rfl (c9 _ (by (iterate 30 try first|assumption|refine Tb.mono ?_ (by assumption));first|done|assumption) (by iterate 14 (try first|assumption|refine Pw.mono ?_ (by assumption)))) (fun v h' hl2 hr=>?_);subst hr))|((first|refine opsI.step ?_|refine codeI.step ?_))|intro (_:Nat)) <;> (conv=>whnf))|(show cnd _ _ _;first|(refine cnd_txt hb hb (fun _=>?_) (fun hne=>absurd rfl hne);conv=>whnf)|(refine cnd_eq (fun _=>?_) (fun _=>?_) <;> first|(exfalso;omega)|(conv=>whnf))|(refine cnd_not ?_))
  all_goals exact RetN.all rfl
end Go.Proofs.YtmblpmegfmgjgaaGreatDoor