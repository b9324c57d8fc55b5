/- ExprNormal: its law. -/
import Derived.Test.YtmblpmegfmgjgaaGreatDoorE93
import Derived.Test.YtmblpmegfmgjgaaGreatDoorE33
import Derived.Test.YtmblpmegfmgjgaaGreatDoorE29
import Derived.Test.YtmblpmegfmgjgaaGreatDoorU2
import Derived.Test.YtmblpmegfmgjgaaGreatDoorE25
import Derived.Test.YtmblpmegfmgjgaaGreatDoorE42
import Derived.Test.YtmblpmegfmgjgaaGreatDoorE62
import Derived.Test.YtmblpmegfmgjgaaGreatDoorVcStop
set_option linter.unusedVariables false
set_option linter.unusedSimpArgs false
set_option maxHeartbeats 1000000
set_option maxRecDepth 20000
namespace Go.Proofs.YtmblpmegfmgjgaaGreatDoor
open Go Go.Vc Go.Dig
attribute [local irreducible] Vc.Fn
theorem longest_ct:∀(t:Tr) (d:Nat),okT d t→∀(h:Heap) (vs:List Value),IsE h vs t→Fn0 T F.law04_longest [.agg vs.toArray] h fun v h'=>∃n:Int,v=.int .i64 n:=by
 refine tree_ind fun t ih=>?_
 intro d hok h vs w
 obtain ⟨op,arg,neg,l,m,name,ks⟩:=t
 obtain ⟨a,b,s,rfl,ho,ha,hv,hb,hk⟩:=w.isK
 rw [okT] at hok
 obtain ⟨hd,hnb,hoks⟩:=hok
 have hkl:=hk.len
 have hks:ks.length≤3:=by
  have h1:=hnb.1
  have h2:=kidsN_le op
  omega
 have c1:=fun h hv=>QOf_ct h neg a b l m hv
 have c2:=fun h (c d:Sl) w=>RText_ct h c d (ratOf neg l m) w (node_sz hnb)
 obtain ⟨q,hq⟩:∃q,q=ratOf neg l m:=⟨_,rfl⟩
 simp only [← hq] at c1 c2
 clear hq hnb
 refine fn0_of_codeI ok D.law04_longest rfl ?_
 conv=>whnf
 repeat ((first|refine opsI.step ?_|refine codeI.step ?_);conv=>whnf)
 repeat' first|((first|(show LdN _ _ _ _ _;refine LdN.ownAt 0 rfl rfl ?_)|(show CallN _ _ _ _ _ _;first|(refine CallN.fn rfl (c1 _ (by assumption)) (fun v h' hl2 hr=>?_);obtain ⟨cc,dd,rfl,hfr⟩:=hr)|(refine CallN.fn rfl (c2 _ _ _ hfr) (fun v h' hl2 hr=>?_);subst hr))|((first|refine opsI.step ?_|refine codeI.step ?_))|intro (_:Nat)) <;> (conv=>whnf))
 refine LoopN.keepL (fun r ρ hx=>∃(j:Nat) (N:Int),r=ks.length-j∧j≤ks.length∧rd ρ 4=.int .i64 j∧rd ρ 3=.int .i64 N) ks.length ⟨0,_,rfl,Nat.zero_le _,rfl,rfl⟩ ?_
 conv=>whnf
 repeat intro _
 rename_i r hx hle hI
 obtain ⟨j,N,rfl,hj,e4,e3⟩:=hI
 conv at e4=>lhs;whnf
 subst e4
 conv at e3=>lhs;whnf
 subst e3
 have hkx:IsK hx s ks:=hk.mono (by (iterate 30 try first|assumption|refine Heap.le_trans ?_ (by assumption));first|done|assumption)
 by_cases hjl:j=ks.length
 ·conv=>whnf
  repeat ((first|refine opsI.step ?_|refine codeI.step ?_);conv=>whnf)
  repeat' first|((first|((first|refine opsI.step ?_|refine codeI.step ?_))|refine Ld.own 0 rfl rfl ?_) <;> (conv=>whnf))|(refine cnd_lt (fun _=>?_) (fun _=>?_) <;> first|(exfalso;omega)|(conv=>whnf))
  all_goals exact RetN.all ⟨_,rfl⟩
 ·obtain ⟨t,het⟩:∃t,ks[j]?=some t:=⟨_,List.getElem?_eq_getElem (by omega)⟩
  have c3:=fun h vs w=>ih t (szT_kid het) (d+1) (okTs_get hoks het) h vs w
  conv=>whnf
  repeat ((first|refine opsI.step ?_|refine codeI.step ?_);conv=>whnf)
  repeat' first|((first|(show Idx _ _ _ _ _;refine Idx.kid hkx j t (by omega) het (fun ad op2 arg2 neg2 a2 b2 name2 s2 hE hld=>?_))|refine hld _ _ _ (Heap.le_refl _) ?_|((first|refine opsI.step ?_|refine codeI.step ?_))|(show CallN _ _ _ _ _ _;(refine CallN.fn rfl (c3 _ _ hE) (fun v h' hl2 hr=>?_);obtain ⟨N3,rfl⟩:=hr))|refine WrapN.i64 (by omega) (by omega) ?_|refine Ld.own 0 rfl rfl ?_) <;> (conv=>whnf))|(refine cnd_lt (fun _=>?_) (fun _=>?_) <;> first|(exfalso;omega)|(conv=>whnf))
  all_goals exact ⟨rfl,ks.length-(j+1),by omega,(by (iterate 30 try first|assumption|refine Heap.le_trans ?_ (by assumption));first|done|assumption),rfl,j+1,_,rfl,by omega,vi (by omega),rfl⟩
theorem Normal_law (h:Heap) (tb:Tb h) (pw:Pw h) (sa:ByteArray) (hsa:sa.size≤maxLen):Fn0 T F.law04_ExprNormal [.string sa] h fun v h'=>v=.bool true:=by
 obtain ⟨na,hla⟩:∃l,l=rl sa:=⟨_,rfl⟩
 have hna:∀y∈na,y<256:=by rw [hla];exact rl_lt sa
 obtain rfl:sa=txt na:=by rw [hla,txt_rl]
 clear hla hsa
 have c1:=fun h tb=>Parse_c h tb na hna
 have pv:=fun x=>parseX_val (l:=na) x
 obtain ⟨⟨X,p,x⟩,hX⟩:∃X,X=parseX na:=⟨_,rfl⟩
 simp only [← hX] at c1 pv
 replace c1:∀h,Tb h→Fn0 T F.expr_Parse [.string (txt na)] h fun v h'=>∃a,v=.tuple #[a,.int .i64 p,.int .i64 x]∧VE h' a X:=c1
 replace pv:x=0→ValT X∧p=0:=pv
 have c9:=fun h tb pw=>sane_ct h tb pw
 clear hX
 by_cases hx:x=0
 ·subst hx
  obtain ⟨hv,rfl⟩:=pv rfl
  have c3:=fun h vs w=>longest_ct X 1 hv.1 h vs w
  have c2:=fun h vs tb pw w=>Print_ct X h vs tb pw w
  by_cases hl:4000<(textT X).length
  ·have e:printX X=([],4):=by unfold printX;rw [if_pos hv,if_pos hl]
   simp only [e] at c2
   refine fn0_of_codeI ok D.law04_ExprNormal rfl ?_
   conv=>whnf
   repeat ((first|refine opsI.step ?_|refine codeI.step ?_);conv=>whnf)
   repeat' first|((first|(show LdN _ _ _ _ _;refine LdN.ownAt 0 rfl rfl ?_)|(show CallN _ _ _ _ _ _;first|(refine CallN.fn rfl (c1 _ (by assumption)) (fun v h' hl2 hr=>?_);obtain ⟨_,rfl,op6,ar6,ng6,nn6,dd6,nm6,ss6,rfl,hE6⟩:=hr)|(refine CallN.fn rfl (c2 _ _ (by (iterate 30 try first|assumption|refine Tb.mono ?_ (by assumption));first|done|assumption) (by iterate 14 (try first|assumption|refine Pw.mono ?_ (by assumption))) (hE6.mono (by first|assumption|exact Heap.le_refl _))) (fun v h' hl2 hr=>?_);subst hr)|(refine CallN.fn rfl (c9 _ (by (iterate 30 try first|assumption|refine Tb.mono ?_ (by assumption));first|done|assumption) (by iterate 14 (try first|assumption|refine Pw.mono ?_ (by assumption)))) (fun v h' hl2 hr=>?_);subst hr))|((first|refine opsI.step ?_|refine codeI.step ?_))|intro (_:Nat)|refine Sto.lit 0 rfl rfl rfl ?_) <;> (conv=>whnf))|(show cnd _ _ _;first|(refine cnd_eq (fun _=>?_) (fun _=>?_) <;> first|(exfalso;omega)|(conv=>whnf))|(refine cnd_not ?_))
   all_goals first
    | exact RetN.all rfl
    | exact RetN.all (congrArg Value.bool (by decide))
    | exact RetN.all (congrArg Value.bool (by unfold Vc.eq;simp))
    | exact RetN.all (congrArg Value.bool (by simp [Vc.eq]))
  ·have e:printX X=(textT X,0):=by unfold printX;rw [if_pos hv,if_neg hl]
   have hv2:ValT (cloneT (reT X)):=val_clone (reT_val hv)
   have e2:printX (cloneT (reT X))=(textT X,0):=by unfold printX;rw [if_pos hv2,textT_key (read_key hv),if_neg hl]
   have e3:sameB (cloneT (reT X)) X=true:=sameB_key.2 (read_key hv)
   have c4:=fun h tb hb=>Parse_c h tb (textT X) hb
   simp only [parse_text hv (by omega)] at c4
   replace c4:∀h,Tb h→(∀y∈textT X,y<256)→Fn0 T F.expr_Parse [.string (txt (textT X))] h fun v h'=>∃a,v=.tuple #[a,.int .i64 (0:Nat),.int .i64 (0:Nat)]∧VE h' a (cloneT (reT X)):=c4
   have c5:=fun h vs tb pw w=>Print_ct (cloneT (reT X)) h vs tb pw w
   have c6:=fun h us vs w w'=>Same_ct (cloneT (reT X)) X h us vs 1 1 w w' hv2.1 hv.1
   simp only [e] at c2
   simp only [e2] at c5
   simp only [e3] at c6
   clear e e2 e3 hv2
   obtain ⟨C,hC⟩:∃C,C=cloneT (reT X):=⟨_,rfl⟩
   simp only [← hC] at c4 c5 c6
   clear hC
   refine fn0_of_codeI ok D.law04_ExprNormal rfl ?_
   conv=>whnf
   repeat ((first|refine opsI.step ?_|refine codeI.step ?_);conv=>whnf)
   repeat' first|((first|(show LdN _ _ _ _ _;first|refine LdN.ownAt 0 rfl rfl ?_|refine LdN.ownAt 1 rfl rfl ?_)|(show CallN _ _ _ _ _ _;first|(refine CallN.fn rfl (c1 _ (by assumption)) (fun v h' hl2 hr=>?_);obtain ⟨_,rfl,op6,ar6,ng6,nn6,dd6,nm6,ss6,rfl,hE6⟩:=hr)|(refine CallN.fn rfl (c2 _ _ (by (iterate 30 try first|assumption|refine Tb.mono ?_ (by assumption));first|done|assumption) (by iterate 14 (try first|assumption|refine Pw.mono ?_ (by assumption))) (hE6.mono (by first|assumption|exact Heap.le_refl _))) (fun v h' hl2 hr=>?_);subst hr)|(refine CallN.fn rfl (c3 _ _ (hE6.mono (by assumption))) (fun v h' hl2 hr=>?_);obtain ⟨N3,rfl⟩:=hr)|(refine CallN.fn rfl (c4 _ (by (iterate 30 try first|assumption|refine Tb.mono ?_ (by assumption));first|done|assumption) (textT_byte _ _ _ _ hv.1 hE6)) (fun v h' hl2 hr=>?_);obtain ⟨_,rfl,op7,ar7,ng7,nn7,dd7,nm7,ss7,rfl,hE7⟩:=hr)|(refine CallN.fn rfl (c5 _ _ (by (iterate 30 try first|assumption|refine Tb.mono ?_ (by assumption));first|done|assumption) (by iterate 14 (try first|assumption|refine Pw.mono ?_ (by assumption))) (hE7.mono (by first|assumption|exact Heap.le_refl _))) (fun v h' hl2 hr=>?_);subst hr)|(refine CallN.fn rfl (c6 _ _ _ (hE7.mono (by (iterate 30 try first|assumption|refine Heap.le_trans ?_ (by assumption));first|done|assumption)) (hE6.mono (by (iterate 30 try first|assumption|refine Heap.le_trans ?_ (by assumption));first|done|assumption))) (fun v h' hl2 hr=>?_);subst hr)|(refine CallN.fn rfl (c9 _ (by (iterate 30 try first|assumption|refine Tb.mono ?_ (by assumption));first|done|assumption) (by iterate 14 (try first|assumption|refine Pw.mono ?_ (by assumption)))) (fun v h' hl2 hr=>?_);subst hr))|((first|refine opsI.step ?_|refine codeI.step ?_))|intro (_:Nat)|refine Sto.lit 0 rfl rfl rfl ?_) <;> (conv=>whnf))|(show cnd _ _ _;first|(refine cnd_txt (textT_byte _ _ _ _ hv.1 hE6) (textT_byte _ _ _ _ hv.1 hE6) (fun _=>?_) (fun hne=>absurd rfl hne);conv=>whnf)|(refine cnd_lt (fun _=>?_) (fun _=>?_) <;> first|(exfalso;omega)|(conv=>whnf))|(refine cnd_eq (fun _=>?_) (fun _=>?_) <;> first|(exfalso;omega)|(conv=>whnf))|(refine cnd_not ?_))
   all_goals exact RetN.all rfl
 ·clear pv
  refine fn0_of_codeI ok D.law04_ExprNormal rfl ?_
  conv=>whnf
  repeat ((first|refine opsI.step ?_|refine codeI.step ?_);conv=>whnf)
  repeat' first|((first|(show CallN _ _ _ _ _ _;first|(refine CallN.fn rfl (c1 _ (by assumption)) (fun v h' hl2 hr=>?_);obtain ⟨_,rfl,op6,ar6,ng6,nn6,dd6,nm6,ss6,rfl,hE6⟩:=hr)|(refine CallN.fn rfl (c9 _ (by (iterate 30 try first|assumption|refine Tb.mono ?_ (by assumption));first|done|assumption) (by iterate 14 (try first|assumption|refine Pw.mono ?_ (by assumption)))) (fun v h' hl2 hr=>?_);subst hr))|((first|refine opsI.step ?_|refine codeI.step ?_))|intro (_:Nat)|refine Sto.lit 0 rfl rfl rfl ?_) <;> (conv=>whnf))|(show cnd _ _ _;first|(refine cnd_eq (fun _=>?_) (fun _=>?_) <;> first|(exfalso;omega)|(conv=>whnf))|(refine cnd_not ?_))
  all_goals exact RetN.all rfl
end Go.Proofs.YtmblpmegfmgjgaaGreatDoor
/- The document's text of a tree. -/
namespace Go.Proofs.YtmblpmegfmgjgaaGreatDoor
open Go Go.Vc Go.Dig
attribute [local irreducible] Vc.Fn
def Txs (t:Tr):Prop:=∀(h:Heap) (vs:List Value),IsE h vs t→Fn0 T F.ref04_Text [.agg vs.toArray] h fun v h'=>v=.string (txt (textT t))
end Go.Proofs.YtmblpmegfmgjgaaGreatDoor
/- The document's text of a tree: words with operands, the whole, what Print answers. -/
namespace Go.Proofs.YtmblpmegfmgjgaaGreatDoor
open Go Go.Vc Go.Dig
attribute [local irreducible] Vc.Fn
theorem RName_ct (h:Heap) (n:Nat) (h1:1≤n) (h8:n≤8):Fn0 T F.ref02_Name [.int .i64 n] h fun v h'=>v=.string (txt (fnames.getD (n-1) [])):=by
 have hk:n=1∨n=2∨n=3∨n=4∨n=5∨n=6∨n=7∨n=8:=by omega
 rcases hk with rfl|rfl|rfl|rfl|rfl|rfl|rfl|rfl
 ·refine fn0_of_codeI ok D.ref02_Name rfl ?_
  conv=>whnf
  repeat ((first|refine opsI.step ?_|refine codeI.step ?_);conv=>whnf)
  repeat' first|((first|(show Idx _ _ _ _ _;refine Idx.one 0 rfl rfl (by decide) ?_)|((first|refine opsI.step ?_|refine codeI.step ?_))|intro (_:Nat)|refine WrapN.i64 (by omega) (by omega) ?_|refine Ld.own 0 rfl rfl ?_) <;> (conv=>whnf))|(refine cnd_lt (fun _=>?_) (fun _=>?_) <;> first|(exfalso;omega)|(conv=>whnf))
  all_goals exact RetN.all rfl
 ·refine fn0_of_codeI ok D.ref02_Name rfl ?_
  conv=>whnf
  repeat ((first|refine opsI.step ?_|refine codeI.step ?_);conv=>whnf)
  repeat' first|((first|(show Idx _ _ _ _ _;refine Idx.one 1 rfl rfl (by decide) ?_)|((first|refine opsI.step ?_|refine codeI.step ?_))|intro (_:Nat)|refine WrapN.i64 (by omega) (by omega) ?_|refine Ld.own 0 rfl rfl ?_) <;> (conv=>whnf))|(refine cnd_lt (fun _=>?_) (fun _=>?_) <;> first|(exfalso;omega)|(conv=>whnf))
  all_goals exact RetN.all rfl
 ·refine fn0_of_codeI ok D.ref02_Name rfl ?_
  conv=>whnf
  repeat ((first|refine opsI.step ?_|refine codeI.step ?_);conv=>whnf)
  repeat' first|((first|(show Idx _ _ _ _ _;refine Idx.one 2 rfl rfl (by decide) ?_)|((first|refine opsI.step ?_|refine codeI.step ?_))|intro (_:Nat)|refine WrapN.i64 (by omega) (by omega) ?_|refine Ld.own 0 rfl rfl ?_) <;> (conv=>whnf))|(refine cnd_lt (fun _=>?_) (fun _=>?_) <;> first|(exfalso;omega)|(conv=>whnf))
  all_goals exact RetN.all rfl
 ·refine fn0_of_codeI ok D.ref02_Name rfl ?_
  conv=>whnf
  repeat ((first|refine opsI.step ?_|refine codeI.step ?_);conv=>whnf)
  repeat' first|((first|(show Idx _ _ _ _ _;refine Idx.one 3 rfl rfl (by decide) ?_)|((first|refine opsI.step ?_|refine codeI.step ?_))|intro (_:Nat)|refine WrapN.i64 (by omega) (by omega) ?_|refine Ld.own 0 rfl rfl ?_) <;> (conv=>whnf))|(refine cnd_lt (fun _=>?_) (fun _=>?_) <;> first|(exfalso;omega)|(conv=>whnf))
  all_goals exact RetN.all rfl
 ·refine fn0_of_codeI ok D.ref02_Name rfl ?_
  conv=>whnf
  repeat ((first|refine opsI.step ?_|refine codeI.step ?_);conv=>whnf)
  repeat' first|((first|(show Idx _ _ _ _ _;refine Idx.one 4 rfl rfl (by decide) ?_)|((first|refine opsI.step ?_|refine codeI.step ?_))|intro (_:Nat)|refine WrapN.i64 (by omega) (by omega) ?_|refine Ld.own 0 rfl rfl ?_) <;> (conv=>whnf))|(refine cnd_lt (fun _=>?_) (fun _=>?_) <;> first|(exfalso;omega)|(conv=>whnf))
  all_goals exact RetN.all rfl
 ·refine fn0_of_codeI ok D.ref02_Name rfl ?_
  conv=>whnf
  repeat ((first|refine opsI.step ?_|refine codeI.step ?_);conv=>whnf)
  repeat' first|((first|(show Idx _ _ _ _ _;refine Idx.one 5 rfl rfl (by decide) ?_)|((first|refine opsI.step ?_|refine codeI.step ?_))|intro (_:Nat)|refine WrapN.i64 (by omega) (by omega) ?_|refine Ld.own 0 rfl rfl ?_) <;> (conv=>whnf))|(refine cnd_lt (fun _=>?_) (fun _=>?_) <;> first|(exfalso;omega)|(conv=>whnf))
  all_goals exact RetN.all rfl
 ·refine fn0_of_codeI ok D.ref02_Name rfl ?_
  conv=>whnf
  repeat ((first|refine opsI.step ?_|refine codeI.step ?_);conv=>whnf)
  repeat' first|((first|(show Idx _ _ _ _ _;refine Idx.one 6 rfl rfl (by decide) ?_)|((first|refine opsI.step ?_|refine codeI.step ?_))|intro (_:Nat)|refine WrapN.i64 (by omega) (by omega) ?_|refine Ld.own 0 rfl rfl ?_) <;> (conv=>whnf))|(refine cnd_lt (fun _=>?_) (fun _=>?_) <;> first|(exfalso;omega)|(conv=>whnf))
  all_goals exact RetN.all rfl
 ·refine fn0_of_codeI ok D.ref02_Name rfl ?_
  conv=>whnf
  repeat ((first|refine opsI.step ?_|refine codeI.step ?_);conv=>whnf)
  repeat' first|((first|(show Idx _ _ _ _ _;refine Idx.one 7 rfl rfl (by decide) ?_)|((first|refine opsI.step ?_|refine codeI.step ?_))|intro (_:Nat)|refine WrapN.i64 (by omega) (by omega) ?_|refine Ld.own 0 rfl rfl ?_) <;> (conv=>whnf))|(refine cnd_lt (fun _=>?_) (fun _=>?_) <;> first|(exfalso;omega)|(conv=>whnf))
  all_goals exact RetN.all rfl
end Go.Proofs.YtmblpmegfmgjgaaGreatDoor
/- ExprPrints: its law. -/
namespace Go.Proofs.YtmblpmegfmgjgaaGreatDoor
open Go Go.Vc Go.Dig
attribute [local irreducible] Vc.Fn
end Go.Proofs.YtmblpmegfmgjgaaGreatDoor