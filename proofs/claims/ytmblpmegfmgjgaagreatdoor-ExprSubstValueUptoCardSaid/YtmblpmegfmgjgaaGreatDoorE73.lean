/- The laws of values where literals stand for variables. -/
import Derived.Test.YtmblpmegfmgjgaaGreatDoorE69
import Derived.Test.YtmblpmegfmgjgaaGreatDoorE54
set_option linter.unusedVariables false
set_option linter.unusedSimpArgs false
namespace Go.Proofs.YtmblpmegfmgjgaaGreatDoor
open Go Go.Vc Go.Dig
theorem litsB_names (vals:List (List Nat × Rat)):(litsB vals).map (·.1)=vals.map (·.1):=by
 unfold litsB;rw [List.map_map];rfl
theorem subst_value {bs:List (List Nat × Option Rat)} {t:Tr} (hv:∀b∈stripV bs,fits b.2) (h:(valX bs t).2.2=0):(substX (litsB (stripV bs)) t).2=4∨(substX (litsB (stripV bs)) t).2=0∧valX [] (substX (litsB (stripV bs)) t).1=valX bs t:=by
 obtain ⟨h1,h2,h3⟩:=valX_inv h
 have b1:ValB (litsB (stripV bs)):=fun b hb=>by
  unfold litsB at hb
  obtain ⟨x,hx,rfl⟩:=List.mem_map.1 hb
  exact mkL_val1 (hv x hx)
 have b2:NmsB (litsB (stripV bs)):=by
  refine ⟨fun b hb=>?_,by rw [litsB_names,stripV_names];exact h2.2⟩
  have:b.1∈bs.map (·.1):=by
   rw [← stripV_names bs,← litsB_names];exact List.mem_map_of_mem hb
  obtain ⟨y,hy,e⟩:=List.mem_map.1 this
  rw [← e];exact h2.1 y hy
 rw [substX_ok ⟨h1,b1⟩ b2]
 by_cases hx:ValT (rplT (byM (litsB (stripV bs))) t)
 ·right
  have e:chkdT (rplT (byM (litsB (stripV bs))) t)=(cloneT (rplT (byM (litsB (stripV bs))) t),0):=if_pos hx
  rw [e]
  refine ⟨rfl,?_⟩
  rw [valX_of (val_clone hx) NmsB_nil SmlV_nil,valX_of h1 h2 h3]
  show optX (valT [] (cloneT (rplT (byM (litsB (stripV bs))) t)))=_
  rw [clone_val hx.1,rpl_val hv h1.1]
 ·left
  have e:chkdT (rplT (byM (litsB (stripV bs))) t)=(zeroT,4):=if_neg hx
  rw [e]
def BC (h:Heap):List Value→List (List Nat × Tr)→Prop
 | xs,[]=>xs=[]
 | xs,(n,t)::bs=>∃vs ys,xs=(.string (txt n)::vs)++ys∧(∀y∈n,y<256)∧vs.length=7∧IsE h vs t∧BC h ys bs
theorem BC.mono {h h':Heap} (hl:h.le h'):∀{bs:List (List Nat × Tr)} {xs:List Value},BC h xs bs→BC h' xs bs
 | [],_,e=>e
 | (_,_)::_,_,⟨vs,ys,e,b,l,i,r⟩=>⟨vs,ys,e,b,l,i.mono hl,BC.mono hl r⟩
theorem BC.snoc {h:Heap} {n:List Nat} {vs:List Value} {t:Tr} (hb:∀y∈n,y<256) (hv:vs.length=7) (i:IsE h vs t):∀{bs:List (List Nat × Tr)} {xs:List Value},BC h xs bs→BC h (xs++(.string (txt n)::vs)) (bs++[(n,t)])
 | [],_,e=>⟨vs,[],by rw [show _=[] from e];simp,hb,hv,i,rfl⟩
 | (_,_)::_,_,⟨us,ys,e,b,l,j,r⟩=>⟨us,ys++(.string (txt n)::vs),by rw [e,List.append_assoc],b,l,j,BC.snoc hb hv i r⟩
theorem BC.isb {h:Heap} {c:Array Value}:∀{bs:List (List Nat × Tr)} {xs:List Value} {off:Nat},BC h xs bs→(∀i,i<xs.length→c[off+i]?=xs[i]?)→IsBs h c off bs
 | [],_,_,_,_=>trivial
 | (n,t)::bs,xs,off,⟨vs,ys,e,b,l,j,r⟩,g=>by
  subst e
  refine ⟨⟨?_,b,vs,l,fun i hi=>?_,j⟩,BC.isb r fun i hi=>?_⟩
  ·have:=g 0 (by simp)
   rwa [Nat.add_zero] at this
  ·have:=g (1+i) (by simp;omega)
   rw [← Nat.add_assoc] at this
   rw [this,List.cons_append,show 1+i=i+1 by omega,List.getElem?_cons_succ,List.getElem?_append_left (by omega)]
  ·have:=g (8+i) (by simp;omega)
   rw [← Nat.add_assoc] at this
   rw [this,List.cons_append,show 8+i=(7+i)+1 by omega,List.getElem?_cons_succ,List.getElem?_append_right (by omega),show 7+i-vs.length=i by omega]
theorem RetN.rowB {e:TypeId} {v:Value} {n:Nat} {xs:List Value} {acc:List (List Nat × Tr)} {h:Heap} {X tl:Vc.Own} {R:Value→Heap→Prop} (g:GrowS e 8 v n xs X) (k:BC h xs acc) (hn:n=acc.length)
  (hk:∀h' (s:Sl),h.le h'→v=s.val→IsB h' s acc→R v h'):RetN v h (X++tl) fun v h' L'=>L'=[]∧R v h':=by
 obtain ⟨g1,⟨rfl,rfl⟩ | ⟨i,b,cap,zs,rfl,h2,h3,h4⟩⟩:=g
 ·obtain rfl:acc=[]:=List.length_eq_zero_iff.1 hn.symm
  exact RetN.all (hk h ⟨none,0,0⟩ (Heap.le_refl _) rfl ⟨rfl,Nat.le_refl _,.inl rfl⟩)
 ·have hlt:=(List.getElem?_eq_some_iff.1 h2).1
  refine RetN.keep i (by rw [List.getElem?_append_left hlt];exact h2) fun hle=>?_
  refine RetN.all (hk _ ⟨some ⟨b,0,none⟩,n,cap⟩ hle rfl ⟨hn,h3,.inr ⟨b,0,(xs++zs).toArray,e,(0,0),rfl,by simp [Heap.put],BC.isb (k.mono hle) fun i hi=>?_⟩⟩)
  rw [Nat.zero_add,List.getElem?_toArray,List.getElem?_append_left hi]
theorem mkL_x {x:Option Rat} (h:x.isSome=true):litX x=(mkL (x.getD 0),0):=by
 cases x with
 | none=>cases h
 | some q=>rfl
set_option maxRecDepth 20000 in
set_option maxHeartbeats 1000000 in
theorem literals_ct (bs:List (List Nat × Option Rat)) (hbl:bs.length≤1048576) (hsm:SmlV bs) (sb:Sl) (h:Heap) (tb:Tb h) (wb:IsV h sb bs):Fn0 T F.law04_literals [sb.val] h fun v h'=>∃s:Sl,v=s.val∧IsB h' s (litsB (stripV bs)):=by
 have hsl:=wb.len
 have hll:(litsB (stripV bs)).length=bs.length:=by unfold litsB stripV;simp
 refine fn0_of_codeI ok D.law04_literals rfl ?_
 conv=>whnf
 repeat ((first | refine opsI.step ?_ | refine codeI.step ?_);conv=>whnf)
 skip
 refine LoopN.of (fun r ρ hx L=>∃(j:Nat) (V:Value) (F1:Vc.Own) (xs:List Value),r=bs.length-j∧h.le hx∧j≤bs.length∧rd ρ 4=.int .i64 j∧rd ρ 3=V∧L=F1++[]∧GrowS 104 8 V j xs F1∧BC hx xs (litsB (stripV (bs.take j)))) bs.length
  ⟨0,_,[],[],rfl,Heap.le_refl _,Nat.zero_le _,rfl,rfl,rfl,GrowS.nil _ _ _,rfl⟩ ?_
 conv=>whnf
 repeat intro _
 rename_i r hx L2 hI
 obtain ⟨j,V,F1,xs,rfl,hle,hj,e4,e3,rfl,gF,hK⟩:=hI
 conv at e4=>lhs;whnf
 subst e4
 conv at e3=>lhs;whnf
 subst e3
 by_cases hjl:j=bs.length
 ·subst hjl
  rw [List.take_length] at hK
  conv=>whnf
  repeat ((first | refine opsI.step ?_ | refine codeI.step ?_);conv=>whnf)
  repeat' first | ((first | ((first | refine opsI.step ?_ | refine codeI.step ?_))) <;> (conv=>whnf)) | (refine cnd_lt (fun _=>?_) (fun _=>?_) <;> first | (exfalso;omega) | (conv=>whnf))
  exact RetN.rowB gF hK hll.symm fun h' s' hl hs hb=>⟨s',hs,hb⟩
 ·obtain ⟨⟨n,x⟩,hu⟩:∃x,bs[j]?=some x:=⟨_,List.getElem?_eq_getElem (by omega)⟩
  have wbx:=wb.mono hle
  have hnb:=wb.bytes hu
  have hx1:=hsm _ (List.mem_of_getElem? hu)
  have c1:=fun h tb n a b w=>Literal_ct h tb n a b x w
  rw [mkL_x hx1] at c1
  have htk:litsB (stripV (bs.take (j+1)))=litsB (stripV (bs.take j))++[(n,mkL (x.getD 0))]:=by
   rw [take_snoc hu,stripV_snoc];unfold litsB;rw [List.map_append];rfl
  obtain ⟨Y,hY⟩:∃Y,Y=mkL (x.getD 0):=⟨_,rfl⟩
  simp only [← hY] at c1 htk
  replace c1:∀h,Tb h→∀n (a b:Sl),IsNum h n a b x→Fn0 T F.expr_Literal [.agg #[.bool n,a.val,b.val]] h fun v h'=>∃a,v=.tuple #[a,.int .i64 0]∧VE h' a Y:=c1
  conv=>whnf
  repeat ((first | refine opsI.step ?_ | refine codeI.step ?_);conv=>whnf)
  repeat' first | ((first | (show LdN _ _ _ _ _;first | refine LdN.ownAt 0 rfl rfl ?_ | (refine LdN.hasN [.bool ng,a2.val,b2.val] rfl (fun i v hv=>h2 _ _ i v (by (iterate 30 (try first | assumption | exact Heap.le_refl _));first | done | assumption) hv) ?_)) | (show DrawN _ _ _ _ _ _;refine DrawN.own [_] (by exact List.Sublist.cons_cons _ (List.nil_sublist _)) (by decide +kernel) ?_) | (refine ⟨fun _=>⟨HasLe.of_le (by first | exact Heap.le_refl _ | assumption | exact Heap.le_trans (by assumption) (by assumption)),by first | exact List.Sublist.cons_cons _ (List.nil_sublist _) | exact List.Sublist.cons _ (List.Sublist.cons_cons _ (List.nil_sublist _)) | repeat first | exact List.nil_sublist _ | apply List.Sublist.cons_cons | refine List.Sublist.trans ?_ (List.sublist_append_right _ _) | apply List.Sublist.cons⟩,?_⟩) | ((first | refine opsI.step ?_ | refine codeI.step ?_)) | intro (_:Nat) | (show Idx _ _ _ _ _;refine Idx.valu wbx j n x (by omega) hu (fun bl off ng a2 b2 hnn hE h1 h2=>?_)) | (show Ld _ _ _ _;refine Ld.of (h1 _ _ (by assumption)) ?_) | (show CallN _ _ _ _ _ _;(refine CallN.fn rfl (c1 _ (by (iterate 30 (try first | assumption | refine Tb.mono ?_ (by assumption)));first | done | assumption) _ _ _ (by assumption)) (fun v h' hl2 hr=>?_);obtain ⟨_,rfl,op4,ar4,ng4,nn4,dd4,nm4,ss4,rfl,hE4⟩:=hr;have hK2:=hK.mono hl2)) | (show App _ _ _ _ _ _ _ _ _;refine App.growK (A:=[_,_]) (F:=F1) (size:=8) (bytes:=128) (z:=[.string (txt []),.int .i64 0,.int .i64 0,.bool false,.slice none 0 0,.slice none 0 0,.string (txt []),.slice none 0 0]) rfl rfl gF ⟨_,0,none⟩ 1 1 [_,_,_,_,_,_,_,_] rfl (Has.front _) rfl (by decide) (by omega) (by omega) (by decide) (fun v' F' g'=>?_)) | refine WrapN.i64 (by omega) (by omega) ?_ | refine Sto.lit 0 rfl rfl rfl ?_) <;> (conv=>whnf)) | (refine cnd_lt (fun _=>?_) (fun _=>?_) <;> first | (exfalso;omega) | (conv=>whnf))
  all_goals exact ⟨rfl,bs.length-(j+1),by omega,j+1,_,_::_::F',_,rfl,(by (iterate 30 (try first | assumption | refine Heap.le_trans ?_ (by assumption)));first | done | assumption),by omega,vi (by omega),rfl,rfl,(g'.cons _).cons _,by rw [htk];exact BC.snoc hnb rfl hE4 hK2⟩
set_option maxRecDepth 20000 in
set_option maxHeartbeats 2000000 in
theorem SubstValue_law (h:Heap) (tb:Tb h) (pw:Pw h) (t:Tr) (vs:List Value) (w:IsE h vs t) (sb:Sl) (bs:List (List Nat × Option Rat)) (wb:IsV h sb bs) (hbl:bs.length≤1048576):Fn0 T F.law04_ExprSubstValue [.agg vs.toArray,sb.val] h fun v h'=>v=.bool true:=by
 have hv:=strip_fits wb
 have hf:=valX_fits (t:=t) hv
 have sv:=subst_value (t:=t) hv
 have hll:(litsB (stripV bs)).length=bs.length:=by unfold litsB stripV;simp
 have c1:=fun h tb wb w=>Value_ct bs (by omega) sb t h vs tb wb w
 have c2:=fun h tb wb (x:(valX bs t).2.2=0)=>literals_ct bs hbl (valX_inv x).2.2 sb h tb wb
 have c3:=fun h s tb wb w=>Subst_ct (litsB (stripV bs)) (by omega) s t h vs tb wb w
 have c9:=fun h tb pw=>sane_ct h tb pw
 obtain ⟨⟨X1,X2,X3⟩,hX⟩:∃X,X=valX bs t:=⟨_,rfl⟩
 obtain ⟨⟨Y1,Y2⟩,hY⟩:∃Y,Y=substX (litsB (stripV bs)) t:=⟨_,rfl⟩
 rw [← hX] at hf
 rw [← hX,← hY] at sv
 simp only [← hX] at c1 c2
 simp only [← hY] at c3
 replace hf:fits X1:=hf
 replace sv:X3=0→Y2=4∨Y2=0∧valX [] Y1=(X1,X2,X3):=sv
 have c4:=fun h us tb w (x:X3=0) (y:Y2=0)=>Value_ct [] (by decide) ⟨none,0,0⟩ Y1 h us tb (IsV.nil h) w
 have sv1:X3=0→Y2≠0→Y2=4:=fun x y=>(sv x).resolve_right fun z=>y z.1
 have c5:∀h us,Tb h→IsE h us Y1→X3=0→Y2=0→Fn0 T F.expr_Value [.agg us.toArray,.slice none 0 0] h fun v h'=>∃a b:Sl,v=.tuple #[.agg #[.bool (sg X1),a.val,b.val],.bool X2,.int .i64 0]∧IsRat h' a b X1:=fun h us tb w x y=>by
  have e:=(sv x).resolve_left (by omega)
  have:=c4 h us tb w x y
  rw [e.2,x] at this
  exact this
 replace c1:∀h,Tb h→IsV h sb bs→IsE h vs t→Fn0 T F.expr_Value [.agg vs.toArray,sb.val] h fun v h'=>∃a b:Sl,v=.tuple #[.agg #[.bool (sg X1),a.val,b.val],.bool X2,.int .i64 X3]∧IsRat h' a b X1:=c1
 replace c2:∀h,Tb h→IsV h sb bs→X3=0→Fn0 T F.law04_literals [sb.val] h fun v h'=>∃s:Sl,v=s.val∧IsB h' s (litsB (stripV bs)):=c2
 replace c3:∀h s,Tb h→IsB h s (litsB (stripV bs))→IsE h vs t→Fn0 T F.expr_Subst [.agg vs.toArray,Sl.val s] h fun v h'=>∃a,v=.tuple #[a,.int .i64 Y2]∧VE h' a Y1:=c3
 have c6:=fun h a b c d w w'=>SameP h (sg X1) a b X1 (sg X1) c d X1 w w'
 simp only [dec_true] at c6
 obtain ⟨S,hS⟩:∃S,S=sg X1:=⟨_,rfl⟩
 have nn:∀h a b,IsRat h a b X1→IsNum h S a b (some X1):=fun h a b w=>hS▸w.isnum hf
 simp only [← hS] at c1 c5 c6
 obtain ⟨LB,hLB⟩:∃S,S=litsB (stripV bs):=⟨_,rfl⟩
 simp only [← hLB] at c2 c3
 clear hX hY hS c4 sv hLB
 obtain ⟨⟨op,arg,neg,l,m,name,ks⟩,ht⟩:∃x,x=t:=⟨_,rfl⟩
 obtain ⟨a,b,s,hvs,-⟩:=(ht.symm▸w:IsE h vs (.mk op arg neg l m name ks)).isK
 subst hvs
 refine fn0_of_codeI ok D.law04_ExprSubstValue rfl ?_
 cases X2
 all_goals
  conv=>whnf
  repeat ((first | refine opsI.step ?_ | refine codeI.step ?_);conv=>whnf)
  repeat' first | ((first | (show LdN _ _ _ _ _;first | refine LdN.ownAt 0 rfl rfl ?_ | refine LdN.ownAt 1 rfl rfl ?_ | refine LdN.ownAt 2 rfl rfl ?_) | (show DrawN _ _ _ _ _ _;refine DrawN.run (by decide +kernel) ?_) | (show CallN _ _ _ _ _ _;first | (refine CallN.fn rfl (c1 _ (by assumption) (wb.mono (by (iterate 30 (try first | assumption | exact Heap.le_refl _));first | done | assumption)) (by assumption)) (fun v h' hl2 hr=>?_);obtain ⟨a5,b5,rfl,hq5⟩:=hr;have hn5:=nn _ _ _ hq5) | (refine CallN.fn rfl (c2 _ (by (iterate 30 (try first | assumption | refine Tb.mono ?_ (by assumption)));first | done | assumption) (wb.mono (by assumption)) (by omega)) (fun v h' hl2 hr=>?_);obtain ⟨s6,rfl,hb6⟩:=hr) | (refine CallN.fn rfl (c3 _ _ (by (iterate 30 (try first | assumption | refine Tb.mono ?_ (by assumption)));first | done | assumption) (hb6.mono (by (iterate 30 (try first | assumption | exact Heap.le_refl _));first | done | assumption)) (by (iterate 30 (try first | assumption | refine IsE.mono ?_ (by assumption)));first | done | assumption)) (fun v h' hl2 hr=>?_);obtain ⟨_,rfl,op4,ar4,ng4,nn4,dd4,nm4,ss4,rfl,hE4⟩:=hr) | (refine CallN.fn rfl (c5 _ _ (by (iterate 30 (try first | assumption | refine Tb.mono ?_ (by assumption)));first | done | assumption) (by assumption) (by omega) (by omega)) (fun v h' hl2 hr=>?_);obtain ⟨a7,b7,rfl,hq7⟩:=hr;have hn7:=nn _ _ _ hq7) | (refine CallN.fn rfl (c6 _ _ _ _ _ (by (iterate 30 (try first | assumption | refine IsNum.mono ?_ (by assumption)));first | done | assumption) (by (iterate 30 (try first | assumption | refine IsNum.mono ?_ (by assumption)));first | done | assumption)) (fun v h' hl2 hr=>?_);subst hr) | (refine CallN.fn rfl (c9 _ (by (iterate 30 (try first | assumption | refine Tb.mono ?_ (by assumption)));first | done | assumption) (by iterate 16 (try first | assumption | refine Pw.mono ?_ (by assumption)))) (fun v h' hl2 hr=>?_);subst hr)) | ((first | refine opsI.step ?_ | refine codeI.step ?_)) | refine ⟨fun _=>HasLe.of_le (by assumption),?_⟩ | refine ⟨fun _=>HasLe.cons _,?_⟩ | refine ⟨fun hst=>(by cases (show true=false from hst)),?_⟩ | intro (_:Nat) | refine Sto.lit 0 rfl rfl rfl ?_) <;> (conv=>whnf)) | (show cnd _ _ _;first | (refine cnd_eq (fun _=>?_) (fun _=>?_) <;> first | (exfalso;omega) | (conv=>whnf)) | (refine cnd_not ?_) | (refine cnd_beq (fun _=>?_) (fun hne=>?_) <;> first | exact absurd rfl hne | (conv=>whnf))) | (refine Both.mk ?_ ?_ <;> (conv=>whnf))
  all_goals first
   | exact RetN.all rfl
   | exact RetN.all (by rw [Vc.eq_true' (by have:=sv1 (by omega) (by omega);omega)])
end Go.Proofs.YtmblpmegfmgjgaaGreatDoor