/- expr.Print. -/
import Derived.Test.YtbgicephinomlaaGreatDoorE26
set_option linter.unusedVariables false
set_option linter.unusedSimpArgs false
namespace Go.Proofs.YtbgicephinomlaaGreatDoor
open Go Go.Vc Go.Dig
theorem placeX_byte {x:List Nat × Int} (low:Int) (h:∀y∈x.1,y<256):∀y∈placeX x low,y<256:=fun y hy=>by
 unfold placeX at hy
 split at hy
 ·exact h y hy
 ·rcases List.mem_append.1 hy with hy | hy
  ·rcases List.mem_append.1 hy with hy | hy
   ·simp only [List.mem_cons,List.not_mem_nil,or_false] at hy;omega
   ·exact h y hy
  ·simp only [List.mem_cons,List.not_mem_nil,or_false] at hy;omega
theorem joinF_byte:∀(b:Bool) (xs:List (List Nat × Int)),(∀x∈xs,∀y∈x.1,y<256)→∀y∈joinF b xs,y<256
 | true,[],_,y,hy=>by simp [joinF] at hy
 | false,[],_,y,hy=>by simp [joinF] at hy
 | true,x::r,h,y,hy=>by
  rw [joinF] at hy
  rcases List.mem_append.1 hy with hy | hy
  ·exact h x List.mem_cons_self y hy
  ·exact joinF_byte false r (fun z hz=>h z (List.mem_cons_of_mem _ hz)) y hy
 | false,x::r,h,y,hy=>by
  rw [joinF] at hy
  rcases List.mem_append.1 hy with hy | hy
  ·rcases List.mem_append.1 hy with hy | hy
   ·simp only [List.mem_cons,List.not_mem_nil,or_false] at hy;omega
   ·exact h x List.mem_cons_self y hy
  ·exact joinF_byte false r (fun z hz=>h z (List.mem_cons_of_mem _ hz)) y hy
theorem getD_byte {xs:List (List Nat × Int)} (h:∀x∈xs,∀y∈x.1,y<256) (i:Nat):∀y∈(xs.getD i ([],0)).1,y<256:=fun y hy=>by
 by_cases hi:i<xs.length
 ·rw [List.getD_eq_getElem?_getD,List.getElem?_eq_getElem hi] at hy
  exact h _ (List.getElem_mem hi) y hy
 ·rw [List.getD_eq_getElem?_getD,List.getElem?_eq_none (by omega)] at hy;simp at hy
theorem nodeX_byte (op arg:Int) (q:Rat) (name:List Nat) (xs:List (List Nat × Int)) (hn:∀y∈name,y<256) (h:∀x∈xs,∀y∈x.1,y<256):∀y∈nodeX op arg q name xs,y<256:=by
 have p0:=fun low=>placeX_byte low (getD_byte h 0)
 have p1:=fun low=>placeX_byte low (getD_byte h 1)
 have sg:∀y∈signX op,y<256:=by
  unfold signX
  (repeat' split) <;> intro y hy <;> simp only [List.mem_cons,List.not_mem_nil,or_false] at hy <;> omega
 have hh:=headX_byte op arg
 have hj:=joinF_byte true xs h
 have app:∀{a b:List Nat},(∀y∈a,y<256)→(∀y∈b,y<256)→∀y∈a++b,y<256:=fun {a b} x z y hy=>(List.mem_append.1 hy).elim (x y) (z y)
 unfold nodeX
 split
 ·exact fmtL_byte q
 split
 ·exact hn
 split
 ·decide
 split
 ·exact app (by decide) (p0 3)
 split
 ·exact app (app (p0 1) sg) (p1 2)
 split
 ·exact app (app (p0 2) sg) (p1 3)
 split
 ·exact app (p0 5) (app (by decide) (itT_byte arg))
 ·exact app (app hh hj) (by decide)
theorem nodeX_ne {op:Int} (arg:Int) (q:Rat) {name:List Nat} (xs:List (List Nat × Int)) (hn:op=2→name≠[]):nodeX op arg q name xs≠[]:=by
 unfold nodeX
 split
 ·exact fmtL_ne q
 split
 ·rename_i h;exact hn h
 repeat' split
 all_goals simp
 all_goals (unfold signX;(repeat' split) <;> simp)
theorem textT_ne {t:Tr} {d:Nat} (h:okT d t):textT t≠[]:=by
 obtain ⟨op,arg,neg,l,m,name,ks⟩:=t
 rw [okT] at h
 rw [textT]
 refine nodeX_ne _ _ _ fun e=>?_
 have:=h.2.1.2.2.2.1
 rw [if_pos e] at this
 exact this.2.2.1
mutual
theorem textT_byte:∀(t:Tr) (d:Nat) (h:Heap) (vs:List Value),okT d t→IsE h vs t→∀y∈textT t,y<256
 | .mk op arg neg l m name ks,d,h,vs,ho,w=>by
  obtain ⟨a,b,s,rfl,-,-,hv,hb,hk⟩:=w.isK
  rw [okT] at ho
  have hx:∀x∈textsT ks,∀y∈x.1,y<256:=by
   rcases hk.mem with e | ⟨bl,off,c,T,fz,-,-,h3⟩
   ·subst e;rw [textsT];simp
   ·exact textsT_byte ks (d+1) h c off ho.2.2 h3
  rw [textT]
  exact nodeX_byte _ _ _ _ _ hb hx
theorem textsT_byte:∀(ks:List Tr) (d:Nat) (h:Heap) (c:Array Value) (off:Nat),okTs d ks→IsKs h c off ks→∀x∈textsT ks,∀y∈x.1,y<256
 | [],_,_,_,_,_,_=>by rw [textsT];simp
 | t::ks,d,h,c,off,ho,w=>by
  rw [okTs] at ho
  rw [IsKs] at w
  obtain ⟨⟨vs,-,-,hE⟩,w2⟩:=w
  rw [textsT]
  intro x hx
  rcases List.mem_cons.1 hx with rfl | hx
  ·exact textT_byte t d h vs ho.1 hE
  ·exact textsT_byte ks d h c _ ho.2 w2 x hx
end
attribute [local irreducible] Vc.Fn
set_option maxRecDepth 20000 in
set_option maxHeartbeats 1000000 in
theorem text_ct (t:Tr) (d:Nat) (hok:okT d t) (hsz:szT t≤300) (h:Heap) (vs:List Value) (tb:Tb h) (pw:Pw h) (w:IsE h vs t):Fn0 T F.expr_text [.agg vs.toArray] h fun v h'=>v=.string (txt (textT t)):=by
 have hlen:=textT_len t d hok
 have hbyte:=textT_byte t d h vs hok w
 have hne:=textT_ne hok
 have hwr:=write_ct t d hok
 obtain ⟨⟨op,arg,neg,l,m,name,ks⟩,ht⟩:∃u,u=t:=⟨_,rfl⟩
 obtain ⟨a,b,s,hvs,-⟩:=(ht.symm▸w:IsE h vs (.mk op arg neg l m name ks)).isK
 subst hvs
 refine fn0_of_codeI ok D.expr_text rfl ?_
 conv=>whnf
 repeat ((first | refine opsI.step ?_ | refine codeI.step ?_);conv=>whnf)
 repeat' first | ((first | ((first | refine opsI.step ?_ | refine codeI.step ?_)) | intro (_:Nat) | refine LdN.own 1 rfl rfl ?_) <;> (conv=>whnf))
 rename_i be bb
 refine CallN.par2 (A:=[]) (Lp:=[_]) (B:=[_]) rfl (Fn.pan (hwr _ _ bb [] _ tb pw w ⟨_,_,[],rfl,.inl rfl,GrowS.nil _ _ _⟩ (by simp only [List.length_nil];omega))) (fun v h1 Lp hl1 hr=>?_) (fun _ _ _ _ x=>x.elim)
 obtain ⟨hB1,rfl⟩:=hr
 rw [List.nil_append] at hB1 ⊢
 conv=>whnf
 repeat' first | (((first | refine opsI.step ?_ | refine codeI.step ?_)) <;> (conv=>whnf))
 refine CallN.par2 (A:=[]) (Lp:=Lp) (B:=[_]) rfl (Fn.pan (String_ct _ bb _ _ hB1 hbyte hne (by omega))) (fun v h2 Lp2 hl2 hr=>?_) (fun _ _ _ _ x=>x.elim)
 obtain ⟨rfl,rfl⟩:=hr
 conv=>whnf
 repeat' first | (((first | refine opsI.step ?_ | refine codeI.step ?_)) <;> (conv=>whnf))
 exact RetN.all rfl
def printX (t:Tr):List Nat × Nat:=if ValT t then (if 4000<(textT t).length then ([],4) else (textT t,0)) else ([],40)
set_option maxRecDepth 20000 in
set_option maxHeartbeats 1000000 in
theorem Print_ct (t:Tr) (h:Heap) (vs:List Value) (tb:Tb h) (pw:Pw h) (w:IsE h vs t):Fn0 T F.expr_Print [.agg vs.toArray] h fun v h'=>v=.tuple #[.string (txt (printX t).1),.int .i64 (printX t).2]:=by
 have c1:=fun h tb w=>Valid_ct t h vs tb w
 have c2:=fun h tb pw w (x:ValT t)=>text_ct t 1 x.1 x.2 h vs tb pw w
 have hz:=txt_size (textT t)
 have r1:¬ValT t→printX t=([],40):=fun x=>if_neg x
 have r2:ValT t→4000<(textT t).length→printX t=([],4):=fun x y=>by unfold printX;rw [if_pos x,if_pos y]
 have r3:ValT t→¬4000<(textT t).length→printX t=(textT t,0):=fun x y=>by unfold printX;rw [if_pos x,if_neg y]
 obtain ⟨R,hR⟩:∃R,R=printX t:=⟨_,rfl⟩
 obtain ⟨X,hX⟩:∃X,X=textT t:=⟨_,rfl⟩
 rw [← hR] at r1 r2 r3 ⊢
 rw [← hX] at r2 r3 c2 hz
 obtain ⟨⟨op,arg,neg,l,m,name,ks⟩,ht⟩:∃u,u=t:=⟨_,rfl⟩
 obtain ⟨a,b,s,hvs,-⟩:=(ht.symm▸w:IsE h vs (.mk op arg neg l m name ks)).isK
 subst hvs
 refine fn0_of_codeI ok D.expr_Print rfl ?_
 conv=>whnf
 repeat ((first | refine opsI.step ?_ | refine codeI.step ?_);conv=>whnf)
 repeat' first | ((first | (show CallN _ _ _ _ _ _;first | (refine CallN.fn rfl (c1 _ (by assumption) (by assumption)) (fun v h' hl2 hr=>?_);subst hr) | (refine CallN.fn rfl (c2 _ (tb.mono (by assumption)) (pw.mono (by assumption)) (w.mono (by assumption)) (by assumption)) (fun v h' hl3 hr=>?_);subst hr)) | ((first | refine opsI.step ?_ | refine codeI.step ?_)) | intro (_:Nat) | refine LdN.own 0 rfl rfl ?_) <;> (conv=>whnf)) | (show cnd _ _ _;first | (refine cnd_lt (fun _=>?_) (fun _=>?_) <;> first | (exfalso;omega) | (conv=>whnf)) | (refine cnd_not ?_) | (refine cnd_dec (fun _=>?_) (fun _=>?_) <;> first | (exfalso;omega) | (conv=>whnf)))
 all_goals first
  | (rw [r1 (by assumption)];exact RetN.all rfl)
  | (rw [r2 (by assumption) (by omega)];exact RetN.all rfl)
  | (rw [r3 (by assumption) (by omega)];exact RetN.all rfl)
end Go.Proofs.YtbgicephinomlaaGreatDoor
/- The sanity check of every statement: one fixed text, its tree, and back. -/
namespace Go.Proofs.YtbgicephinomlaaGreatDoor
open Go Go.Vc Go.Dig
def saneL:List Nat:=[50,32,42,32,120]
def saneN:Tr:=.mk 1 0 false [2] [] [] []
def saneT:Tr:=nodeT 7 0 [saneN,varT [120]]
theorem two_num:(2:Rat).num=2∧(2:Rat).den=1:=by decide
theorem mkQ2:mkQ false 2 1=2:=by
 unfold mkQ
 rw [if_neg (by decide),Rat.mkRat_one]
 rfl
theorem dg2:dg 4294967296 2=[2]:=by
 rw [dg_pos two_le_B (by decide),show 2%4294967296=2 by decide,show 2 / 4294967296=0 by decide,dg_zero]
theorem fits2:fits 2:=by
 unfold fits nu
 rw [two_num.1,two_num.2]
 unfold ln
 rw [show (2:Int).natAbs=2 from rfl,dg2,dg_pos two_le_B (show 1≠0 by decide),show 1 / 4294967296=0 by decide,dg_zero]
 exact ⟨by decide,by decide⟩
theorem parse2:parseL [50]=(2,0):=by
 have:parseL [50]=outR (mkQ false 2 1):=by
  unfold parseL
  rw [if_neg (by decide),if_neg (by decide)]
  rfl
 rw [this,mkQ2]
 unfold outR
 rw [if_pos fits2]
theorem prs2:prs [50]=(false,[2],[]):=by
 unfold prs
 rw [parse2]
 unfold sg nu dn
 rw [two_num.1,two_num.2,if_pos rfl,show (2:Int).natAbs=2 from rfl,dg2,dg_zero]
 rfl
theorem scan_sane:scanX saneL.length saneL 0 []=([⟨1,[50],0⟩,⟨0,[42],2⟩,⟨2,[120],4⟩],-1):=by kernel_rfl
theorem top_sane:topP [⟨1,[50],0⟩,⟨0,[42],2⟩,⟨2,[120],4⟩]=.ok saneT 3 []:=by
 have:parseT [⟨1,[50],0⟩,⟨0,[42],2⟩,⟨2,[120],4⟩] prs=.ok (nodeT 7 0 [numT [50] prs,varT [120]]) 3 []:=by kernel_rfl
 unfold topP
 rw [this]
 unfold numT
 rw [prs2]
 rfl
theorem evl2:evl 4294967296 [2]=2:=by rw [evl_cons,evl_nil]
theorem decL2:decL 2=[50]:=by
 unfold decL
 rw [if_neg (by decide),dg_pos two_le_10 (by decide),show 2 / 10=0 by decide,dg_zero]
 rfl
theorem rat2:ratOf false [2] []=2:=by
 unfold ratOf
 rw [evl_nil,if_pos rfl,evl2,mkQ2]
theorem okR2:okR false [2] []:=by
 unfold okR
 rw [rat2]
 refine ⟨?_,?_,fits2⟩
 ·rw [evl2];unfold ln;rw [dg2];decide
 ·rw [evl_nil];unfold ln;rw [dg_zero];decide
theorem numB2:numB false [2] []:=⟨okR2,by rw [rat2];decide⟩
theorem isnm_x:IsNm [120]:=by decide
theorem val_sane:ValT saneT:=by
 unfold ValT saneT saneN nodeT varT
 simp only [okT,okTs,szT,szTs]
 refine ⟨⟨by decide,?_,⟨by decide,?_,trivial⟩,⟨by decide,?_,trivial⟩,trivial⟩,by decide⟩
 ·exact ⟨rfl,by decide,by decide,by rw [if_neg (by decide)],by rw [if_neg (by decide),evl_nil]⟩
 ·exact ⟨rfl,by decide,by decide,by rw [if_neg (by decide)],by rw [if_pos rfl];exact numB2⟩
 ·exact ⟨rfl,by decide,by decide,by rw [if_pos rfl];exact isnm_x,by rw [if_neg (by decide),evl_nil]⟩
theorem can2:canQ false [2] []=2:=by unfold canQ;rw [if_pos okR2,rat2]
theorem clone_sane:cloneT saneT=saneT:=by
 unfold saneT saneN nodeT varT
 simp only [cloneT,cloneTs]
 rw [if_neg (by decide),if_pos trivial,can2]
 unfold sg nu dn
 rw [two_num.1,two_num.2,if_pos rfl,show (2:Int).natAbs=2 from rfl,dg2,dg_zero]
 rfl
theorem parse_sane:parseX saneL=(saneT,0,0):=by
 have hc:chkT [⟨1,[50],0⟩,⟨0,[42],2⟩,⟨2,[120],4⟩] []=(0,0):=by
  have e1:List.find? (fun t=>decide (badN1 t)) [⟨1,[50],0⟩,⟨0,[42],2⟩,⟨2,[120],4⟩]=none:=by decide
  have e2:List.filter (fun t=>decide (badN2 t)) [⟨1,[50],0⟩,⟨0,[42],2⟩,⟨2,[120],4⟩]=[]:=by
   refine List.filter_eq_nil_iff.2 fun t ht=>?_
   simp only [List.mem_cons,List.not_mem_nil,or_false] at ht
   rcases ht with rfl | rfl | rfl
   ·simp only [decide_eq_true_eq]
    intro h
    exact h.2 (by rw [parse2])
   ·simp only [decide_eq_true_eq];intro h;exact absurd h.1 (by decide)
   ·simp only [decide_eq_true_eq];intro h;exact absurd h.1 (by decide)
  unfold chkT
  rw [e1,e2]
  rfl
 unfold parseX
 rw [if_neg (by decide),scan_sane,if_neg (by decide),top_sane]
 simp only
 rw [hc,if_neg (by decide)]
 unfold chkdT
 rw [if_pos val_sane,clone_sane]
theorem text_sane:textT saneT=saneL:=by
 have e:fmtL 2=[50]:=by
  unfold fmtL sg nu
  rw [two_num.1,two_num.2,if_neg (by decide),if_pos rfl,show (2:Int).natAbs=2 from rfl,decL2]
  rfl
 unfold saneT saneN nodeT varT
 simp only [textT,textsT]
 rw [rat2]
 unfold nodeX
 simp only [show ¬((7:Int)=1) by decide,show ¬((7:Int)=2) by decide,show ¬((7:Int)=3) by decide,show ¬((7:Int)=4) by decide,show ¬((2:Int)=1) by decide,if_false,if_true,e]
 rfl
theorem print_sane:printX saneT=(saneL,0):=by
 unfold printX
 rw [if_pos val_sane,text_sane,if_neg (by decide)]
theorem Idx.kidC {h:Heap} {s:Sl} {ts:List Tr} (w:IsK h s ts) {i:Int} {k:Addr→Prop} (j:Nat) (t:Tr) (hi:i=j) (ht:ts[j]?=some t)
  (hk:∀(ad:Addr) (vs:List Value),IsE h vs t→(∀h' L m,h.le h'→m<7→Has h' L (ad.add m) (vs.getD m undef))→k ad):Idx s.a i s.l 7 k:=by
 obtain ⟨hj,-⟩:=List.getElem?_eq_some_iff.1 ht
 rcases w.mem with e | ⟨bl,off,c,T,fz,e1,e2,e3⟩
 ·subst e;simp at ht
 ·obtain ⟨vs,h1,h2,h3⟩:=IsKs.get e3 ht
  refine Idx.of j e1 hi (by rw [w.len];exact hj) (hk _ vs h3 fun h' L m hl hm=>?_)
  rw [add_lit]
  refine Has.imm (hl _ _ e2) ?_
  rw [h2 m hm,List.getD_eq_getElem?_getD,List.getElem?_eq_getElem (by omega)]
  rfl
attribute [local irreducible] Vc.Fn
set_option maxRecDepth 20000 in
set_option maxHeartbeats 1000000 in
theorem sane_ct (h:Heap) (tb:Tb h) (pw:Pw h):Fn0 T F.law04_sane [] h fun v h'=>v=.bool true:=by
 have c1:=fun h tb=>Parse_c h tb saneL (by decide)
 rw [parse_sane] at c1
 have c2:=fun h tb pw vs w=>Print_ct saneT h vs tb pw w
 rw [print_sane] at c2
 replace c1:∀h,Tb h→Fn0 T F.expr_Parse [.string (txt saneL)] h fun v h'=>∃a,v=.tuple #[a,.int .i64 (0:Nat),.int .i64 (0:Nat)]∧VE h' a saneT:=c1
 replace c2:∀h,Tb h→Pw h→∀vs,IsE h vs saneT→Fn0 T F.expr_Print [.agg vs.toArray] h fun v h'=>v=.tuple #[.string (txt saneL),.int .i64 (0:Nat)]:=c2
 refine fn0_of_codeI ok D.law04_sane rfl ?_
 conv=>whnf
 repeat ((first | refine opsI.step ?_ | refine codeI.step ?_);conv=>whnf)
 repeat' first | ((first | (show CallN _ _ _ _ _ _;first | (refine CallN.fn rfl (c1 _ tb) (fun v h' hl hr=>?_);obtain ⟨_,rfl,op,ar,ng,nn,dd,nm,ss,rfl,hE⟩:=hr;obtain ⟨rfl,rfl,rfl,hv0,hnm,hb0,hks⟩:=IsE.inv hE;have hkl:=hks.len;rw [show [saneN,varT [120]].length=2 from rfl] at hkl;have c2':=c2 _ (tb.mono hl) (pw.mono hl) _ hE) | (refine CallN.fn rfl c2' (fun v h' hl hr=>?_);subst hr;have hks2:=hks.mono hl)) | (show Idx _ _ _ _ _;(refine Idx.kidC hks2 1 (varT [120]) rfl rfl (fun ad vs hE1 hld=>?_);obtain ⟨va,vb,vss,rfl,-⟩:=(hE1:IsE _ _ (.mk 2 0 false [] [] [120] [])).isK)) | (show Ld _ _ _ _;first | refine Ld.of (hld _ _ 5 (Heap.le_refl _) (by decide)) ?_ | refine Ld.own 0 rfl rfl ?_) | ((first | refine opsI.step ?_ | refine codeI.step ?_)) | intro (_:Nat) | refine LdN.own 0 rfl rfl ?_ | refine Sto.lit 0 rfl rfl rfl ?_) <;> (conv=>whnf)) | (show cnd _ _ _;first | (refine cnd_txt (a:=saneL) (b:=saneL) (by decide) (by decide) (fun _=>?_) (fun hx=>absurd rfl hx);conv=>whnf) | (refine cnd_eq (fun _=>?_) (fun _=>?_) <;> first | (exfalso;omega) | (conv=>whnf)) | (refine cnd_not ?_))
 refine RetN.all ?_
 congr 1
 unfold seq
 exact beq_self_eq_true _
end Go.Proofs.YtbgicephinomlaaGreatDoor
/- ExprNames: its law. -/
namespace Go.Proofs.YtbgicephinomlaaGreatDoor
open Go Go.Vc Go.Dig
attribute [local irreducible] Vc.Fn
end Go.Proofs.YtbgicephinomlaaGreatDoor